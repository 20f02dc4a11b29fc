/- TopFirst: part 26: TopChk1 TopChk2 TopWrite TopRound. -/
import Derived.Test.YtclgigmgbebhgaaGreatDoorF25
set_option linter.unusedVariables false
set_option linter.unusedSimpArgs false
set_option maxRecDepth 100000
set_option maxHeartbeats 16000000
namespace Go.Proofs.YtclgigmgbebhgaaGreatDoor
open Tryz
open Go Go.Proofs Go.RowKit
variable {K N m:Nat} {ad:Option Addr} {W W':World}
abbrev vg:Nat:=305
def kindOk(K:Nat):Prop:=K=1\/K=21\/K=13\/K=14\/K=25\/K=26\/K=27\/K=28
theorem vd{c:Nat}(h:codeOk c):kindOk (Zx c):=by
 rcases h with rfl|rfl|rfl|rfl|rfl|rfl|rfl|rfl;·exact .inl rfl
 ·exact .inr (.inl rfl)
 ·exact .inr (.inr (.inl rfl))
 ·exact .inr (.inr (.inr (.inl rfl)))
 ·exact .inr (.inr (.inr (.inr (.inl rfl))))
 ·exact .inr (.inr (.inr (.inr (.inr (.inl rfl)))))
 ·exact .inr (.inr (.inr (.inr (.inr (.inr (.inl rfl))))))
 ·exact .inr (.inr (.inr (.inr (.inr (.inr (.inr rfl))))))
structure JV(i:ZN)(K r:Nat):Prop where
 k:kindOk K
 fit:i.fit
 load:K=1->i.k%4=0/\i.k<64
 jump:K=13->i.k<r
 br:25<=K->i.jt<r/\i.jf<r
 r:r<=5000
theorem pS (h:kindOk K){J:Int}(C:(K:Int)=J)(w:World):Calls prog 326 #[.int .i64 J] w λe w'=>e=.returned (.bool false)/\w=w':=by
 subst C;rcases h with rfl|rfl|rfl|rfl|rfl|rfl|rfl|rfl
 all_goals
  go_enter func326,ntmps326;go_wp2_with fail;go_ret;exact⟨rfl,rfl⟩
theorem jP{i:ZN}{r:Nat}(h:JV i K r)(w:World):Calls prog 256 #[.agg #[.int .u16 i.code,.int .u8 i.jt,.int .u8 i.jf,.int .u32 i.k,.int .i64 K,.bool false,.int .i64 r]] w λe w'=>e=.returned (.int .i64 0)/\Below w.heap.size w w':=by
 obtain⟨hk,C,D,Z,hb,hr⟩:=h;obtain⟨ic,U,T,ik⟩:=i;obtain⟨f1,f2,f3,f4⟩:=C;dsimp only at D Z hb f1 f2 f3 f4 ⊢;have HB:=aT (λcs=>(aG w.heap.size w).alloc (aR _) (.cells cs vg));obtain⟨J,hJ⟩:∃J:Int,(K:Int)=J:=⟨_,rfl⟩;have I:J=1\/J=21\/J=13\/J=14\/J=25\/J=26\/J=27\/J=28:=by unfold kindOk at hk;omega
 rw[hJ];have Y:=Z7.new w vg #[.int .u16 ic,.int .u8 U,.int .u8 T,.int .u32 ik,.int .i64 J,.bool false,.int .i64 r];obtain⟨c0,c1,c2,c3,c4,c5,c6⟩:=Y.q7;clear Y;rcases I with rfl|rfl|rfl|rfl|rfl|rfl|rfl|rfl
 all_goals
  clear D Z hb;go_enter func256,ntmps256;go_wp2_with fail
  all_goals
   go_ret;exact⟨rfl,HB _⟩
theorem jN{i:ZN}{r:Nat}(h:JV i K r)(w:World):Calls prog 257 #[.agg #[.int .u16 i.code,.int .u8 i.jt,.int .u8 i.jf,.int .u32 i.k,.int .i64 K,.bool false,.int .i64 r]] w λe w'=>e=.returned (.int .i64 0)/\Below w.heap.size w w':=by
 obtain⟨hk,D,C,Z,hb,hr⟩:=h;obtain⟨ic,Y,U,I⟩:=i;obtain⟨f1,f2,f3,f4⟩:=D;dsimp only at C Z hb f1 f2 f3 f4 ⊢;have HB:=aT (λcs=>(aG w.heap.size w).alloc (aR _) (.cells cs vg));obtain⟨J,hJ⟩:∃J:Int,(K:Int)=J:=⟨_,rfl⟩;have T:J=1\/J=21\/J=13\/J=14\/J=25\/J=26\/J=27\/J=28:=by unfold kindOk at hk;omega
 rw[hJ];have hB:=Z7.new w vg #[.int .u16 ic,.int .u8 Y,.int .u8 U,.int .u32 I,.int .i64 J,.bool false,.int .i64 r];obtain⟨c0,c1,c2,c3,c4,c5,c6⟩:=hB.q7;clear hB;rcases T with rfl|rfl|rfl|rfl|rfl|rfl|rfl|rfl
 all_goals
  try
   have h0:=C jO;obtain⟨h1,h2⟩:=h0;have e1:((I:Int).tmod 4)=0:=by rw[Int.tmod_eq_emod_of_nonneg jO];omega
   have e2:¬(64:Int)<=(I:Int):=jO;have e3:(I:Int)%4=0:=jO
  clear C Z hb;go_enter func257,ntmps257;go_wp2_with fail
  all_goals
   go_ret;exact⟨rfl,HB _⟩
theorem jM{i:ZN}{r:Nat}(h:JV i K r)(w:World):Calls prog 258 #[.agg #[.int .u16 i.code,.int .u8 i.jt,.int .u8 i.jf,.int .u32 i.k,.int .i64 K,.bool false,.int .i64 r]] w λe w'=>e=.returned (.int .i64 0)/\Below w.heap.size w w':=by
 obtain⟨hk,C,D,Z,hb,hr⟩:=h;obtain⟨ic,U,T,ik⟩:=i;obtain⟨f1,f2,f3,f4⟩:=C;dsimp only at D Z hb f1 f2 f3 f4 ⊢;have HB:=aT (λcs=>(aG w.heap.size w).alloc (aR _) (.cells cs vg));obtain⟨J,hJ⟩:∃J:Int,(K:Int)=J:=⟨_,rfl⟩;have I:J=1\/J=21\/J=13\/J=14\/J=25\/J=26\/J=27\/J=28:=by unfold kindOk at hk;omega
 rw[hJ];have Y:=Z7.new w vg #[.int .u16 ic,.int .u8 U,.int .u8 T,.int .u32 ik,.int .i64 J,.bool false,.int .i64 r];obtain⟨c0,c1,c2,c3,c4,c5,c6⟩:=Y.q7;clear Y;rcases I with rfl|rfl|rfl|rfl|rfl|rfl|rfl|rfl
 all_goals
  clear D Z hb;go_enter func258,ntmps258
  go_wp2_with (go_at_call 326;refine(pS hk hJ _).mono ?_;rintro e w' ⟨rfl,rfl⟩)
  all_goals
   go_ret;exact⟨rfl,HB _⟩
theorem u6q{i:ZN}{r:Nat}(h:JV i K r)(w:World):Calls prog 259 #[.agg #[.int .u16 i.code,.int .u8 i.jt,.int .u8 i.jf,.int .u32 i.k,.int .i64 K,.bool false,.int .i64 r]] w λe w'=>e=.returned (.int .i64 0)/\Below w.heap.size w w':=by
 obtain⟨hk,C,D,Z,hb,hr⟩:=h;obtain⟨ic,U,T,ik⟩:=i;obtain⟨f1,f2,f3,f4⟩:=C;dsimp only at D Z hb f1 f2 f3 f4 ⊢;have HB:=aT (λcs=>(aG w.heap.size w).alloc (aR _) (.cells cs vg));obtain⟨J,hJ⟩:∃J:Int,(K:Int)=J:=⟨_,rfl⟩;have I:J=1\/J=21\/J=13\/J=14\/J=25\/J=26\/J=27\/J=28:=by unfold kindOk at hk;omega
 rw[hJ];have Y:=Z7.new w vg #[.int .u16 ic,.int .u8 U,.int .u8 T,.int .u32 ik,.int .i64 J,.bool false,.int .i64 r];obtain⟨c0,c1,c2,c3,c4,c5,c6⟩:=Y.q7;clear Y;rcases I with rfl|rfl|rfl|rfl|rfl|rfl|rfl|rfl
 all_goals
  clear D Z hb;go_enter func259,ntmps259;go_wp2_with fail
  all_goals
   go_ret;exact⟨rfl,HB _⟩
theorem jL{i:ZN}{r:Nat}(h:JV i K r)(w:World):Calls prog 260 #[.agg #[.int .u16 i.code,.int .u8 i.jt,.int .u8 i.jf,.int .u32 i.k,.int .i64 K,.bool false,.int .i64 r]] w λe w'=>e=.returned (.int .i64 0)/\Below w.heap.size w w':=by
 obtain⟨hk,I,T,Y,hb,hr⟩:=h;obtain⟨ic,D,C,U⟩:=i;obtain⟨f1,f2,f3,f4⟩:=I;dsimp only at T Y hb f1 f2 f3 f4 ⊢;have HB:=aT (λcs=>(aG w.heap.size w).alloc (aR _) (.cells cs vg));obtain⟨J,hJ⟩:∃J:Int,(K:Int)=J:=⟨_,rfl⟩;have Z:J=1\/J=21\/J=13\/J=14\/J=25\/J=26\/J=27\/J=28:=by unfold kindOk at hk;omega
 rw[hJ];have hB:=Z7.new w vg #[.int .u16 ic,.int .u8 D,.int .u8 C,.int .u32 U,.int .i64 J,.bool false,.int .i64 r];obtain⟨c0,c1,c2,c3,c4,c5,c6⟩:=hB.q7;clear hB;rcases Z with rfl|rfl|rfl|rfl|rfl|rfl|rfl|rfl
 all_goals
  try
   have h1:=Y jO;have e0:IntKind.i64.wrap (U:Int)=(U:Int):=aJ _ jO;have e1:¬(r:Int)<=(U:Int):=jO
  try
   have h0:=hb jO;obtain⟨h1,h2⟩:=h0;have e0:IntKind.i64.wrap (D:Int)=(D:Int):=aJ _ jO;have e0b:IntKind.i64.wrap (C:Int)=(C:Int):=aJ _ jO;have e1:¬(r:Int)<=(D:Int):=jO;have e2:¬(r:Int)<=(C:Int):=jO
  clear T Y hb;go_enter func260,ntmps260;go_wp2_with fail
  all_goals
   go_ret;exact⟨rfl,HB _⟩
theorem u5q{i:ZN}{r:Nat}(h:JV i K r)(w:World):Calls prog 183 #[.agg #[.int .u16 i.code,.int .u8 i.jt,.int .u8 i.jf,.int .u32 i.k,.int .i64 K,.bool false,.int .i64 r]] w λe w'=>e=.returned (.int .i64 0)/\Below w.heap.size w w':=by
 have gZ:∀(fn:Fn) (first cap:Array Value) (w:World),(Instr.makeFunc fn first cap).run prog w=.ok (.func fn first cap) w:=λ_ _ _ _=>rfl
 have HH:=aT h;have hB:=Z7.new w vg #[.int .u16 i.code,.int .u8 i.jt,.int .u8 i.jf,.int .u32 i.k,.int .i64 K,.bool false,.int .i64 r];obtain⟨c0,c1,c2,c3,c4,c5,c6⟩:=hB.q7;have hb1:=(aG w.heap.size w).alloc (aR _) (.cells #[.int .u16 i.code,.int .u8 i.jt,.int .u8 i.jf,.int .u32 i.k,.int .i64 K,.bool false,.int .i64 r] vg);have U:=aT hb1;clear hB h hb1;obtain⟨I,D,C,J⟩:=i;dsimp only at*;go_enter func183,ntmps183;go_upto_region 1 with fail;generalize w.alloc (.cells #[.int .u16 I,.int .u8 D,.int .u8 C,.int .u32 J,.int .i64 K,.bool false,.int .i64 r] vg)=w1 at*;have VE:=aT (U.alloc U.size (.cells #[.func (.func 256) #[.agg #[.int .u16 I,.int .u8 D,.int .u8 C,.int .u32 J,.int .i64 K,.bool false,.int .i64 r]] #[],.func (.func 257) #[.agg #[.int .u16 I,.int .u8 D,.int .u8 C,.int .u32 J,.int .i64 K,.bool false,.int .i64 r]] #[],.func (.func 258) #[.agg #[.int .u16 I,.int .u8 D,.int .u8 C,.int .u32 J,.int .i64 K,.bool false,.int .i64 r]] #[],.func (.func 259) #[.agg #[.int .u16 I,.int .u8 D,.int .u8 C,.int .u32 J,.int .i64 K,.bool false,.int .i64 r]] #[],.func (.func 260) #[.agg #[.int .u16 I,.int .u8 D,.int .u8 C,.int .u32 J,.int .i64 K,.bool false,.int .i64 r]] #[]] 82));have T:=aT (Z7.new w1 82 #[.func (.func 256) #[.agg #[.int .u16 I,.int .u8 D,.int .u8 C,.int .u32 J,.int .i64 K,.bool false,.int .i64 r]] #[],.func (.func 257) #[.agg #[.int .u16 I,.int .u8 D,.int .u8 C,.int .u32 J,.int .i64 K,.bool false,.int .i64 r]] #[],.func (.func 258) #[.agg #[.int .u16 I,.int .u8 D,.int .u8 C,.int .u32 J,.int .i64 K,.bool false,.int .i64 r]] #[],.func (.func 259) #[.agg #[.int .u16 I,.int .u8 D,.int .u8 C,.int .u32 J,.int .i64 K,.bool false,.int .i64 r]] #[],.func (.func 260) #[.agg #[.int .u16 I,.int .u8 D,.int .u8 C,.int .u32 J,.int .i64 K,.bool false,.int .i64 r]] #[]]);go_upto_region 2 with(refine Great.wpList_buildSliceTo rfl 88 82 5 _ rfl _ rfl _ rfl underlying88 #[.func (.func 256) #[.agg #[.int .u16 I,.int .u8 D,.int .u8 C,.int .u32 J,.int .i64 K,.bool false,.int .i64 r]] #[],.func (.func 257) #[.agg #[.int .u16 I,.int .u8 D,.int .u8 C,.int .u32 J,.int .i64 K,.bool false,.int .i64 r]] #[],.func (.func 258) #[.agg #[.int .u16 I,.int .u8 D,.int .u8 C,.int .u32 J,.int .i64 K,.bool false,.int .i64 r]] #[],.func (.func 259) #[.agg #[.int .u16 I,.int .u8 D,.int .u8 C,.int .u32 J,.int .i64 K,.bool false,.int .i64 r]] #[],.func (.func 260) #[.agg #[.int .u16 I,.int .u8 D,.int .u8 C,.int .u32 J,.int .i64 K,.bool false,.int .i64 r]] #[]] jK ?_)
 generalize w1.alloc (.cells #[.func (.func 256) #[.agg #[.int .u16 I,.int .u8 D,.int .u8 C,.int .u32 J,.int .i64 K,.bool false,.int .i64 r]] #[],.func (.func 257) #[.agg #[.int .u16 I,.int .u8 D,.int .u8 C,.int .u32 J,.int .i64 K,.bool false,.int .i64 r]] #[],.func (.func 258) #[.agg #[.int .u16 I,.int .u8 D,.int .u8 C,.int .u32 J,.int .i64 K,.bool false,.int .i64 r]] #[],.func (.func 259) #[.agg #[.int .u16 I,.int .u8 D,.int .u8 C,.int .u32 J,.int .i64 K,.bool false,.int .i64 r]] #[],.func (.func 260) #[.agg #[.int .u16 I,.int .u8 D,.int .u8 C,.int .u32 J,.int .i64 K,.bool false,.int .i64 r]] #[]] 82)=w2 at*;generalize w1.heap.size=BL at*;clear U;go_loopg [18] 6 (λgg iv wr=>∃n:Nat,n<=5/\5-n<gg/\iv=.int .i64 (n:Int)/\Hid (Below w.heap.size w wr)/\Hid (Z7 wr BL 82 #[.func (.func 256) #[.agg #[.int .u16 I,.int .u8 D,.int .u8 C,.int .u32 J,.int .i64 K,.bool false,.int .i64 r]] #[],.func (.func 257) #[.agg #[.int .u16 I,.int .u8 D,.int .u8 C,.int .u32 J,.int .i64 K,.bool false,.int .i64 r]] #[],.func (.func 258) #[.agg #[.int .u16 I,.int .u8 D,.int .u8 C,.int .u32 J,.int .i64 K,.bool false,.int .i64 r]] #[],.func (.func 259) #[.agg #[.int .u16 I,.int .u8 D,.int .u8 C,.int .u32 J,.int .i64 K,.bool false,.int .i64 r]] #[],.func (.func 260) #[.agg #[.int .u16 I,.int .u8 D,.int .u8 C,.int .u32 J,.int .i64 K,.bool false,.int .i64 r]] #[]]));case atStart=>exact⟨0,jO,jO,rfl,VE,T⟩
 case round=>
  obtain⟨n,hn,Vs,rfl,U,T⟩:=hrel;clear VE c0 c1 c2 c3 c4 c5 c6;by_cases hlt:n<5
  ·rcases (show n=0\/n=1\/n=2\/n=3\/n=4 from jO) with rfl|rfl|rfl|rfl|rfl
   ·have y0:=T.e0;go_wp2_with fail;refine(jP HH wr).mono ?_;rintro e w' ⟨rfl,hb⟩;have Z:=aT (U.trans (hb.mono U.size));have Y:=aT (T.below hb T.lt);clear hb y0 U T;go_wp2_with fail;go_roundg (5-0);case measure=>omega
    case rel=>exact⟨1,jO,jO,by go_num,Z,Y⟩
   ·have y0:=T.e1;go_wp2_with fail;refine(jN HH wr).mono ?_;rintro e w' ⟨rfl,hb⟩;have Z:=aT (U.trans (hb.mono U.size));have Y:=aT (T.below hb T.lt);clear hb y0 U T;go_wp2_with fail;go_roundg (5-1);case measure=>omega
    case rel=>exact⟨2,jO,jO,by go_num,Z,Y⟩
   ·have y0:=T.e2;go_wp2_with fail;refine(jM HH wr).mono ?_;rintro e w' ⟨rfl,hb⟩;have Z:=aT (U.trans (hb.mono U.size));have Y:=aT (T.below hb T.lt);clear hb y0 U T;go_wp2_with fail;go_roundg (5-2);case measure=>omega
    case rel=>exact⟨3,jO,jO,by go_num,Z,Y⟩
   ·have y0:=T.e3;go_wp2_with fail;refine(u6q HH wr).mono ?_;rintro e w' ⟨rfl,hb⟩;have Z:=aT (U.trans (hb.mono U.size));have Y:=aT (T.below hb T.lt);clear hb y0 U T;go_wp2_with fail;go_roundg (5-3);case measure=>omega
    case rel=>exact⟨4,jO,jO,by go_num,Z,Y⟩
   ·have y0:=T.e4;go_wp2_with fail;refine(jL HH wr).mono ?_;rintro e w' ⟨rfl,hb⟩;have Z:=aT (U.trans (hb.mono U.size));have Y:=aT (T.below hb T.lt);clear hb y0 U T;go_wp2_with fail;go_roundg (5-4);case measure=>omega
    case rel=>exact⟨5,jO,jO,by go_num,Z,Y⟩
  ·obtain rfl:n=5:=by omega
   have Zd:¬(((5:Nat):Int)<5):=jO;go_wp2_with fail;go_ret;exact⟨rfl,U⟩
def NM(i:ZN):List Value:=[.int .u16 i.code,.int .u8 i.jt,.int .u8 i.jf,.int .u32 i.k]
abbrev XD:Nat:=166
theorem OO:(prog.info? XD).map (λi=>(i.zero,i.size,i.bytes))=some (some (.agg #[.int .u16 0,.int .u8 0,.int .u8 0,.int .u32 0]),4,8):=jK
def I4(N:Nat)(W:World)(ad:Option Addr)(l:List ZN):Prop:=∀(i:Nat) (x:ZN),l[i]? =some x->∃g off,ad=some ⟨g,off,none⟩/\g<N/\W.cell? ⟨g,off+i*4,none⟩=some (.int .u16 x.code)/\W.cell? ⟨g,off+i*4+1,none⟩=some (.int .u8 x.jt)/\W.cell? ⟨g,off+i*4+2,none⟩=some (.int .u8 x.jf)/\W.cell? ⟨g,off+i*4+3,none⟩=some (.int .u32 x.k)
theorem I4.below(hb:Below K W W')(hN:N<=K) {l:List ZN}(h:I4 N W ad l):I4 N W' ad l:=λi x hx=>by
 obtain⟨g,off,e,hl,J,I,D,C⟩:=h i x hx;exact⟨g,off,e,hl,ZY hb hN hl J,ZY hb hN hl I,ZY hb hN hl D,ZY hb hN hl C⟩
theorem JU {B n c:Nat} {l:List ZN}(hn:l.length=n)(h:W.ownsRow B XD 4 (.slice ad n c) n (l.flatMap NM)):I4 W.heap.size W ad l:=λi x hx=>by
 obtain⟨g,e,_,hc⟩:=X9 NM 4 (λ_=>rfl) hn h hx;have C:=hc 0 jD;have J:=hc 1 jD;have I:=hc 2 jD;have D:=hc 3 jD;simp only[NM,aec,aM,aH] at C J I D;refine⟨g,0,e,afg _ _ C,?_⟩;simp only[ade];exact⟨C,J,I,D⟩
structure XP(out:List ZN)(n:Nat):Prop where
 len:out.length=n
 pos:1<=n
 max:n<=4096
 fit:∀x∈out,x.fit
 ok:∀i x,out[i]? =some x->qJ x (n-1-i)
 last:∀x,out[n-1]? =some x->x.code=0x06
theorem XP.code{out:List ZN}{n:Nat}(h:XP out n){i:Nat}{x:ZN}(hx:out[i]? =some x):codeOk x.code:=H9 (h.ok i x hx).1
theorem aa3{c:Nat}(hc:codeOk c)(h:Zx c=1):c=0x20:=by
 rcases hc with rfl|rfl|rfl|rfl|rfl|rfl|rfl|rfl<;>first|rfl|(exact absurd h jD)
theorem yv{c:Nat}(hc:codeOk c)(h:Zx c=13):c=0x05:=by
 rcases hc with rfl|rfl|rfl|rfl|rfl|rfl|rfl|rfl<;>first|rfl|(exact absurd h jD)
theorem jJ{c:Nat}(hc:codeOk c)(h:25<=Zx c):YS c=true:=by
 rcases hc with rfl|rfl|rfl|rfl|rfl|rfl|rfl|rfl<;>first|rfl|(exact absurd h jD)
theorem XP.kind{out:List ZN}{n:Nat}(h:XP out n){i:Nat}{x:ZN}(hx:out[i]? =some x):JV x (Zx x.code) (n-1-i):=by
 have hc:=h.code hx;obtain⟨_,D,I,C⟩:=h.ok i x hx;exact⟨vd hc,h.fit x (ag hx),λe=>D (aa3 hc e),λe=>I (yv hc e),λe=>C (jJ hc e),by have:=h.max;omega⟩
theorem Pk{c n:Nat} {out:List ZN}(h:XP out n)(w:World)(hm:I4 N w ad out)(hN:N<=w.heap.size):
 Calls prog 113 #[.slice ad n c] w λe w'=>e=.returned (.tuple #[.int .i64 0,.int .i64 0])/\Below w.heap.size w w':=by
 have H:=aT h;have HM:=aT hm;have hp:=h.pos;have hmx:=h.max;have nz:((n:Int) == 0)=false:=by rw[af];omega
 have ng:¬(4096:Int)<(n:Int):=jO;obtain⟨P,hP⟩:=jX (n-1);have w0:IntKind.i64.wrap ((n:Int)-1)=(P:Int):=by rw[aJ _ jO];omega
 have HP:=aT hP;clear h hm hP;go_enter func113,ntmps113;go_upto_region 6 with fail;go_loopg [24] (n+1) (λgg iv wr=>∃k:Nat,k<=n/\n-k<gg/\iv=.int .i64 (k:Int)/\Hid (Below w.heap.size w wr));case atStart=>exact⟨0,abd _,jO,rfl,aG _ _⟩
 case round=>
  obtain⟨k,hk,Vs,rfl,J⟩:=hrel;have k0:=jZ k;by_cases hlt:k<n
  ·have Zd:(k:Int)<(n:Int):=by omega
   have iw:=jW k;obtain⟨x,hx⟩:∃x,out[k]? =some x:=⟨_,aL (by rw[H.out.len];exact hlt)⟩;obtain⟨g,off,rfl,C,c0,c1,c2,c3⟩:=HM k x hx;have y0:=ZY J hN C c0;have y1:=ZY J hN C c1;have y2:=ZY J hN C c2;have y3:=ZY J hN C c3;have hc:=H.code hx;have Y:=H.kind hx;obtain⟨R,hR⟩:=jX (n-1-k);rw[hR] at Y;have w1:IntKind.i64.wrap ((P:Int)-(k:Int))=(R:Int):=by have:=HP.out;rw[aJ _ jO];omega
   have HKR:=aT Y;obtain⟨xc,xt,xf,xk⟩:=x;dsimp only at y0 y1 y2 y3 hc;have HA:=aT (Z7.new wr XD #[.int .u16 xc,.int .u8 xt,.int .u8 xf,.int .u32 xk]);have U:=aT (J.alloc J.size (.cells #[.int .u16 xc,.int .u8 xt,.int .u8 xf,.int .u32 xk] XD));have I:=aT (V1 hc (wr.alloc (.cells #[.int .u16 xc,.int .u8 xt,.int .u8 xf,.int .u32 xk] XD)));clear c0 c1 c2 c3 hx Y hR J hc;go_upto_region 8 with fail;generalize wr.alloc (.cells #[.int .u16 xc,.int .u8 xt,.int .u8 xf,.int .u32 xk] XD)=wa at*;generalize wr.heap.size=B1 at*;clear y0 y1 y2 y3;have z0:=HA.e0;go_wp2_with fail;refine I.mono ?_;rintro e w2 ⟨rfl,hb⟩;have Z:=HA.below hb HA.lt;have D:=aT (U.trans (hb.mono U.size));clear z0 I hb HA U;obtain⟨z0,z1,z2,z3⟩:=Z.q4;have T:=aT (u5q HKR w2);dsimp only at T;obtain⟨KN,qy⟩:=jX (Zx xc);rw[qy] at T ⊢;clear qy Z;go_wp2_with fail;refine T.mono ?_;rintro e w3 ⟨rfl,hb⟩;have Uy:=aT (D.trans (hb.mono D.size));clear z0 z1 z2 z3 hb T D;go_wp2_with fail;go_roundg (n-k);case measure=>omega
   case rel=>exact⟨k+1,jO,jO,by go_num,Uy⟩
  ·obtain rfl:k=n:=by omega
   have Zd:¬(k:Int)<(k:Int):=jO;obtain⟨x,hx⟩:∃x,out[P]? =some x:=⟨_,aL (by rw[H.out.len,<-HP.out];omega)⟩;obtain⟨g,off,rfl,C,c0,c1,c2,c3⟩:=HM P x hx;have hl6:=H.last x (by rw[HP.out];exact hx);have y0:=ZY J hN C c0;obtain⟨xc,xt,xf,xk⟩:=x;dsimp only at hl6 y0;subst hl6;have P0:=jZ P;have P1:(P:Int)<(k:Int):=by have:=HP.out;omega
   have I:Hid (Calls prog 109 #[.int .u16 6] wr λe w'=>e=.returned (.tuple #[.int .i64 14,.bool false,.bool true])/\Below wr.heap.size wr w'):=qX wr;clear c0 c1 c2 c3 hx;go_wp2_with fail;refine I.mono ?_;rintro e w2 ⟨rfl,hb⟩;have D:=aT (J.trans (hb.mono J.size));clear hb I y0;go_wp2_with fail;go_ret2;exact⟨rfl,D⟩
theorem yu:(prog.info? 5).map (λi=>(i.zero,i.size,i.bytes))=some (some (.int .u8 0),1,1):=jK
def fG(b:Nat):Value:=.int .u8 (b:Int)
def Zl(bs:List Nat):List Value:=bs.map fG
structure u3q(B:Nat)(l:List ZN)(w W:World)(v:Value)(m:Nat):Prop where
 Zr:Below B w W
 row:W.ownsRow B 5 1 v (m*8) (Zl (Yz (l.take m)))
 lo:B<=w.heap.size
theorem u3q.bl{B:Nat}{l:List ZN}{w:World}{v:Value}(h:u3q B l w W v m)(hb:Below W.heap.size W W'):u3q B l w W' v m:=⟨h.Zr.trans (hb.mono (aO h.lo h.Zr.size)),ZC h.row hb,h.lo⟩
theorem I3{l:List ZN} {x:ZN}(h:l[m]? =some x):Yz (l.take (m+1))=Yz (l.take m)++x.bytes:=by
 unfold Yz;rw[afd,h,aca];simp
theorem He{c n:Nat} (l:List ZN)(hn:l.length=n)(Xo:n<=1000000)(U:∀x∈l,x.fit)(w:World)(hm:I4 N w ad l)(hN:N<=w.heap.size):
 Calls prog 27 #[.slice ad n c] w λe w'=>∃v,e=.returned v/\w'.ownsRow w.heap.size 5 1 v (n*8) (Zl (Yz l))/\Below w.heap.size w w':=by
 have HM:=aT hm;have HL:=aT hn;have HF:=aT U;obtain⟨i0,hi,hz0,hz1,hz2⟩:=ZP yu;have Ge:Hid (u3q w.heap.size l w w (.slice none 0 0) 0):=⟨aG _ _,Ya _ _ _ _,aR _⟩;clear hm hn U;go_enter func27,ntmps27;go_upto_region 3 with fail;go_loopg [3,8] (n+1) (λgg v iv wr=>∃m:Nat,m<=n/\n-m<gg/\iv=.int .i64 (m:Int)/\Hid (u3q w.heap.size l w wr v m));case atStart=>exact⟨0,abd _,jO,rfl,Ge⟩
 case round=>
  obtain⟨m,zj,Vs,rfl,HA⟩:=hrel;clear Ge;have m0:=jZ m;by_cases hlt:m<n
  ·have Zd:(m:Int)<(n:Int):=by omega
   have iw:=jW m;obtain⟨x,hx⟩:∃x,l[m]? =some x:=⟨_,aL (by rw[HL.out];exact hlt)⟩;obtain⟨g,off,rfl,UW,c0,c1,c2,c3⟩:=(HM.below HA.Zr hN) m x hx;have HX:=aT (I3 hx);have hf:=HF x (ag hx);obtain⟨xc,Y,Z,C⟩:=x;obtain⟨hf0,vE,hf2,hf3⟩:=hf;dsimp only at c0 c1 c2 c3 hf0 vE hf2 hf3;unfold ZN.bytes at HX;dsimp only at HX;have HT:=aT (Z7.new wr XD #[.int .u16 xc,.int .u8 Y,.int .u8 Z,.int .u32 C]);have Oi:=aT (HA.bl ((aG wr.heap.size wr).alloc (aR _) (.cells #[.int .u16 xc,.int .u8 Y,.int .u8 Z,.int .u32 C] XD)));have b0:IntKind.u8.wrap (xc:Int)=((xc%256:Nat):Int):=by rw[atd];omega
   have b1:IntKind.u8.wrap ((xc:Int)/256)=((xc/256%256:Nat):Int):=by rw[atd];omega
   have b2:IntKind.u8.wrap (C:Int)=((C%256:Nat):Int):=by rw[atd];omega
   have b3:IntKind.u8.wrap ((C:Int)/256)=((C/256%256:Nat):Int):=by rw[atd];omega
   have b4:IntKind.u8.wrap ((C:Int)/65536)=((C/65536%256:Nat):Int):=by rw[atd];omega
   have b5:IntKind.u8.wrap ((C:Int)/16777216)=((C/16777216%256:Nat):Int):=by rw[atd];omega
   generalize xc%256=B0 at*;generalize xc/256%256=B1 at*;generalize C%256=B2 at*;generalize C/256%256=B3 at*;generalize C/65536%256=B4 at*;generalize C/16777216%256=B5 at*;clear HA hx;go_upto_region 5 with fail;generalize wr.alloc (.cells #[.int .u16 xc,.int .u8 Y,.int .u8 Z,.int .u32 C] XD)=wa at*;generalize wr.heap.size=T9 at*;clear c0 c1 c2 c3;obtain⟨z0,z1,z2,z3⟩:=HT.q4;have J:=aT (Oi.bl ((aG wa.heap.size wa).alloc (aR _) (.cells #[.int .u8 B0,.int .u8 B1,.int .u8 Y,.int .u8 Z,.int .u8 B2,.int .u8 B3,.int .u8 B4,.int .u8 B5] 5)));have I2:w.heap.size<=(wa.alloc (.cells #[.int .u8 B0,.int .u8 B1,.int .u8 Y,.int .u8 Z,.int .u8 B2,.int .u8 B3,.int .u8 B4,.int .u8 B5] 5)).heap.size:=J.Zr.size
   go_wp2_with (at_builtin;refine aea _ rfl _ _ 42 rfl w.heap.size 5 i0 (.int .u8 0) 1 1 underlying42 hi hz0 hz1 hz2 rfl jD _ (m*8) _ rfl J.row ⟨wa.heap.size,0,none⟩ 8 8 [.int .u8 B0,.int .u8 B1,.int .u8 Y,.int .u8 Z,.int .u8 B2,.int .u8 B3,.int .u8 B4,.int .u8 B5] rfl ?c1 ?c2 ?c3 ?c4 ?c5 ?c6 ?_;(case c1=>rfl);(case c2=>exact YX rfl);(case c3=>simp[Value.oneCell']);(case c4=>unfold maxLen;omega);(case c5=>omega);(case c6=>exact I2);intro v' w6 T D _)
   have sj:Hid (u3q w.heap.size l w w6 v' (m+1)):=by refine⟨J.Zr.grown D J.Zr.size (λk e=>(J.row.lt k e).1),?_,aR _⟩;rw[HX.out,show(m+1)*8=m*8+8 from jO];unfold Zl;rw[ada];exact T
   clear T D;go_wp2_with fail;go_roundg (n-m);case measure=>omega
   case rel=>exact⟨m+1,jO,jO,by go_num,sj⟩
  ·obtain rfl:m=n:=by omega
   have Zd:¬(m:Int)<(m:Int):=jO;have I:=HA.row;rw[abe (by rw[HL.out];exact aR _)] at I;have HR:=aT I;clear I;go_wp2_with fail;go_ret;exact⟨_,rfl,HR,HA.Zr⟩
end Go.Proofs.YtclgigmgbebhgaaGreatDoor
namespace Go.Proofs.YtclgigmgbebhgaaGreatDoor
open Tryz
open Go Go.Proofs
def TA(K:Act->World->Prop):Exit->Act->World->Prop
 | .normal,a,w=>K a w
 |_,_,_=>False
theorem AG{l n:Nat}{P:Program}{o:Oper}{a:Act}{w:World}{next:Act->World->Prop}{Q:Exit->Act->World->Prop}(hd:∀c,o.op≠.defer c)(h:o.wp P a w next Q):o.wpIn (Fence.wide.inRound l) n P a w next Q:=by
 refine⟨λ_ _=>trivial,?_⟩;rw[show(Fence.wide.inRound l).round=some l from rfl,atb l _ _ hd];unfold Oper.wp at h;generalize (execOp a.eval o).run P w=r at*;cases r with
 |ok x w'=>
  cases x with
  |value v=>exact h
  |skip=>exact h
  |defer d=>exact h
  |enter f args=>exact⟨λe=>by simp[Fence.inRound,Fence.wide] at e,CallsIn.inRound l (ajc.2 h)⟩
  |row row args=>exact⟨λe=>by simp[Fence.inRound,Fence.wide] at e,λc cs _=>by obtain⟨v,w',r,s⟩:=h c cs;exact⟨v,w',r,stepsIn_wide.2 s⟩⟩
  |_=>exact h.elim
 |halt x w'=>
  cases x with
  |panic v=>exact h
  |_=>exact h.elim
theorem F3{l n i:Nat}{P:Program}{ops:Array Oper}{a:Act}{w:World}{K:Act->World->Prop}{C:Act->World->Prop}(hd:∀o,ops[i]? =some o->∀c,o.op≠.defer c)(h:wpOp P ops (TA C) i K a w):wpOpIn (Fence.wide.inRound l) n P ops (TA C) i K a w:=by
 unfold wpOp at h;unfold wpOpIn;cases ho:ops[i]? with
 |none=>rw[ho] at h;exact h
 |some o=>
  rw[ho] at h;dsimp only at h ⊢;split
  ·rename_i hw;rw[aF hw] at h;rcases h with h|⟨_,a',w',h⟩;·exact AG (hd o ho) h
   ·exact h.elim
  ·rename_i hw;rw[aN hw] at h;exact⟨λ_ _=>trivial,h⟩
theorem Pj{l n:Nat}{P:Program}{md:Region.Mode}{ops:Array Oper}{C:Act->World->Prop}(hd:∀(i:Nat) (o:Oper),ops[i]? =some o->∀c,o.op≠.defer c):∀(fuel:Nat) (listed:Array Bool) (a:Act) (w:World),wpAny P md ops (TA C) fuel listed a w->wpAnyIn (Fence.wide.inRound l) n P md ops (TA C) fuel listed a w
 |0,_,_,_,h=>h
 |fuel+1,_,_,_,h=>⟨h.1,λi hi=>wpOpIn_mono (λa' w' D=>Pj hd fuel _ a' w' D) (F3 (hd i) (h.2 i hi))⟩
theorem F2{l n id:Nat}{P:Program}{ops:Array Oper}{S:World->Prop}{Q:Exit->Act->World->Prop}{a:Act}{w:World}(hm:P.follows .mixedOrders=true)(hd:∀o∈ops.toList,∀c,o.op≠.defer c)(hS:S w.drew)
 (h:S w.drew->wpAnyH P .any ops (TA λa w=>Q .normal a w) S ops.size (Array.replicate ops.size false) a w.drew):(Code.region id ops true).wpIn (Fence.wide.inRound l) n P Q a w:=by
 refine wpIn_mono (Q:=TA λa w=>Q .normal a w) (wpIn_region_any hm (Pj (λi o ho=>hd o (Array.mem_toList_iff.2 (Array.mem_of_getElem? ho))) _ _ _ _ (wpAny_of_held _ _ _ _ (h hS)))) (λe a w C=> ?_);cases e with
 |normal=>exact C
 |_=>exact C.elim
end Go.Proofs.YtclgigmgbebhgaaGreatDoor
