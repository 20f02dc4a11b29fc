/- TopOther: part 26: TopChk1 TopChk2 TopWrite TopRound. -/
import Derived.Test.YtclgigmgbebhgaaGreatDoorO25
set_option linter.unusedVariables false
set_option linter.unusedSimpArgs false
set_option maxRecDepth 100000
set_option maxHeartbeats 16000000
namespace Go.Proofs.YtclgigmgbebhgaaGreatDoor
open Tryz
open Go Go.Proofs Go.RowKit
variable {K N m:Nat} {ad:Option Addr} {W W':World}
abbrev vx:Nat:=305
def kindOk(K:Nat):Prop:=K=1\/K=21\/K=13\/K=14\/K=25\/K=26\/K=27\/K=28
theorem vw{c:Nat}(h:codeOk c):kindOk (Zz c):=by
 rcases h with rfl|rfl|rfl|rfl|rfl|rfl|rfl|rfl;·exact .inl rfl
 ·exact .inr (.inl rfl)
 ·exact .inr (.inr (.inl rfl))
 ·exact .inr (.inr (.inr (.inl rfl)))
 ·exact .inr (.inr (.inr (.inr (.inl rfl))))
 ·exact .inr (.inr (.inr (.inr (.inr (.inl rfl)))))
 ·exact .inr (.inr (.inr (.inr (.inr (.inr (.inl rfl))))))
 ·exact .inr (.inr (.inr (.inr (.inr (.inr (.inr rfl))))))
structure J4(i:ZN)(K r:Nat):Prop where
 k:kindOk K
 fit:i.fit
 load:K=1->i.k%4=0/\i.k<64
 jump:K=13->i.k<r
 br:25<=K->i.jt<r/\i.jf<r
 r:r<=5000
theorem qc (h:kindOk K){J:Int}(A:(K:Int)=J)(w:World):Calls prog 326 #[.int .i64 J] w λe w'=>e=.returned (.bool false)/\w=w':=by
 subst A;rcases h with rfl|rfl|rfl|rfl|rfl|rfl|rfl|rfl
 all_goals
  go_enter func326,ntmps326;go_wp2_with fail;go_ret;exact⟨rfl,rfl⟩
theorem jy{i:ZN}{r:Nat}(h:J4 i K r)(w:World):Calls prog 256 #[.agg #[.int .u16 i.code,.int .u8 i.jt,.int .u8 i.jf,.int .u32 i.k,.int .i64 K,.bool false,.int .i64 r]] w λe w'=>e=.returned (.int .i64 0)/\Below w.heap.size w w':=by
 obtain⟨hk,A,C,U,hb,hr⟩:=h;obtain⟨ic,T,D,ik⟩:=i;obtain⟨f1,Z,f3,f4⟩:=A;dsimp only at C U hb f1 Z f3 f4 ⊢;have HB:=aT (λcs=>(aH w.heap.size w).alloc (aR _) (.cells cs vx));obtain⟨J,hJ⟩:∃J:Int,(K:Int)=J:=⟨_,rfl⟩;have I:J=1\/J=21\/J=13\/J=14\/J=25\/J=26\/J=27\/J=28:=by unfold kindOk at hk;omega
 rw[hJ];have Y:=Z7.new w vx #[.int .u16 ic,.int .u8 T,.int .u8 D,.int .u32 ik,.int .i64 J,.bool false,.int .i64 r];obtain⟨c0,c1,c2,c3,c4,c5,c6⟩:=Y.q7;clear Y;rcases I with rfl|rfl|rfl|rfl|rfl|rfl|rfl|rfl
 all_goals
  clear C U hb;go_enter func256,ntmps256;go_wp2_with fail
  all_goals
   go_ret;exact⟨rfl,HB _⟩
theorem jx{i:ZN}{r:Nat}(h:J4 i K r)(w:World):Calls prog 257 #[.agg #[.int .u16 i.code,.int .u8 i.jt,.int .u8 i.jf,.int .u32 i.k,.int .i64 K,.bool false,.int .i64 r]] w λe w'=>e=.returned (.int .i64 0)/\Below w.heap.size w w':=by
 obtain⟨hk,C,A,Y,hb,hr⟩:=h;obtain⟨ic,U,I,D⟩:=i;obtain⟨f1,f2,f3,f4⟩:=C;dsimp only at A Y hb f1 f2 f3 f4 ⊢;have HB:=aT (λcs=>(aH w.heap.size w).alloc (aR _) (.cells cs vx));obtain⟨J,hJ⟩:∃J:Int,(K:Int)=J:=⟨_,rfl⟩;have T:J=1\/J=21\/J=13\/J=14\/J=25\/J=26\/J=27\/J=28:=by unfold kindOk at hk;omega
 rw[hJ];have Z:=Z7.new w vx #[.int .u16 ic,.int .u8 U,.int .u8 I,.int .u32 D,.int .i64 J,.bool false,.int .i64 r];obtain⟨c0,c1,c2,c3,c4,c5,c6⟩:=Z.q7;clear Z;rcases T with rfl|rfl|rfl|rfl|rfl|rfl|rfl|rfl
 all_goals
  try
   have h0:=A jO;obtain⟨h1,h2⟩:=h0;have e1:((D:Int).tmod 4)=0:=by rw[Int.tmod_eq_emod_of_nonneg jO];omega
   have e2:¬(64:Int)<=(D:Int):=jO;have e3:(D:Int)%4=0:=jO
  clear A Y hb;go_enter func257,ntmps257;go_wp2_with fail
  all_goals
   go_ret;exact⟨rfl,HB _⟩
theorem jv{i:ZN}{r:Nat}(h:J4 i K r)(w:World):Calls prog 258 #[.agg #[.int .u16 i.code,.int .u8 i.jt,.int .u8 i.jf,.int .u32 i.k,.int .i64 K,.bool false,.int .i64 r]] w λe w'=>e=.returned (.int .i64 0)/\Below w.heap.size w w':=by
 obtain⟨hk,A,C,U,hb,hr⟩:=h;obtain⟨ic,T,D,ik⟩:=i;obtain⟨f1,f2,f3,f4⟩:=A;dsimp only at C U hb f1 f2 f3 f4 ⊢;have HB:=aT (λcs=>(aH w.heap.size w).alloc (aR _) (.cells cs vx));obtain⟨J,Y⟩:∃J:Int,(K:Int)=J:=⟨_,rfl⟩;have I:J=1\/J=21\/J=13\/J=14\/J=25\/J=26\/J=27\/J=28:=by unfold kindOk at hk;omega
 rw[Y];have Z:=Z7.new w vx #[.int .u16 ic,.int .u8 T,.int .u8 D,.int .u32 ik,.int .i64 J,.bool false,.int .i64 r];obtain⟨c0,c1,c2,c3,c4,c5,c6⟩:=Z.q7;clear Z;rcases I with rfl|rfl|rfl|rfl|rfl|rfl|rfl|rfl
 all_goals
  clear C U hb;go_enter func258,ntmps258
  go_wp2_with (go_at_call 326;refine(qc hk Y _).mono ?_;rintro e w' ⟨rfl,rfl⟩)
  all_goals
   go_ret;exact⟨rfl,HB _⟩
theorem vu{i:ZN}{r:Nat}(h:J4 i K r)(w:World):Calls prog 259 #[.agg #[.int .u16 i.code,.int .u8 i.jt,.int .u8 i.jf,.int .u32 i.k,.int .i64 K,.bool false,.int .i64 r]] w λe w'=>e=.returned (.int .i64 0)/\Below w.heap.size w w':=by
 obtain⟨hk,A,C,U,hb,hr⟩:=h;obtain⟨ic,T,D,ik⟩:=i;obtain⟨f1,Z,f3,f4⟩:=A;dsimp only at C U hb f1 Z f3 f4 ⊢;have HB:=aT (λcs=>(aH w.heap.size w).alloc (aR _) (.cells cs vx));obtain⟨J,hJ⟩:∃J:Int,(K:Int)=J:=⟨_,rfl⟩;have I:J=1\/J=21\/J=13\/J=14\/J=25\/J=26\/J=27\/J=28:=by unfold kindOk at hk;omega
 rw[hJ];have Y:=Z7.new w vx #[.int .u16 ic,.int .u8 T,.int .u8 D,.int .u32 ik,.int .i64 J,.bool false,.int .i64 r];obtain⟨c0,c1,c2,c3,c4,c5,c6⟩:=Y.q7;clear Y;rcases I with rfl|rfl|rfl|rfl|rfl|rfl|rfl|rfl
 all_goals
  clear C U hb;go_enter func259,ntmps259;go_wp2_with fail
  all_goals
   go_ret;exact⟨rfl,HB _⟩
theorem ju{i:ZN}{r:Nat}(h:J4 i K r)(w:World):Calls prog 260 #[.agg #[.int .u16 i.code,.int .u8 i.jt,.int .u8 i.jf,.int .u32 i.k,.int .i64 K,.bool false,.int .i64 r]] w λe w'=>e=.returned (.int .i64 0)/\Below w.heap.size w w':=by
 obtain⟨hk,D,I,U,hb,hr⟩:=h;obtain⟨ic,C,A,T⟩:=i;obtain⟨f1,f2,f3,f4⟩:=D;dsimp only at I U hb f1 f2 f3 f4 ⊢;have HB:=aT (λcs=>(aH w.heap.size w).alloc (aR _) (.cells cs vx));obtain⟨J,hJ⟩:∃J:Int,(K:Int)=J:=⟨_,rfl⟩;have Y:J=1\/J=21\/J=13\/J=14\/J=25\/J=26\/J=27\/J=28:=by unfold kindOk at hk;omega
 rw[hJ];have Z:=Z7.new w vx #[.int .u16 ic,.int .u8 C,.int .u8 A,.int .u32 T,.int .i64 J,.bool false,.int .i64 r];obtain⟨c0,c1,c2,c3,c4,c5,c6⟩:=Z.q7;clear Z;rcases Y with rfl|rfl|rfl|rfl|rfl|rfl|rfl|rfl
 all_goals
  try
   have h1:=U jO;have e0:IntKind.i64.wrap (T:Int)=(T:Int):=aJ _ jO;have e1:¬(r:Int)<=(T:Int):=jO
  try
   have h0:=hb jO;obtain⟨h1,h2⟩:=h0;have e0:IntKind.i64.wrap (C:Int)=(C:Int):=aJ _ jO;have e0b:IntKind.i64.wrap (A:Int)=(A:Int):=aJ _ jO;have e1:¬(r:Int)<=(C:Int):=jO;have e2:¬(r:Int)<=(A:Int):=jO
  clear I U hb;go_enter func260,ntmps260;go_wp2_with fail
  all_goals
   go_ret;exact⟨rfl,HB _⟩
theorem vt{i:ZN}{r:Nat}(h:J4 i K r)(w:World):Calls prog 183 #[.agg #[.int .u16 i.code,.int .u8 i.jt,.int .u8 i.jf,.int .u32 i.k,.int .i64 K,.bool false,.int .i64 r]] w λe w'=>e=.returned (.int .i64 0)/\Below w.heap.size w w':=by
 have gF:∀(fn:Fn) (first cap:Array Value) (w:World),(Instr.makeFunc fn first cap).run prog w=.ok (.func fn first cap) w:=λ_ _ _ _=>rfl
 have HH:=aT h;have hB:=Z7.new w vx #[.int .u16 i.code,.int .u8 i.jt,.int .u8 i.jf,.int .u32 i.k,.int .i64 K,.bool false,.int .i64 r];obtain⟨c0,c1,c2,c3,c4,c5,c6⟩:=hB.q7;have hb1:=(aH w.heap.size w).alloc (aR _) (.cells #[.int .u16 i.code,.int .u8 i.jt,.int .u8 i.jf,.int .u32 i.k,.int .i64 K,.bool false,.int .i64 r] vx);have T:=aT hb1;clear hB h hb1;obtain⟨D,C,A,I⟩:=i;dsimp only at*;go_enter func183,ntmps183;go_upto_region 1 with fail;generalize w.alloc (.cells #[.int .u16 D,.int .u8 C,.int .u8 A,.int .u32 I,.int .i64 K,.bool false,.int .i64 r] vx)=w1 at*;have Uy:=aT (T.alloc T.size (.cells #[.func (.func 256) #[.agg #[.int .u16 D,.int .u8 C,.int .u8 A,.int .u32 I,.int .i64 K,.bool false,.int .i64 r]] #[],.func (.func 257) #[.agg #[.int .u16 D,.int .u8 C,.int .u8 A,.int .u32 I,.int .i64 K,.bool false,.int .i64 r]] #[],.func (.func 258) #[.agg #[.int .u16 D,.int .u8 C,.int .u8 A,.int .u32 I,.int .i64 K,.bool false,.int .i64 r]] #[],.func (.func 259) #[.agg #[.int .u16 D,.int .u8 C,.int .u8 A,.int .u32 I,.int .i64 K,.bool false,.int .i64 r]] #[],.func (.func 260) #[.agg #[.int .u16 D,.int .u8 C,.int .u8 A,.int .u32 I,.int .i64 K,.bool false,.int .i64 r]] #[]] 82));have J:=aT (Z7.new w1 82 #[.func (.func 256) #[.agg #[.int .u16 D,.int .u8 C,.int .u8 A,.int .u32 I,.int .i64 K,.bool false,.int .i64 r]] #[],.func (.func 257) #[.agg #[.int .u16 D,.int .u8 C,.int .u8 A,.int .u32 I,.int .i64 K,.bool false,.int .i64 r]] #[],.func (.func 258) #[.agg #[.int .u16 D,.int .u8 C,.int .u8 A,.int .u32 I,.int .i64 K,.bool false,.int .i64 r]] #[],.func (.func 259) #[.agg #[.int .u16 D,.int .u8 C,.int .u8 A,.int .u32 I,.int .i64 K,.bool false,.int .i64 r]] #[],.func (.func 260) #[.agg #[.int .u16 D,.int .u8 C,.int .u8 A,.int .u32 I,.int .i64 K,.bool false,.int .i64 r]] #[]]);go_upto_region 2 with(refine Great.wpList_buildSliceTo rfl 88 82 5 _ rfl _ rfl _ rfl underlying88 #[.func (.func 256) #[.agg #[.int .u16 D,.int .u8 C,.int .u8 A,.int .u32 I,.int .i64 K,.bool false,.int .i64 r]] #[],.func (.func 257) #[.agg #[.int .u16 D,.int .u8 C,.int .u8 A,.int .u32 I,.int .i64 K,.bool false,.int .i64 r]] #[],.func (.func 258) #[.agg #[.int .u16 D,.int .u8 C,.int .u8 A,.int .u32 I,.int .i64 K,.bool false,.int .i64 r]] #[],.func (.func 259) #[.agg #[.int .u16 D,.int .u8 C,.int .u8 A,.int .u32 I,.int .i64 K,.bool false,.int .i64 r]] #[],.func (.func 260) #[.agg #[.int .u16 D,.int .u8 C,.int .u8 A,.int .u32 I,.int .i64 K,.bool false,.int .i64 r]] #[]] jK ?_)
 generalize w1.alloc (.cells #[.func (.func 256) #[.agg #[.int .u16 D,.int .u8 C,.int .u8 A,.int .u32 I,.int .i64 K,.bool false,.int .i64 r]] #[],.func (.func 257) #[.agg #[.int .u16 D,.int .u8 C,.int .u8 A,.int .u32 I,.int .i64 K,.bool false,.int .i64 r]] #[],.func (.func 258) #[.agg #[.int .u16 D,.int .u8 C,.int .u8 A,.int .u32 I,.int .i64 K,.bool false,.int .i64 r]] #[],.func (.func 259) #[.agg #[.int .u16 D,.int .u8 C,.int .u8 A,.int .u32 I,.int .i64 K,.bool false,.int .i64 r]] #[],.func (.func 260) #[.agg #[.int .u16 D,.int .u8 C,.int .u8 A,.int .u32 I,.int .i64 K,.bool false,.int .i64 r]] #[]] 82)=w2 at*;generalize w1.heap.size=BL at*;clear T;go_loopg [18] 6 (λgg iv wr=>∃n:Nat,n<=5/\5-n<gg/\iv=.int .i64 (n:Int)/\Hid (Below w.heap.size w wr)/\Hid (Z7 wr BL 82 #[.func (.func 256) #[.agg #[.int .u16 D,.int .u8 C,.int .u8 A,.int .u32 I,.int .i64 K,.bool false,.int .i64 r]] #[],.func (.func 257) #[.agg #[.int .u16 D,.int .u8 C,.int .u8 A,.int .u32 I,.int .i64 K,.bool false,.int .i64 r]] #[],.func (.func 258) #[.agg #[.int .u16 D,.int .u8 C,.int .u8 A,.int .u32 I,.int .i64 K,.bool false,.int .i64 r]] #[],.func (.func 259) #[.agg #[.int .u16 D,.int .u8 C,.int .u8 A,.int .u32 I,.int .i64 K,.bool false,.int .i64 r]] #[],.func (.func 260) #[.agg #[.int .u16 D,.int .u8 C,.int .u8 A,.int .u32 I,.int .i64 K,.bool false,.int .i64 r]] #[]]));case atStart=>exact⟨0,jO,jO,rfl,Uy,J⟩
 case round=>
  obtain⟨n,hn,VP,rfl,T,J⟩:=hrel;clear Uy c0 c1 c2 c3 c4 c5 c6;by_cases hlt:n<5
  ·rcases (show n=0\/n=1\/n=2\/n=3\/n=4 from jO) with rfl|rfl|rfl|rfl|rfl
   ·have Z:=J.e0;go_wp2_with fail;refine(jy HH wr).mono ?_;rintro e w' ⟨rfl,hb⟩;have U:=aT (T.trans (hb.mono T.size));have Y:=aT (J.below hb J.lt);clear hb Z T J;go_wp2_with fail;go_roundg (5-0);case measure=>omega
    case rel=>exact⟨1,jO,jO,by go_num,U,Y⟩
   ·have Z:=J.e1;go_wp2_with fail;refine(jx HH wr).mono ?_;rintro e w' ⟨rfl,hb⟩;have U:=aT (T.trans (hb.mono T.size));have Y:=aT (J.below hb J.lt);clear hb Z T J;go_wp2_with fail;go_roundg (5-1);case measure=>omega
    case rel=>exact⟨2,jO,jO,by go_num,U,Y⟩
   ·have Z:=J.e2;go_wp2_with fail;refine(jv HH wr).mono ?_;rintro e w' ⟨rfl,hb⟩;have U:=aT (T.trans (hb.mono T.size));have Y:=aT (J.below hb J.lt);clear hb Z T J;go_wp2_with fail;go_roundg (5-2);case measure=>omega
    case rel=>exact⟨3,jO,jO,by go_num,U,Y⟩
   ·have Z:=J.e3;go_wp2_with fail;refine(vu HH wr).mono ?_;rintro e w' ⟨rfl,hb⟩;have U:=aT (T.trans (hb.mono T.size));have Y:=aT (J.below hb J.lt);clear hb Z T J;go_wp2_with fail;go_roundg (5-3);case measure=>omega
    case rel=>exact⟨4,jO,jO,by go_num,U,Y⟩
   ·have Z:=J.e4;go_wp2_with fail;refine(ju HH wr).mono ?_;rintro e w' ⟨rfl,hb⟩;have U:=aT (T.trans (hb.mono T.size));have Y:=aT (J.below hb J.lt);clear hb Z T J;go_wp2_with fail;go_roundg (5-4);case measure=>omega
    case rel=>exact⟨5,jO,jO,by go_num,U,Y⟩
  ·obtain rfl:n=5:=by omega
   have Y8:¬(((5:Nat):Int)<5):=jO;go_wp2_with fail;go_ret;exact⟨rfl,T⟩
def NY(i:ZN):List Value:=[.int .u16 i.code,.int .u8 i.jt,.int .u8 i.jf,.int .u32 i.k]
abbrev XG:Nat:=166
theorem OZ:(prog.info? XG).map (λi=>(i.zero,i.size,i.bytes))=some (some (.agg #[.int .u16 0,.int .u8 0,.int .u8 0,.int .u32 0]),4,8):=jK
def Jj(N:Nat)(W:World)(ad:Option Addr)(l:List ZN):Prop:=∀(i:Nat) (x:ZN),l[i]? =some x->∃g off,ad=some ⟨g,off,none⟩/\g<N/\W.cell? ⟨g,off+i*4,none⟩=some (.int .u16 x.code)/\W.cell? ⟨g,off+i*4+1,none⟩=some (.int .u8 x.jt)/\W.cell? ⟨g,off+i*4+2,none⟩=some (.int .u8 x.jf)/\W.cell? ⟨g,off+i*4+3,none⟩=some (.int .u32 x.k)
theorem Jj.below(hb:Below K W W')(hN:N<=K) {l:List ZN}(h:Jj N W ad l):Jj N W' ad l:=λi x hx=>by
 obtain⟨g,off,e,hl,C,A,I,D⟩:=h i x hx;exact⟨g,off,e,hl,ZY hb hN hl C,ZY hb hN hl A,ZY hb hN hl I,ZY hb hN hl D⟩
theorem J3 {B n c:Nat} {l:List ZN}(hn:l.length=n)(h:W.ownsRow B XG 4 (.slice ad n c) n (l.flatMap NY)):Jj W.heap.size W ad l:=λi x hx=>by
 obtain⟨g,e,_,hc⟩:=Ye NY 4 (λ_=>rfl) hn h hx;have A:=hc 0 jD;have D:=hc 1 jD;have C:=hc 2 jD;have I:=hc 3 jD;simp only[NY,aeb,aL,aF] at A D C I;refine⟨g,0,e,afe _ _ A,?_⟩;simp only[aca];exact⟨A,D,C,I⟩
structure X6(out:List ZN)(n:Nat):Prop where
 len:out.length=n
 pos:1<=n
 max:n<=4096
 fit:∀x∈out,x.fit
 ok:∀i x,out[i]? =some x->qW x (n-1-i)
 last:∀x,out[n-1]? =some x->x.code=0x06
theorem X6.code{out:List ZN}{n:Nat}(h:X6 out n){i:Nat}{x:ZN}(hx:out[i]? =some x):codeOk x.code:=Ij (h.ok i x hx).1
theorem aa7{c:Nat}(hc:codeOk c)(h:Zz c=1):c=0x20:=by
 rcases hc with rfl|rfl|rfl|rfl|rfl|rfl|rfl|rfl<;>first|rfl|(exact absurd h jD)
theorem yr{c:Nat}(hc:codeOk c)(h:Zz c=13):c=0x05:=by
 rcases hc with rfl|rfl|rfl|rfl|rfl|rfl|rfl|rfl<;>first|rfl|(exact absurd h jD)
theorem js{c:Nat}(hc:codeOk c)(h:25<=Zz c):YV c=true:=by
 rcases hc with rfl|rfl|rfl|rfl|rfl|rfl|rfl|rfl<;>first|rfl|(exact absurd h jD)
theorem X6.kind{out:List ZN}{n:Nat}(h:X6 out n){i:Nat}{x:ZN}(hx:out[i]? =some x):J4 x (Zz x.code) (n-1-i):=by
 have hc:=h.code hx;obtain⟨_,A,D,C⟩:=h.ok i x hx;exact⟨vw hc,h.fit x (af hx),λe=>A (aa7 hc e),λe=>D (yr hc e),λe=>C (js hc e),by have:=h.max;omega⟩
theorem PD{c n:Nat} {out:List ZN}(h:X6 out n)(w:World)(hm:Jj N w ad out)(hN:N<=w.heap.size):
 Calls prog 113 #[.slice ad n c] w λe w'=>e=.returned (.tuple #[.int .i64 0,.int .i64 0])/\Below w.heap.size w w':=by
 have H:=aT h;have HM:=aT hm;have hp:=h.pos;have hmx:=h.max;have nz:((n:Int) == 0)=false:=by rw[ae];omega
 have ng:¬(4096:Int)<(n:Int):=jO;obtain⟨P,hP⟩:=jX (n-1);have w0:IntKind.i64.wrap ((n:Int)-1)=(P:Int):=by rw[aJ _ jO];omega
 have HP:=aT hP;clear h hm hP;go_enter func113,ntmps113;go_upto_region 6 with fail;go_loopg [24] (n+1) (λgg iv wr=>∃k:Nat,k<=n/\n-k<gg/\iv=.int .i64 (k:Int)/\Hid (Below w.heap.size w wr));case atStart=>exact⟨0,abc _,jO,rfl,aH _ _⟩
 case round=>
  obtain⟨k,hk,VP,rfl,I⟩:=hrel;have k0:=jZ k;by_cases hlt:k<n
  ·have Z:(k:Int)<(n:Int):=by omega
   have iw:=jW k;obtain⟨x,hx⟩:∃x,out[k]? =some x:=⟨_,aM (by rw[H.out.len];exact hlt)⟩;obtain⟨g,off,rfl,A,c0,c1,c2,c3⟩:=HM k x hx;have y0:=ZY I hN A c0;have y1:=ZY I hN A c1;have y2:=ZY I hN A c2;have y3:=ZY I hN A c3;have hc:=H.code hx;have T:=H.kind hx;obtain⟨R,hR⟩:=jX (n-1-k);rw[hR] at T;have w1:IntKind.i64.wrap ((P:Int)-(k:Int))=(R:Int):=by have:=HP.out;rw[aJ _ jO];omega
   have HKR:=aT T;obtain⟨xc,xt,xf,xk⟩:=x;dsimp only at y0 y1 y2 y3 hc;have HA:=aT (Z7.new wr XG #[.int .u16 xc,.int .u8 xt,.int .u8 xf,.int .u32 xk]);have U:=aT (I.alloc I.size (.cells #[.int .u16 xc,.int .u8 xt,.int .u8 xf,.int .u32 xk] XG));have C:=aT (V7 hc (wr.alloc (.cells #[.int .u16 xc,.int .u8 xt,.int .u8 xf,.int .u32 xk] XG)));clear c0 c1 c2 c3 hx T hR I hc;go_upto_region 8 with fail;generalize wr.alloc (.cells #[.int .u16 xc,.int .u8 xt,.int .u8 xf,.int .u32 xk] XG)=wa at*;generalize wr.heap.size=B1 at*;clear y0 y1 y2 y3;have z0:=HA.e0;go_wp2_with fail;refine C.mono ?_;rintro e w2 ⟨rfl,hb⟩;have Y:=HA.below hb HA.lt;have D:=aT (U.trans (hb.mono U.size));clear z0 C hb HA U;obtain⟨z0,z1,z2,z3⟩:=Y.q4;have J:=aT (vt HKR w2);dsimp only at J;obtain⟨KN,qK⟩:=jX (Zz xc);rw[qK] at J ⊢;clear qK Y;go_wp2_with fail;refine J.mono ?_;rintro e w3 ⟨rfl,hb⟩;have Vj:=aT (D.trans (hb.mono D.size));clear z0 z1 z2 z3 hb J D;go_wp2_with fail;go_roundg (n-k);case measure=>omega
   case rel=>exact⟨k+1,jO,jO,by go_num,Vj⟩
  ·obtain rfl:k=n:=by omega
   have Z:¬(k:Int)<(k:Int):=jO;obtain⟨x,hx⟩:∃x,out[P]? =some x:=⟨_,aM (by rw[H.out.len,<-HP.out];omega)⟩;obtain⟨g,off,rfl,A,c0,c1,c2,c3⟩:=HM P x hx;have hl6:=H.last x (by rw[HP.out];exact hx);have y0:=ZY I hN A c0;obtain⟨xc,xt,xf,xk⟩:=x;dsimp only at hl6 y0;subst hl6;have P0:=jZ P;have P1:(P:Int)<(k:Int):=by have:=HP.out;omega
   have C:Hid (Calls prog 109 #[.int .u16 6] wr λe w'=>e=.returned (.tuple #[.int .i64 14,.bool false,.bool true])/\Below wr.heap.size wr w'):=ry wr;clear c0 c1 c2 c3 hx;go_wp2_with fail;refine C.mono ?_;rintro e w2 ⟨rfl,hb⟩;have D:=aT (I.trans (hb.mono I.size));clear hb C y0;go_wp2_with fail;go_ret2;exact⟨rfl,D⟩
theorem yq:(prog.info? 5).map (λi=>(i.zero,i.size,i.bytes))=some (some (.int .u8 0),1,1):=jK
def fe(b:Nat):Value:=.int .u8 (b:Int)
def Zn(bs:List Nat):List Value:=bs.map fe
structure vq(B:Nat)(l:List ZN)(w W:World)(v:Value)(m:Nat):Prop where
 Zs:Below B w W
 row:W.ownsRow B 5 1 v (m*8) (Zn (YR (l.take m)))
 lo:B<=w.heap.size
theorem vq.bl{B:Nat}{l:List ZN}{w:World}{v:Value}(h:vq B l w W v m)(hb:Below W.heap.size W W'):vq B l w W' v m:=⟨h.Zs.trans (hb.mono (aO h.lo h.Zs.size)),ZE h.row hb,h.lo⟩
theorem Ji{l:List ZN} {x:ZN}(h:l[m]? =some x):YR (l.take (m+1))=YR (l.take m)++x.bytes:=by
 unfold YR;rw[afb,h,acb];simp
theorem Ht{c n:Nat} (l:List ZN)(hn:l.length=n)(Xl:n<=1000000)(T:∀x∈l,x.fit)(w:World)(hm:Jj N w ad l)(hN:N<=w.heap.size):
 Calls prog 27 #[.slice ad n c] w λe w'=>∃v,e=.returned v/\w'.ownsRow w.heap.size 5 1 v (n*8) (Zn (YR l))/\Below w.heap.size w w':=by
 have HM:=aT hm;have HL:=aT hn;have HF:=aT T;obtain⟨i0,hi,hz0,hz1,hz2⟩:=ZP yq;have Z:Hid (vq w.heap.size l w w (.slice none 0 0) 0):=⟨aH _ _,Yg _ _ _ _,aR _⟩;clear hm hn T;go_enter func27,ntmps27;go_upto_region 3 with fail;go_loopg [3,8] (n+1) (λgg v iv wr=>∃m:Nat,m<=n/\n-m<gg/\iv=.int .i64 (m:Int)/\Hid (vq w.heap.size l w wr v m));case atStart=>exact⟨0,abc _,jO,rfl,Z⟩
 case round=>
  obtain⟨m,zi,VP,rfl,HA⟩:=hrel;clear Z;have m0:=jZ m;by_cases hlt:m<n
  ·have Y8:(m:Int)<(n:Int):=by omega
   have iw:=jW m;obtain⟨x,hx⟩:∃x,l[m]? =some x:=⟨_,aM (by rw[HL.out];exact hlt)⟩;obtain⟨g,off,rfl,U7,c0,c1,c2,c3⟩:=(HM.below HA.Zs hN) m x hx;have HX:=aT (Ji hx);have hf:=HF x (af hx);obtain⟨xc,Y,U,A⟩:=x;obtain⟨hf0,vM,hf2,hf3⟩:=hf;dsimp only at c0 c1 c2 c3 hf0 vM hf2 hf3;unfold ZN.bytes at HX;dsimp only at HX;have HT:=aT (Z7.new wr XG #[.int .u16 xc,.int .u8 Y,.int .u8 U,.int .u32 A]);have Ls:=aT (HA.bl ((aH wr.heap.size wr).alloc (aR _) (.cells #[.int .u16 xc,.int .u8 Y,.int .u8 U,.int .u32 A] XG)));have b0:IntKind.u8.wrap (xc:Int)=((xc%256:Nat):Int):=by rw[atf];omega
   have b1:IntKind.u8.wrap ((xc:Int)/256)=((xc/256%256:Nat):Int):=by rw[atf];omega
   have b2:IntKind.u8.wrap (A:Int)=((A%256:Nat):Int):=by rw[atf];omega
   have b3:IntKind.u8.wrap ((A:Int)/256)=((A/256%256:Nat):Int):=by rw[atf];omega
   have b4:IntKind.u8.wrap ((A:Int)/65536)=((A/65536%256:Nat):Int):=by rw[atf];omega
   have b5:IntKind.u8.wrap ((A:Int)/16777216)=((A/16777216%256:Nat):Int):=by rw[atf];omega
   generalize xc%256=B0 at*;generalize xc/256%256=B1 at*;generalize A%256=B2 at*;generalize A/256%256=B3 at*;generalize A/65536%256=B4 at*;generalize A/16777216%256=B5 at*;clear HA hx;go_upto_region 5 with fail;generalize wr.alloc (.cells #[.int .u16 xc,.int .u8 Y,.int .u8 U,.int .u32 A] XG)=wa at*;generalize wr.heap.size=T9 at*;clear c0 c1 c2 c3;obtain⟨z0,z1,z2,z3⟩:=HT.q4;have J:=aT (Ls.bl ((aH wa.heap.size wa).alloc (aR _) (.cells #[.int .u8 B0,.int .u8 B1,.int .u8 Y,.int .u8 U,.int .u8 B2,.int .u8 B3,.int .u8 B4,.int .u8 B5] 5)));have Jh:w.heap.size<=(wa.alloc (.cells #[.int .u8 B0,.int .u8 B1,.int .u8 Y,.int .u8 U,.int .u8 B2,.int .u8 B3,.int .u8 B4,.int .u8 B5] 5)).heap.size:=J.Zs.size
   go_wp2_with (at_builtin;refine adg _ rfl _ _ 42 rfl w.heap.size 5 i0 (.int .u8 0) 1 1 underlying42 hi hz0 hz1 hz2 rfl jD _ (m*8) _ rfl J.row ⟨wa.heap.size,0,none⟩ 8 8 [.int .u8 B0,.int .u8 B1,.int .u8 Y,.int .u8 U,.int .u8 B2,.int .u8 B3,.int .u8 B4,.int .u8 B5] rfl ?c1 ?c2 ?c3 ?c4 ?c5 ?c6 ?_;(case c1=>rfl);(case c2=>exact Y1 rfl);(case c3=>simp[Value.oneCell']);(case c4=>unfold maxLen;omega);(case c5=>omega);(case c6=>exact Jh);intro v' w6 I D _)
   have sG:Hid (vq w.heap.size l w w6 v' (m+1)):=by refine⟨J.Zs.grown D J.Zs.size (λk e=>(J.row.lt k e).1),?_,aR _⟩;rw[HX.out,show(m+1)*8=m*8+8 from jO];unfold Zn;rw[acf];exact I
   clear I D;go_wp2_with fail;go_roundg (n-m);case measure=>omega
   case rel=>exact⟨m+1,jO,jO,by go_num,sG⟩
  ·obtain rfl:m=n:=by omega
   have Y8:¬(m:Int)<(m:Int):=jO;have C:=HA.row;rw[abd (by rw[HL.out];exact aR _)] at C;have HR:=aT C;clear C;go_wp2_with fail;go_ret;exact⟨_,rfl,HR,HA.Zs⟩
end Go.Proofs.YtclgigmgbebhgaaGreatDoor
namespace Go.Proofs.YtclgigmgbebhgaaGreatDoor
open Tryz
open Go Go.Proofs
def TN(K:Act->World->Prop):Exit->Act->World->Prop
 | .normal,a,w=>K a w
 |_,_,_=>False
theorem AD{l n:Nat}{P:Program}{o:Oper}{a:Act}{w:World}{next:Act->World->Prop}{Q:Exit->Act->World->Prop}(hd:∀c,o.op≠.defer c)(h:o.wp P a w next Q):o.wpIn (Fence.wide.inRound l) n P a w next Q:=by
 refine⟨λ_ _=>trivial,?_⟩;rw[show(Fence.wide.inRound l).round=some l from rfl,atd l _ _ hd];unfold Oper.wp at h;generalize (execOp a.eval o).run P w=r at*;cases r with
 |ok x w'=>
  cases x with
  |value v=>exact h
  |skip=>exact h
  |defer d=>exact h
  |enter f args=>exact⟨λe=>by simp[Fence.inRound,Fence.wide] at e,CallsIn.inRound l (aja.2 h)⟩
  |row row args=>exact⟨λe=>by simp[Fence.inRound,Fence.wide] at e,λc cs _=>by obtain⟨v,w',r,s⟩:=h c cs;exact⟨v,w',r,stepsIn_wide.2 s⟩⟩
  |_=>exact h.elim
 |halt x w'=>
  cases x with
  |panic v=>exact h
  |_=>exact h.elim
theorem F8{l n i:Nat}{P:Program}{ops:Array Oper}{a:Act}{w:World}{K:Act->World->Prop}{C:Act->World->Prop}(hd:∀o,ops[i]? =some o->∀c,o.op≠.defer c)(h:wpOp P ops (TN C) i K a w):wpOpIn (Fence.wide.inRound l) n P ops (TN C) i K a w:=by
 unfold wpOp at h;unfold wpOpIn;cases ho:ops[i]? with
 |none=>rw[ho] at h;exact h
 |some o=>
  rw[ho] at h;dsimp only at h ⊢;split
  ·rename_i hw;rw[aG hw] at h;rcases h with h|⟨_,a',w',h⟩;·exact AD (hd o ho) h
   ·exact h.elim
  ·rename_i hw;rw[aN hw] at h;exact⟨λ_ _=>trivial,h⟩
theorem PB{l n:Nat}{P:Program}{md:Region.Mode}{ops:Array Oper}{C:Act->World->Prop}(hd:∀(i:Nat) (o:Oper),ops[i]? =some o->∀c,o.op≠.defer c):∀(fuel:Nat) (listed:Array Bool) (a:Act) (w:World),wpAny P md ops (TN C) fuel listed a w->wpAnyIn (Fence.wide.inRound l) n P md ops (TN C) fuel listed a w
 |0,_,_,_,h=>h
 |fuel+1,_,_,_,h=>⟨h.1,λi hi=>wpOpIn_mono (λa' w' A=>PB hd fuel _ a' w' A) (F8 (hd i) (h.2 i hi))⟩
theorem F7{l n id:Nat}{P:Program}{ops:Array Oper}{S:World->Prop}{Q:Exit->Act->World->Prop}{a:Act}{w:World}(hm:P.follows .mixedOrders=true)(hd:∀o∈ops.toList,∀c,o.op≠.defer c)(hS:S w.drew)
 (h:S w.drew->wpAnyH P .any ops (TN λa w=>Q .normal a w) S ops.size (Array.replicate ops.size false) a w.drew):(Code.region id ops true).wpIn (Fence.wide.inRound l) n P Q a w:=by
 refine wpIn_mono (Q:=TN λa w=>Q .normal a w) (wpIn_region_any hm (PB (λi o ho=>hd o (Array.mem_toList_iff.2 (Array.mem_of_getElem? ho))) _ _ _ _ (wpAny_of_held _ _ _ _ (h hS)))) (λe a w A=> ?_);cases e with
 |normal=>exact A
 |_=>exact A.elim
end Go.Proofs.YtclgigmgbebhgaaGreatDoor
