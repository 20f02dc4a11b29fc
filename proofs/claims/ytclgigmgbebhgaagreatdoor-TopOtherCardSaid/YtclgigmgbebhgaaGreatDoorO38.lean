/- TopOther: part 38: TopLw4 TopLw5 TopLw6 TopLwP CondFu. -/
import Derived.Lib.AppendIntMem
import Derived.Test.YtclgigmgbebhgaaGreatDoorO37
set_option linter.unusedVariables false
set_option linter.unusedSimpArgs false
set_option maxRecDepth 100000
set_option maxHeartbeats 16000000
namespace Go.Proofs.YtclgigmgbebhgaaGreatDoor
open Tryz
open Go Go.Proofs Go.RowKit
variable {a:List Nat} {P:Prop} {w w':World}
def CO(P:Prop)(w:World)(e:Ending)(w':World):Prop:=∃b:Bool,e=.returned (.bool b)/\(b=true↔P)/\Below w.heap.size w w'
theorem JO(h:¬P)(hb:Below w.heap.size w w'):CO P w (.returned (.bool false)) w':=⟨false,rfl,⟨(λe=>(by cases e)),λe=>absurd e h⟩,hb⟩
theorem xP(h:P)(hb:Below w.heap.size w w'):CO P w (.returned (.bool true)) w':=⟨true,rfl,⟨λ_=>h,λ_=>rfl⟩,hb⟩
def NN(r:Z0.ZJ):Prop:=r.name.size<=60/\r.conds.length<=12
def Ri(rs:List Z0.ZJ):Prop:=rs.length<=40/\∀r∈rs,NN r
theorem zR{k n:Int}{x:Bool}{rs:List Z0.ZJ}{v:Value}{N0:Nat}(w:World)(hN0:N0<=w.heap.size)(h:Z0.Yd N0 w v rs):
 Calls prog 15 #[.agg #[.int .i64 k,.int .i64 n,.bool x,v]] w (CO (Ri rs) w):=by
 obtain⟨a,c,rfl,hR⟩:=h
 skip
 obtain⟨L,Y⟩:=jX rs.length;rw[Y];have J:=aT Y;have HR:=aT hR;have HX:=aT (Z7.new w EF #[.int .i64 k,.int .i64 n,.bool x,.slice a L c]);have C:=aT ((aH w.heap.size w).alloc (aR _) (.cells #[.int .i64 k,.int .i64 n,.bool x,.slice a L c] EF));clear Y hR;go_enter func15,ntmps15;go_upto_region 1 with fail;generalize w.alloc (.cells #[.int .i64 k,.int .i64 n,.bool x,.slice a L c] EF)=w1 at*;have x3:=HX.e3;by_cases h40:40<L
 ·have hz:(40:Int)<(L:Int):=by omega
  have A:Hid (¬Ri rs):=λe=>by have:=e.1;rw[J.out] at this;omega
  go_wp2;go_ret;exact JO A C
 have hz:¬(40:Int)<(L:Int):=jO;go_upto_region 4 with fail;go_loopg [3] (L+1) (λgg iv wr=>∃i:Nat,i<=L/\L-i<gg/\iv=.int .i64 (i:Int)/\Hid (∀r∈rs.take i,NN r)/\wr=w1);case atStart=>exact⟨0,abc _,jO,rfl,(show ∀r∈rs.take 0,NN r from λr h=>by simp at h),rfl⟩
 case round=>
  obtain⟨i,zm,VP,rfl,HT,rfl⟩:=hrel;have i0:=jZ i;by_cases T:i<L
  ·have I:(i:Int)<(L:Int):=by omega
   obtain⟨r,hr⟩:∃r,rs[i]? =some r:=⟨_,aM (by rw[J.out];exact T)⟩;obtain⟨g,off,ua,uc,rfl,hg,e0,e1,e2,e3,_⟩:=HR i r hr;have y0:=(C.cell (p:=⟨g,off+i*4,none⟩) (by show g<w.heap.size;omega)).trans e0;have y3:=(C.cell (p:=⟨g,off+i*4+3,none⟩) (by show g<w.heap.size;omega)).trans e3;have HM:=aT (af hr);have Z:Hid (NN r->∀r∈rs.take (i+1),NN r):=λhl r' D=>by
    rw[Z0.GZ hr] at D;rcases abe.1 D with h|h;·exact HT r' h
    ·simp at h;rw[h];exact hl
   clear hr e0 e1 e2 e3;by_cases hs:60<r.name.size
   ·have U:(60:Int)<(r.name.size:Int):=by omega
    have A:Hid (¬Ri rs):=λe=>by have:=(e.2 r HM).1;omega
    go_wp2;go_ret;exact JO A C
   ·have U:¬(60:Int)<(r.name.size:Int):=by omega
    by_cases hc:12<r.conds.length
    ·have hcz:(12:Int)<(r.conds.length:Int):=by omega
     have A:Hid (¬Ri rs):=λe=>by have:=(e.2 r HM).2;omega
     go_wp2;go_ret;exact JO A C
    ·have hcz:¬(12:Int)<(r.conds.length:Int):=by omega
     have Uu:=aT (Z ⟨jO,jO⟩);go_wp2;go_roundg (L-i);case measure=>omega
     case rel=>exact⟨i+1,jO,jO,by go_num,Uu,rfl⟩
  ·obtain rfl:L=i:=by omega
   have I:¬(L:Int)<(L:Int):=jO;have gl:Hid (Ri rs):=⟨by rw[J.out];omega,by
    have h:=HT.out;rwa [abd (by rw[J.out];exact aR _)] at h⟩
   go_wp2;go_ret;exact xP gl C
def CN(l:List Z4.Z2):Prop:=l.length<=40/\∀r∈l,r.name.size<=60
theorem oG(sv:Value)(l:List Z4.Z2)(w:World)(h:Z4.X2 w sv l):
 Calls prog 16 #[sv] w (CO (CN l) w):=by
 obtain⟨a,c,rfl,hR⟩:=h;obtain⟨L,Z⟩:=jX l.length;rw[Z];have T:=aT Z;have HR:=aT hR;have HB:=aT (aH w.heap.size w);clear Z hR;go_enter func16,ntmps16;by_cases h40:40<L
 ·have hz:(40:Int)<(L:Int):=by omega
  have C:Hid (¬CN l):=λe=>by have:=e.1;rw[T.out] at this;omega
  go_wp2;go_ret;exact JO C HB
 have hz:¬(40:Int)<(L:Int):=jO;go_upto_region 4 with fail;go_loopg [3] (L+1) (λgg iv wr=>∃i:Nat,i<=L/\L-i<gg/\iv=.int .i64 (i:Int)/\Hid (∀r∈l.take i,r.name.size<=60)/\wr=w);case atStart=>exact⟨0,abc _,jO,rfl,(show ∀r∈l.take 0,r.name.size<=60 from λr h=>by simp at h),rfl⟩
 case round=>
  obtain⟨i,zm,VP,rfl,HT,rfl⟩:=hrel;have i0:=jZ i;by_cases U:i<L
  ·have I:(i:Int)<(L:Int):=by omega
   have A:i<l.length:=by rw[T.out];exact U
   obtain⟨b,off,rfl,hb,J⟩:∃b off,a=some ⟨b,off,none⟩/\b<wr.heap.size/\Z4.Vi wr b off l:=by
    rcases HR.out with h|h;·rw[h] at A;exact absurd A (ajd _)
    ·exact h
   have c0:=J i A 0 _ rfl;simp only[aeb] at c0;have hr:l[i]? =some l[i]! :=by simp[A]
   generalize l[i]! =r at c0 hr;have HM:=aT (af hr);have HTS:Hid (r.name.size<=60->∀r∈l.take (i+1),r.name.size<=60):=λhl r' D=>by
    rw[Z0.GZ hr] at D;rcases abe.1 D with h|h;·exact HT r' h
    ·simp at h;rw[h];exact hl
   clear hr J A;by_cases hs:60<r.name.size
   ·have Y:(60:Int)<(r.name.size:Int):=by omega
    have C:Hid (¬CN l):=λe=>by have:=e.2 r HM;omega
    go_wp2;go_ret;exact JO C HB
   ·have Y:¬(60:Int)<(r.name.size:Int):=by omega
    have Uu:=aT (HTS jO);go_wp2;go_roundg (L-i);case measure=>omega
    case rel=>exact⟨i+1,jO,jO,by go_num,Uu,rfl⟩
  ·obtain rfl:L=i:=by omega
   have I:¬(L:Int)<(L:Int):=jO;have gl:Hid (CN l):=⟨by rw[T.out];omega,by
    have h:=HT.out;rwa [abd (by rw[T.out];exact aR _)] at h⟩
   go_wp2;go_ret;exact xP gl HB
theorem oF(b off c:Nat)(zs:List Z4.Z2)(w:World)(Pb:zs.length<=1000000)(hb:b<w.heap.size)(hc:Z4.Vi w b off zs):
 Calls prog 17 #[.slice (some ⟨b,off,none⟩) zs.length c] w λe w'=>∃v,e=.returned v/\w'.ownsRow w.heap.size 40 8 v zs.length (Z4.flat zs)/\Below w.heap.size w w':=by
 have Hc:=aT hc;clear hc;obtain⟨n,hn⟩:=jX zs.length;rw[hn] at Pb ⊢;have Hn:=aT hn;clear hn;obtain⟨i0,hi,hz0,hz1,hz2⟩:=RP Z4.kR;go_enter func17,ntmps17;go_wp2;go_loopg [3,4] n (λgg s3 s4 wr=>∃C:Nat,C<=n/\n-C<=gg/\s4=.int .i64 C/\Hid (Below w.heap.size w wr)/\Hid (wr.ownsRow w.heap.size 40 8 s3 C (Z4.flat (zs.take C))));case atStart=>exact⟨0,abc _,jO,rfl,aH _ w,akg _ _ _ _⟩
 case round=>
  obtain⟨C,hkk,hg,rfl,Z,OW⟩:=hrel;by_cases U:C<n
  ·have Y:(C:Int)<(n:Int):=by omega
   have T:=(Hc.below Z hb) C (by rw[Hn.out];exact U);have c0:=T 0 _ rfl;have c1:=T 1 _ rfl;have c2:=T 2 _ rfl;have c3:=T 3 _ rfl;have c4:=T 4 _ rfl;have c5:=T 5 _ rfl;have c6:=T 6 _ rfl;have c7:=T 7 _ rfl;simp only[aeb] at c0;clear T;generalize hy:zs[C]! =y at c0 c1 c2 c3 c4 c5 c6 c7;have Hy:=aT hy;clear hy;have D:some b≠u3.ownBlock:=λe=>by have:=(OW.lt b e.symm).1;omega
   have J:w.heap.size<=((wr.alloc (.cells #[.string y.name,.int .i64 y.n0,.int .i64 y.n1,.int .i64 y.n2,.int .i64 y.n3,.int .i64 y.n4,.int .i64 y.Yv,.int .i64 y.sub] 40)).drew).heap.size:=aO Z.size (by simp[World.drew]);go_wp2_with fail
   go_region_held_law (λw'=>w'.cell? ⟨b,off+C*8,none⟩=some (.string y.name)/\w'.cell? ⟨b,off+C*8+1,none⟩=some (.int .i64 y.n0)/\w'.cell? ⟨b,off+C*8+2,none⟩=some (.int .i64 y.n1)/\w'.cell? ⟨b,off+C*8+3,none⟩=some (.int .i64 y.n2)/\w'.cell? ⟨b,off+C*8+4,none⟩=some (.int .i64 y.n3)/\w'.cell? ⟨b,off+C*8+5,none⟩=some (.int .i64 y.n4)/\w'.cell? ⟨b,off+C*8+6,none⟩=some (.int .i64 y.Yv)/\w'.cell? ⟨b,off+C*8+7,none⟩=some (.int .i64 y.sub)) (first|go_keep|exact⟨A.cell (Z4.UF c0) D,A.cell (Z4.UF c1) D,A.cell (Z4.UF c2) D,A.cell (Z4.UF c3) D,A.cell (Z4.UF c4) D,A.cell (Z4.UF c5) D,A.cell (Z4.UF c6) D,A.cell (Z4.UF c7) D⟩) ((refine step_append_lies _ rfl _ _ 41 rfl w.heap.size 40 i0 _ 8 72 underlying41 hi hz0 hz1 hz2 rfl jD _ C _ rfl (OW.alloc _).drew ⟨wr.heap.size,0,none⟩ 1 1 y.cells rfl rfl (Z4.ah9 wr y) (Z4.au8 y) jD (by unfold maxLen;omega) jO J _ rfl ?_;intro g cap w1 I A hat az3))
   have hBn:Below w.heap.size w w1:=((Z.alloc Z.size _).drew).grown A J (λk hk=>(OW.lt k hk).1);rw[<-Hy.out,Z4.wm zs C (by rw[Hn.out];exact U)] at I;have HO:=aT I;clear I A hat;go_wp2;go_roundg (n-(C+1));case measure=>omega
   case rel=>exact⟨C+1,jO,jO,by go_num,hBn,HO⟩
  ·have Y:¬(C:Int)<(n:Int):=by omega
   obtain rfl:C=n:=jO;go_wp2;go_ret;refine⟨_,rfl,?_,Z⟩;have:=OW.out;rw[abd (by rw[Hn.out];exact aR _)] at this;exact this
theorem uv(sv:Value)(l:List Z4.Z2)(w:World)(A:l.length<=1000000)(D:Z4.X2 w sv l):
 Calls prog 17 #[sv] w λe w'=>∃v,e=.returned v/\w'.ownsRow w.heap.size 40 8 v l.length (Z4.flat l)/\Below w.heap.size w w':=by
 obtain⟨x,c,rfl,h⟩:=D;rcases h with rfl|⟨b,off,rfl,C,hr⟩
 ·go_enter func17,ntmps17;go_wp2
  go_loop [3,4] (λJ I=>J=.slice none 0 0/\I=.int .i64 0) (λ_ _=>0)
  case atStart=>exact⟨rfl,rfl⟩
  case round=>
   obtain⟨rfl,rfl⟩:=hrel;go_wp2;go_ret;exact⟨_,rfl,akg _ _ _ _,aH _ _⟩
 ·exact oF b off c l w A C hr
def leB:Nat->Nat->List Nat
 |0,_=>[]
 |k+1,n=>n%256::leB k (n/256)
theorem W4:∀k n:Nat,(leB k n).length=k
 |0,_=>rfl
 |k+1,n=>by rw[leB,aj,W4 k]
theorem JN:∀k n:Nat,∀b∈leB k n,b<256
 |0,_,b,h=>by simp[leB] at h
 |k+1,n,b,h=>by
  rw[leB,abf] at h;rcases h with rfl|h;·exact awa _ jD
  ·exact JN k _ b h
theorem CM:∀k n:Nat,leB (k+1) n=leB k n++[n/256 ^ k%256]
 |0,n=>by simp[leB]
 |k+1,n=>by rw[leB,CM k (n/256),Nat.div_div_eq_div_mul,show(256:Nat) ^ (k+1)=256*256 ^ k by rw[Nat.pow_succ,Nat.mul_comm]];rfl
abbrev TB:Nat:=5
theorem JM(a b:List Nat):Zn (a++b)=Zn a++Zn b:=by unfold Zn;rw[acf]
theorem MW(bs:List Nat):∀u∈Zn bs,u.oneCell'=true:=by
 intro u hu;obtain⟨b,_,rfl⟩:=ai.1 hu;rfl
theorem xO{W:World}{base e s n:Nat}{v:Value}{xs:List Value}(h:W.ownsRow base e s v n xs)(hn:0<n):∃g c,v=.slice (some ⟨g,0,none⟩) n c:=by
 rcases h.2 with⟨rfl,C⟩|⟨g,cap,A,rfl,_⟩;·omega
 ·exact⟨_,_,rfl⟩
theorem zQ(n K:Nat)(hn:n<Yf)(hK:K<=8)(w:World):
 Calls prog 66 #[.int .u64 n,.int .i64 K] w λe w'=>∃v,e=.returned v/\w'.ownsRow w.heap.size TB 1 v K (Zn (leB K n))/\Below w.heap.size w w':=by
 obtain⟨i0,hi,hz0,hz1,hz2⟩:=ZP yq;go_enter func66,ntmps66;go_upto_region 3 with fail;go_loopg [0,5,6] (K+1) (λgg cv v iv wr=>∃i c:Nat,i<=K/\K-i<gg/\iv=.int .i64 (i:Int)/\cv=.int .u64 (c:Int)/\c<Yf/\Hid (c=n/256 ^ i)/\Hid (wr.ownsRow w.heap.size TB 1 v i (Zn (leB i n)))/\Hid (Below w.heap.size w wr));case atStart=>exact⟨0,n,abc _,jO,rfl,rfl,hn,(show n=n/256 ^ 0 from jS),Yg _ _ _ _,aH _ _⟩
 case round=>
  obtain⟨i,c,hiK,VP,rfl,rfl,T,HC,HR,Z⟩:=hrel;have yU:=jZ i;by_cases hlt:i<K
  ·have Y:(i:Int)<(K:Int):=by omega
   have Jz:=jW i;have aK3:c<18446744073709551616:=T;have b0:IntKind.u8.wrap ((c:Int)%256)=((c%256:Nat):Int):=by rw[atf];omega
   obtain⟨q,hq,I⟩:∃q:Nat,(c:Int).tdiv 256=(q:Int)/\q=c/256:=⟨c/256,by rw[aqe jO];rfl,rfl⟩;have U:q<Yf:=by rw[I];exact aAb (Nat.div_le_self _ _) T
   have aK4:q<18446744073709551616:=U;have nk:Hid (q=n/256 ^ (i+1)):=by show _=_;rw[I,HC.out,Nat.div_div_eq_div_mul,Nat.pow_succ]
   have hqw:IntKind.u64.wrap (q:Int)=(q:Int):=by rw[IntKind.wrap_u64];omega
   clear I;have HS:Hid (leB (i+1) n=leB i n++[c%256]):=by show _=_;rw[CM,HC.out]
   have J:=aT (ZE HR (Yl wr (.cells #[.int .u8 ((c%256:Nat):Int)] TB)));have D:w.heap.size<=(wr.alloc (.cells #[.int .u8 ((c%256:Nat):Int)] TB)).heap.size:=aO Z.size (Yl wr _).size;have XA:=aT (Z.alloc Z.size (.cells #[.int .u8 ((c%256:Nat):Int)] TB))
   go_wp2_with (at_builtin;refine adg _ rfl _ _ 42 rfl w.heap.size TB i0 (.int .u8 0) 1 1 underlying42 hi hz0 hz1 hz2 rfl jD _ i _ rfl J ⟨wr.heap.size,0,none⟩ 1 1 [.int .u8 ((c%256:Nat):Int)] rfl ?c1 ?c2 ?c3 ?c4 ?c5 ?c6 ?_;(case c1=>rfl);(case c2=>exact Y1 rfl);(case c3=>simp[Value.oneCell']);(case c4=>unfold maxLen;omega);(case c5=>omega);(case c6=>exact D);intro v' w6 C A _)
   have oD:Hid (w6.ownsRow w.heap.size TB 1 v' (i+1) (Zn (leB (i+1) n))):=by show World.ownsRow _ _ _ _ _ _ _;rw[HS.out,JM];exact C
   have yY:Hid (Below w.heap.size w w6):=XA.grown A D (λk e=>(J.lt k e).1);clear C A;go_wp2_with fail;go_roundg (K-i);case measure=>omega
   case rel=>exact⟨i+1,q,jO,jO,by go_num,rfl,U,nk,oD,yY⟩
  ·obtain rfl:i=K:=by omega
   have Y:¬(i:Int)<(i:Int):=jO;go_wp2_with fail;go_ret;exact⟨_,rfl,HR,Z⟩
theorem QP(n K:Nat)(hn:n<Yf)(A:0<K/\K<=8)(w:World):
 Calls prog 31 #[.int .u64 n,.int .i64 K,.bool false] w λe w'=>∃g c,e=.returned (.slice (some ⟨g,0,none⟩) K c)/\w'.ownsRow w.heap.size TB 1 (.slice (some ⟨g,0,none⟩) K c) K (Zn (leB K n))/\Below w.heap.size w w':=by
 have I:=aT (λW=>zQ n K hn A.2 W);go_enter func31,ntmps31
 go_wp2_with (go_at_call 66;refine(I _).mono ?_;rintro e J ⟨v,rfl,hr,hb⟩;obtain⟨g,c,rfl⟩:=xO hr A.1;have D:=aT hr;have C:=aT hb;clear hr hb)
 go_ret;exact⟨_,_,rfl,D,C⟩
abbrev FJ:Nat:=58
structure NM(s:Nat)(w:World)(cs:Array Value)(v:Value)(bs:List Nat)(m:Nat)(W:World):Prop where
 box:Z7 W s FJ cs
 row:W.ownsRow (s+1) TB 1 v m (Zn bs)
 Zs:Below s w W
section
variable {s m:Nat} {w W W':World} {cs:Array Value} {v:Value} {bs:List Nat}
theorem NM.to(h:NM s w cs v bs m W)(hb:Below W.heap.size W W'):NM s w cs v bs m W':=
 ⟨h.box.below hb h.box.lt,ZE h.row hb,h.Zs.trans (hb.mono (ace h.box.lt))⟩
theorem NM.more{v':Value}{m':Nat}{ns:List Nat}(h:NM s w cs v bs m W)(A:W.grownBy W' v.ownBlock)(hr:W'.ownsRow (s+1) TB 1 v' m' (Zn bs++Zn ns)):NM s w cs v' (bs++ns) m' W':=
 ⟨h.box.kept A (λe=>YZ h.row h.box jD e.symm),(by rw[JM];exact hr),h.Zs.grown A (ace h.box.lt) (λk e=>by have:=(h.row.lt k e).1;omega)⟩
end
def NL(al:List Nat):List Nat:=al.flatMap (leB 8)
theorem zP{al:List Nat}{i x:Nat}(h:al[i]? =some x):NL (al.take (i+1))=NL (al.take i)++leB 8 x:=by
 unfold NL;rw[afb,h,acb];simp
def VG(num aD3 ptr:Nat)(al:List Nat):List Nat:=leB 4 num++leB 4 aD3++leB 8 ptr++NL al
theorem OT(bs:List Nat):(Zn bs).length=bs.length:=by unfold Zn;rw[aad]
theorem zO(num A ptr a0 a1 a2 a3 a4 C:Nat)(hn:num<4294967296)(ha:A<4294967296)(hp:ptr<Yf)(h0:a0<Yf)(h1:a1<Yf)(h2:a2<Yf)(h3:a3<Yf)(h4:a4<Yf)(h5:C<Yf)(w:World):
 Calls prog 13 #[.agg #[.int .u32 num,.int .u32 A,.int .u64 ptr,.int .u64 a0,.int .u64 a1,.int .u64 a2,.int .u64 a3,.int .u64 a4,.int .u64 C],.bool false] w λe w'=>∃v,e=.returned v/\w'.ownsRow w.heap.size TB 1 v 64 (Zn (VG num A ptr [a0,a1,a2,a3,a4,C]))/\Below w.heap.size w w':=by
 obtain⟨i0,hi,hz0,hz1,hz2⟩:=ZP yq;have Ls:=aT (λW=>QP num 4 (by unfold Yf;omega) jD W);have Ut:=aT (λW=>QP A 4 (by unfold Yf;omega) jD W);have Gk:=aT (λW=>QP ptr 8 hp jD W);have HAs:Hid (∀a∈[a0,a1,a2,a3,a4,C],∀W,Calls prog 31 #[.int .u64 a,.int .i64 ((8:Nat):Int),.bool false] W λe w'=>∃g c,e=.returned (.slice (some ⟨g,0,none⟩) 8 c)/\w'.ownsRow W.heap.size TB 1 (.slice (some ⟨g,0,none⟩) 8 c) 8 (Zn (leB 8 a))/\Below W.heap.size W w'):=λa hm W=>QP a 8 (by simp only[abf,ajf,atg] at hm;rcases hm with rfl|rfl|rfl|rfl|rfl|rfl<;>assumption) jD W
 have wn:IntKind.u64.wrap (num:Int)=(num:Int):=by rw[IntKind.wrap_u64];omega
 have wa:IntKind.u64.wrap (A:Int)=(A:Int):=by rw[IntKind.wrap_u64];omega
 obtain⟨cs,hcs⟩:∃cs:Array Value,#[.int .u32 num,.int .u32 A,.int .u64 ptr,.int .u64 a0,.int .u64 a1,.int .u64 a2,.int .u64 a3,.int .u64 a4,.int .u64 C]=cs:=⟨_,rfl⟩;have HX:Hid (Z7 (w.alloc (.cells #[.int .u32 num,.int .u32 A,.int .u64 ptr,.int .u64 a0,.int .u64 a1,.int .u64 a2,.int .u64 a3,.int .u64 a4,.int .u64 C] FJ)) w.heap.size FJ cs):=by rw[<-hcs];exact Z7.new w _ _
 have HC:Hid (∀W,Z7 W w.heap.size FJ cs->W.cell? ⟨w.heap.size,0,none⟩=some (.int .u32 num)/\W.cell? ⟨w.heap.size,1,none⟩=some (.int .u32 A)/\W.cell? ⟨w.heap.size,2,none⟩=some (.int .u64 ptr)/\∀i,i<6->∃a:Nat,[a0,a1,a2,a3,a4,C][i]? =some a/\W.cell? ⟨w.heap.size,3+i,none⟩=some (.int .u64 a)):=λW U=>by
  subst hcs;refine⟨U.cell 0,U.cell 1,U.cell 2,λi hi=> ?_⟩;rcases (show i=0\/i=1\/i=2\/i=3\/i=4\/i=5 from jO) with rfl|rfl|rfl|rfl|rfl|rfl;·exact⟨a0,rfl,U.cell 3⟩
  ·exact⟨a1,rfl,U.cell 4⟩
  ·exact⟨a2,rfl,U.cell 5⟩
  ·exact⟨a3,rfl,U.cell 6⟩
  ·exact⟨a4,rfl,U.cell 7⟩
  ·exact⟨C,rfl,U.cell 8⟩
 have HB:=aT ((aH w.heap.size w).alloc (aR _) (.cells #[.int .u32 num,.int .u32 A,.int .u64 ptr,.int .u64 a0,.int .u64 a1,.int .u64 a2,.int .u64 a3,.int .u64 a4,.int .u64 C] FJ));clear hcs hn ha hp h0 h1 h2 h3 h4 h5;go_enter func13,ntmps13;go_upto_region 1 with fail;generalize w.alloc (.cells #[.int .u32 num,.int .u32 A,.int .u64 ptr,.int .u64 a0,.int .u64 a1,.int .u64 a2,.int .u64 a3,.int .u64 a4,.int .u64 C] FJ)=w1 at*;obtain⟨s,hs⟩:=jX w.heap.size;have HSs:=aT hs;rw[hs] at HX HC HB ⊢;clear hs;have yE:s<w1.heap.size:=HX.lt;have HD:Hid (∀W,Below w1.heap.size w1 W->W.cell? ⟨s,0,none⟩=some (.int .u32 num)/\W.cell? ⟨s,1,none⟩=some (.int .u32 A)):=λW U=>by have h:=HC W (HX.below U yE);exact⟨h.1,h.2.1⟩
 have kd:Below w1.heap.size w1 w1.drew:=(aH _ w1).drew
 go_region_held_law (λw'=>w'.cell? ⟨s,0,none⟩=some (.int .u32 num)/\w'.cell? ⟨s,1,none⟩=some (.int .u32 A)) (first|exact HD _ (by first|(with_reducible assumption)|(with_reducible exact kd))|exact⟨(HC _ J.box).1,(HC _ J.box).2.1⟩) (first
  |(have hh:=KJ;clear hh;go_at_call 31;refine(Ut _).mono ?_;rintro e w3 ⟨g3,c3,rfl,r3,hb3⟩;have k3:Below w1.heap.size w1 w3:=k2.trans (hb3.mono k2.size);have JA:=aT r3;have Y:=aT (ZE KJ hb3);have hs3:s+1<=w3.heap.size:=(by have:=k3.size;omega);clear r3)
  |(go_at_call 31;go_loud (refine(Ls _).mono ?_;rintro e w2 ⟨g2,c2,rfl,r2,hb2⟩;have k2:Below w1.heap.size w1 w2:=kd.trans hb2;have KJ:=aT (Zd r2 (show s+1<=w1.heap.size from jO));have hs2:s+1<=w2.heap.size:=(by have:=k2.size;omega);clear r2))
  |(refine step_append_lies _ rfl _ _ 42 rfl (s+1) TB i0 (.int .u8 0) 1 1 underlying42 hi hz0 hz1 hz2 rfl jD (.slice (some ⟨g2,0,none⟩) 4 c2) 4 (Zn (leB 4 num)) rfl Y ⟨g3,0,none⟩ 4 c3 (Zn (leB 4 A)) rfl (by rw[OT,W4]) (JA.cells rfl) (MW _) jD (by unfold maxLen;omega) jO hs3 _ rfl ?_;intro gb cap w4 T hg4 aD4 an1;have J:Hid (NM s w cs (.slice (some ⟨gb,0,none⟩) (4+4) cap) (leB 4 num++leB 4 A) (4+4) w4):=NM.more ⟨HX.below k3 yE,Y,HB.trans (k3.mono (ace yE))⟩ hg4 T;clear T hg4 aD4))
 all_goals (
  clear HD Ls Ut KJ JA Y HX HB;obtain⟨_,_,z2,_⟩:=HC _ J.box
  go_wp2_with (first
   |(go_at_call 31;refine(Gk _).mono ?_;rintro e w5 ⟨g5,c5,rfl,r5,mC⟩;have tO:=aT r5;have cU:=aT (J.to mC);have hs5:s+1<=w5.heap.size:=cU.box.lt;clear r5 mC J)
   |(at_builtin;refine adg _ rfl _ _ 42 rfl (s+1) TB i0 (.int .u8 0) 1 1 underlying42 hi hz0 hz1 hz2 rfl jD _ (4+4) _ rfl cU.row ⟨g5,0,none⟩ 8 c5 (Zn (leB 8 ptr)) rfl ?c1 ?c2 ?c3 ?c4 ?c5 ?c6 ?_;(case c1=>rw[OT,W4]);(case c2=>exact tO.cells rfl);(case c3=>exact MW _);(case c4=>unfold maxLen;omega);(case c5=>omega);(case c6=>exact hs5);intro v6 w6 I km _;have oD:Hid (NM s w cs v6 (leB 4 num++leB 4 A++leB 8 ptr) 16 w6):=NM.more cU km I;clear I km cU tO)))
 clear wn wa;have hH:=hs5;clear hs5 hs2 hs3 k2 k3 hb2 hb3 kd z2
 all_goals (
  go_upto_region 4 with fail;go_loopg [5,6] 7 (λgg v iv wr=>∃i:Nat,i<=6/\6-i<gg/\iv=.int .i64 (i:Int)/\Hid (NM s w cs v (leB 4 num++leB 4 A++leB 8 ptr++NL ([a0,a1,a2,a3,a4,C].take i)) (16+8*i) wr));case atStart=>exact⟨0,jD,jD,rfl,(by show NM _ _ _ _ _ _ _;simpa [NL] using oD.out)⟩
  case round=>
   obtain⟨i,hi6,VP,rfl,HR⟩:=hrel;clear oD;have yU:=jZ i;by_cases hlt:i<6
   ·have Y8:(i:Int)<6:=by omega
    have Jz:=jW i;obtain⟨a,ha,za⟩:=(HC _ HR.box).2.2.2 i hlt;have HAa:=aT (HAs a (af ha));have HN:=aT (zP ha);clear ha
    go_wp2_with (first
     |(go_at_call 31;refine(HAa _).mono ?_;rintro e w7 ⟨g7,c7,rfl,r7,Sm⟩;have HR7:=aT r7;have Z:=aT (HR.to Sm);have iE:s+1<=w7.heap.size:=Z.box.lt;clear r7 Sm HR za)
     |(at_builtin;refine adg _ rfl _ _ 42 rfl (s+1) TB i0 (.int .u8 0) 1 1 underlying42 hi hz0 hz1 hz2 rfl jD _ (16+8*i) _ rfl Z.row ⟨g7,0,none⟩ 8 c7 (Zn (leB 8 a)) rfl ?c1 ?c2 ?c3 ?c4 ?c5 ?c6 ?_;(case c1=>rw[OT,W4]);(case c2=>exact HR7.cells rfl);(case c3=>exact MW _);(case c4=>unfold maxLen;omega);(case c5=>omega);(case c6=>exact iE);intro v8 w8 D LG _;have fB:Hid (NM s w cs v8 (leB 4 num++leB 4 A++leB 8 ptr++NL ([a0,a1,a2,a3,a4,C].take (i+1))) (16+8*(i+1)) w8):=(by rw[HN.out,<-aba];exact NM.more Z LG D);clear D LG Z HR7))
    go_roundg (6-i);case measure=>omega
    case rel=>exact⟨i+1,jO,jO,by go_num,fB⟩
   ·obtain rfl:i=6:=by omega
    have Y8:¬((6:Nat):Int)<6:=jD;have hrow:=HR.row;have HRo:Hid (World.ownsRow wr s TB 1 _ 64 (Zn (VG num A ptr [a0,a1,a2,a3,a4,C]))):=Zd hrow (show s<=s+1 from jO);go_wp2_with fail;go_ret;refine⟨_,rfl,?_,?_⟩<;>rw[HSs.out]
    ·exact HRo
    ·exact HR.Zs)
theorem iz(n:Nat):leB 4 n=[n%256,n/256%256,n/256/256%256,n/256/256/256%256]:=rfl
theorem ur{b:List Nat}{k:Nat}(h:a.length<=k):Yy (a++b) k=Yy b (k-a.length):=by
 unfold Yy;simp only[afg];rw[aae h,aae jO,aae jO,aae jO];rw[show k+1-a.length=k-a.length+1 from jO,show k+2-a.length=k-a.length+2 from jO,show k+3-a.length=k-a.length+3 from jO]
theorem JL{b:List Nat}{k:Nat}(h:k+3<a.length):Yy (a++b) k=Yy a k:=by
 unfold Yy;simp only[afg];rw[abb jO,abb jO,abb jO,abb h]
theorem GY{n:Nat}(h:n<4294967296):Yy (leB 4 n) 0=n:=by
 rw[iz];show n%256+256*(n/256%256)+65536*(n/256/256%256)+16777216*(n/256/256/256%256)=n;omega
theorem GX:∀l:List Nat,(NL l).length=l.length*8
 |[]=>rfl
 |x::l=>by have A:=GX l;unfold NL at*;rw[acd,ay,W4,A,aj];omega
theorem GW(n a p:Nat)(l:List Nat):(VG n a p l).length=16+l.length*8:=by
 unfold VG;rw[ay,ay,ay,W4,W4,W4,GX]
theorem CK(n a p:Nat)(l:List Nat):∀b∈VG n a p l,b<256:=by
 intro b hb;unfold VG at hb;rcases abe.1 hb with hb|hb
 ·rcases abe.1 hb with hb|hb
  ·rcases abe.1 hb with hb|hb;·exact JN _ _ b hb
   ·exact JN _ _ b hb
  ·exact JN _ _ b hb
 ·obtain⟨y,_,hy⟩:=aqf.1 hb;exact JN _ _ b hy
theorem uq{n:Nat}(a p:Nat)(l:List Nat)(h:n<4294967296):Yy (VG n a p l) 0=n:=by
 unfold VG;rw[aba,aba,JL (by rw[W4];omega)];exact GY h
theorem zN(n:Nat){a:Nat}(p:Nat)(l:List Nat)(h:a<4294967296):Yy (VG n a p l) 4=a:=by
 unfold VG;rw[aba,aba,ur (by rw[W4];omega),W4,JL (by rw[W4];omega)];exact GY h
def seen(k x:Nat):Nat:=if k=2 then x%4294967296 else x
theorem uo(n a p:Nat)(l:List Nat):GJ (Yy (VG n a p l)):=J6 (CK n a p l)
end Go.Proofs.YtclgigmgbebhgaaGreatDoor
namespace Go.Proofs.YtclgigmgbebhgaaGreatDoor.Zh
open Tryz
open Go Go.Proofs Go.RowKit Go.Sort Go.Shelf
def Xb(W:World):Prop:=Lib.TabIs prog W "internal/strconv.uint64pow10" .u64 Lib.pow10Tab
theorem Xb.below{W W':World}(h:Xb W)(hb:Below W.heap.size W W'):Xb W':=by
 cases A:prog.globalNamed "internal/strconv.uint64pow10" with
 |none=>unfold Xb Lib.TabIs World.var? at h;rw[A] at h;cases h
 |some g=>exact Go.Joins.tab_stays A h hb (aR _)
theorem iy(u:Nat)(hu:100<=u)(A:u<18446744073709551616)(w:World)(I:Xb w):
 Calls prog 333 #[.int .u64 u,.int .i64 10] w λe w'=>e=.returned (.string (YE u))/\Below w.heap.size w w':=by
 have Z:1<=u:=jO;have aF6:Lib.nDigits u<=20:=by have:=Lib.numDigits_eq u Z A;split at this<;>omega
 have hal:prog.arrayLen 420=24:=by simp[Program.arrayLen,underlying420]
 have yE:∀W,(Instr.sliceAt 420 (.pointer (some ⟨w.heap.size,0,none⟩)) none (some (.int .i64 (Lib.nDigits u:Int))) none).run prog W=.ok (.slice (some ⟨w.heap.size,0,none⟩) (Lib.nDigits u) 24) W:=λW=>by rw[run_sliceAt_array_h W 420 ⟨w.heap.size,0,none⟩ (by simp[Program.arrayLen,Program.elem,underlying420]) .i64 (Lib.nDigits u:Int) jO (by rw[hal];omega)];go_simp
 have U:=Lib.holds_zero0 w 420 (Lib.nDigits u) jO;have C:=Any.internal_strconv_formatBase10 Tryz.iM w.heap.size 0 24 u (Array.replicate (Lib.nDigits u) 0) (w.alloc (.cells Lib.zeros24 420)) U (by rw[auf];exact Lib.lt_pow_nDigits u) A (by rw[auf];omega);rw[auf] at C;have D:=Any.internal_strconv_numDigits Tryz.oY u Z A _ (Lib.tabIs_alloc I (.cells Lib.zeros24 420));have Y:=aT U;have HN:=aT D;have HF:=aT C;have iu:(100:Int)<=(u:Int):=jO;clear U hal D C I A;go_enter func333,ntmps333;go_wp2_with fail;refine HN.mono ?_;rintro e w' ⟨rfl,rfl⟩;go_wp2_with fail;refine HF.mono ?_;rintro e w' ⟨rfl,k,v',T,rfl,hF⟩;have hcv:(convert 42 9 (.slice (some ⟨w.heap.size,0,none⟩) (Lib.nDigits u) 24)).run prog ((putRow (λ(b:UInt8)=>Value.int .u8 b.toNat) (w.alloc (.cells Lib.zeros24 420)) w.heap.size 0 T).drewN k)=.ok (.string ⟨(Lib.decDigits u).toArray⟩) ((putRow (λ(b:UInt8)=>Value.int .u8 b.toNat) (w.alloc (.cells Lib.zeros24 420)) w.heap.size 0 T).drewN k):=by
  have h:=run_convert_bytes_back (P:=prog) ((putRow (λ(b:UInt8)=>Value.int .u8 b.toNat) (w.alloc (.cells Lib.zeros24 420)) w.heap.size 0 T).drewN k) 42 9 5 ⟨w.heap.size,0,none⟩ 24 (Lib.decDigits u) underlying42 underlying5 underlying9 (λj hj=>by rw[Lib.row_is_numeral hF j hj,Lib.add_plain,World.cell?_drewN];exact cell?_putRow (λ(b:UInt8)=>Value.int .u8 b.toNat) _ w.heap.size 0 _ T Y (by rw[hF.size,auf]) j (by rw[hF.size];rw[Lib.decDigits_length] at hj;exact hj))
  rw[Lib.decDigits_length] at h;exact h
 obtain⟨os,eo⟩:=Lib.fin_at w (.cells Lib.zeros24 420) T k 0;have J:Below w.heap.size w ((putRow (λ(b:UInt8)=>Value.int .u8 b.toNat) (w.alloc (.cells Lib.zeros24 420)) w.heap.size 0 T).drewN k):=by rw[eo];exact Lib.below_grow _ w (aR _) k os
 have HX:=aT J;clear eo Y hF J HN HF;generalize (putRow (λ(b:UInt8)=>Value.int .u8 b.toNat) (w.alloc (.cells Lib.zeros24 420)) w.heap.size 0 T).drewN k=W2 at*;go_wp2;go_ret;exact⟨rfl,HX⟩
theorem um(u:Nat)(hu:u<100)(w:World):
 Calls prog 333 #[.int .u64 u,.int .i64 10] w λe w'=>e=.returned (.string (YE u))/\Below w.heap.size w w':=by
 have C:(u:Int)<100:=jO;have hs:=λW=>Any.internal_strconv_small Tryz.iN u hu W
 have A:=aT hs;clear hs;go_enter func333,ntmps333;go_wp2_with fail;refine(A _).mono ?_;rintro e w' ⟨rfl,rfl⟩;go_wp2;go_ret;exact⟨rfl,aH _ _⟩
theorem ir(u:Nat)(A:u<18446744073709551616)(w:World)(C:Xb w):
 Calls prog 333 #[.int .u64 u,.int .i64 10] w λe w'=>e=.returned (.string (YE u))/\Below w.heap.size w w':=by
 by_cases h:u<100;·exact um u h w
 ·exact iy u jO A w C
theorem ad5(u:Nat)(A:u<18446744073709551616)(w:World)(C:Xb w):
 Calls prog 272 #[.int .u64 u,.int .i64 10] w λe w'=>e=.returned (.string (YE u))/\Below w.heap.size w w':=by
 have D:=aT (ir u A w C);go_enter func272,ntmps272;go_wp2_with fail;refine D.mono ?_;rintro e w' ⟨rfl,hb⟩;go_wp2;go_ret;exact⟨rfl,hb⟩
theorem Uk(u:Nat)(A:u<18446744073709551616)(w:World)(C:Xb w):
 Calls prog 211 #[.int .u64 u] w λe w'=>e=.returned (.string (YE u))/\Below w.heap.size w w':=by
 have D:=aT (ad5 u A w C);go_enter func211,ntmps211;go_wp2_with fail;refine D.mono ?_;rintro e w' ⟨rfl,hb⟩;go_wp2;go_ret;exact⟨rfl,hb⟩
theorem FI(i:Nat)(hi:i<100)(w:World):Calls prog 210 #[.int .i64 i] w λe w'=>e=.returned (.string (YE i))/\Below w.heap.size w w':=by
 refine(Any.strconv_Itoa_small Tryz.iO i hi w).mono ?_;rintro e w' ⟨rfl,rfl⟩;exact⟨rfl,aH _ _⟩
end Go.Proofs.YtclgigmgbebhgaaGreatDoor.Zh
