/- TopFirst: part 2: TopCond TopResP TopMem. -/
import Derived.Test.YtclgigmgbebhgaaGreatDoorF01
set_option linter.unusedVariables false
set_option linter.unusedSimpArgs false
set_option maxRecDepth 100000
set_option maxHeartbeats 16000000
namespace Go.Proofs.YtclgigmgbebhgaaGreatDoor
open Tryz
open Go Go.Proofs Go.RowKit Go.Maps Go.WideMaps Go.ChangeMaps
variable {LO M Bm:Nat} {w w':World}
theorem O2(n:Nat)(hn:n<18446744073709551616)(w:World):Calls prog 20 #[.int .u64 n] w λe w'=>e=.returned (.tuple #[.int .u32 (lo n:Int),.int .u32 (hi n:Int)])/\w'=w:=by
 have C:IntKind.u32.wrap (n:Int)=((lo n:Nat):Int):=by rw[axc];unfold lo;omega
 have D:IntKind.u32.wrap ((n:Int)/4294967296)=((hi n:Nat):Int):=by rw[axc];unfold hi;omega
 go_enter func20,ntmps20;go_wp2_with fail;go_ret2;exact⟨rfl,rfl⟩
theorem sV(a:Nat)(ha:a<=5)(b:Bool)(w:World):Calls prog 314 #[.int .i64 a,.bool b] w λe w'=>e=.returned (.tuple #[.int .i64 (if b then(Y5 a:Int) else(Yv a:Int)),.int .i64 0])/\w'=w:=by
 have I:IntKind.i64.wrap (8*(a:Int))=8*(a:Int):=aJ _ jO;have D:IntKind.i64.wrap (16+8*(a:Int))=16+8*(a:Int):=aJ _ jO;have C:IntKind.i64.wrap (16+8*(a:Int)+4)=16+8*(a:Int)+4:=aJ _ jO;have c1:¬((a:Int)<0):=jO;have J:¬((5:Int)<(a:Int)):=jO;have e1:((Y5 a:Nat):Int)=16+8*(a:Int)+4:=by unfold Y5;omega
 have e2:((Yv a:Nat):Int)=16+8*(a:Int):=by unfold Yv;omega
 rw[e1,e2];cases b with
 |true=>
  go_enter func314,ntmps314;go_wp2_with fail;go_ret2;exact⟨rfl,rfl⟩
 |false=>
  go_enter func314,ntmps314;go_wp2_with fail;go_ret2;exact⟨rfl,rfl⟩
theorem zo(a:Nat)(ha:a<=5)(w:World):Calls prog 243 #[.int .i64 a,.bool false] w λe w'=>e=.returned (.tuple #[.int .i64 (Yv a:Int),.int .i64 0])/\w'=w:=by
 have C:=aT (sV a ha false w);go_enter func243,ntmps243;go_wp2_with fail;refine C.out.mono ?_;rintro e w' ⟨rfl,rfl⟩;go_wp2_with fail;go_ret2;exact⟨rfl,rfl⟩
theorem sU(a:Nat)(ha:a<=5)(w:World):Calls prog 308 #[.int .i64 a,.bool false] w λe w'=>e=.returned (.tuple #[.int .i64 (Y5 a:Int),.int .i64 0])/\w'=w:=by
 have C:=aT (sV a ha true w);go_enter func308,ntmps308;go_wp2_with fail;refine C.out.mono ?_;rintro e w' ⟨rfl,rfl⟩;go_wp2_with fail;go_ret2;exact⟨rfl,rfl⟩
def KM(M f:Nat):Value:=.func (.func f) #[.pointer (some ⟨M,0,none⟩)] #[]
def Gu(M:Nat):List (Value×Value):=[(.int .i64 1,KM M 309),(.int .i64 2,KM M 310),(.int .i64 3,KM M 311),(.int .i64 6,KM M 312),(.int .i64 7,KM M 313)]
theorem V7:Keyed prog 3:=int_keyed underlying3
theorem O1(n:Int)(h: -9223372036854775808<=n/\n<=9223372036854775807):∃l,keyOf prog 3 (.int .i64 n)=some l:=⟨_,keyOf_int_mk underlying3 (by
 show(decide (IntKind.i64.min<=n)&&decide (n<=IntKind.i64.max))=true;rw[show IntKind.i64.min= -9223372036854775808 from jD,show IntKind.i64.max=9223372036854775807 from jD];simp only[aef,adf];exact h)⟩
theorem Zj.grown{v:Value}{g:G}(h:Zj LO M Bm w v g){B:Nat}(C:w.grownBy w' (some B))(D:w.heap.size<=B):Zj LO M Bm w' v g:=
 ⟨h.blk.kept C (λe=>by have:=h.blk.lt;have:=aq e;omega),h.own.kept C (.inr (λe=>by have:=(h.own.lt B e).2;omega)),h.map.kept C (λe=>by have:=h.map.lt;have:=aq e;omega),h.lo⟩
theorem Yb.grown {w0:World}(h:Yb LO M Bm w0 w){B:Nat}(D:w.grownBy w' (some B))(T:w0.heap.size<=B)(I:LO<=w.heap.size)(J:LO<=B):Yb LO M Bm w0 w':=
 ⟨h.1.grown D I (λk e=>by have:=aq e;omega),aO h.2.1 D.size,λk o hk a b c=>
   have C:=h.2.2 k o hk a b c
   (D.block k (aac.1 C).1 (λe=>by have:=(aac.1 hk).1;have:=aq e;omega)).trans C⟩
theorem Rt{W:World}{B:Nat}{k:Int}{f:Nat}(h:Zz W B (Gu M))(hm:(.int .i64 k,KM M f)∈Gu M):(Instr.lookup 394 (.map (some B)) (.int .i64 k) false).run prog W=.ok (.func (.func f) #[.pointer (some ⟨M,0,none⟩)] #[]) W:=
 Xq underlying394 V7 h (Ru underlying3 jR) (Ru (P:=prog) (t:=3) underlying3 (S:=Gu M) jR _ hm) hm (by simp[Gu])
theorem sT {v:Value}{g:G}(c:Z5)(wide:Bool)(yes no:Int)(hc:c.nf)(w:World)(h:Zj LO M Bm w v g)(hl:g.l.length+6<=1000000)(VS:LO<=w.heap.size):
 Calls prog 242 #[.pointer (some ⟨M,0,none⟩),.agg #[.int .i64 c.a,.int .i64 c.o,.int .u64 c.m,.int .u64 c.v],.bool wide,.int .i64 yes,.int .i64 no] w (VC LO M Bm g w (XC c wide yes no)):=by
 obtain⟨a,o,m,I⟩:=c;obtain⟨ha,ho,_,hm,hv⟩:=hc;dsimp only at*;have Jj:= @aog prog;have gZ:∀(fn:Fn) (first cap:Array Value) (w:World),(Instr.makeFunc fn first cap).run prog w=.ok (.func fn first cap) w:=λ_ _ _ _=>rfl
 have q1:IntKind.u32.wrap ((Yv a:Nat):Int)=(Yv a:Nat):=awg _ (by unfold Yv;omega);have q2:IntKind.u32.wrap ((Y5 a:Nat):Int)=(Y5 a:Nat):=awg _ (by unfold Y5;omega);have HV:=aT hv;have HM:=aT hm;have HA:=aT ha;have Cl:=(Z7.new w 68 #[.int .i64 a,.int .i64 o,.int .u64 m,.int .u64 I]);obtain⟨ar7,af4,ar8,ar9⟩:=Cl.q4;have HH:=aT (h.al (.cells #[.int .i64 a,.int .i64 o,.int .u64 m,.int .u64 I] 68));have HF:=aT (Yb.alloc (LO:=LO) (M:=M) (Bm:=Bm) (a:=w) (.cells #[.int .i64 a,.int .i64 o,.int .u64 m,.int .u64 I] 68) VS);have hs:w.heap.size<=(w.alloc (.cells #[.int .i64 a,.int .i64 o,.int .u64 m,.int .u64 I] 68)).heap.size:=by rw[aj];omega
 have dM:w.heap.size<(w.alloc (.cells #[.int .i64 a,.int .i64 o,.int .u64 m,.int .u64 I] 68)).heap.size:=Cl.lt;clear Cl h hv hm ha;unfold VC;go_enter func242,ntmps242;go_upto_region 1 with fail;generalize hwx:w.alloc (.cells #[.int .i64 a,.int .i64 o,.int .u64 m,.int .u64 I] 68)=wx at*;clear hwx;generalize w.heap.size=C0 at*;have aG1:¬C0=wx.heap.size:=Nat.ne_of_lt dM;go_wp2_with fail;refine(O2 _ HV.out _).mono ?_;rintro e w' ⟨rfl,rfl⟩;go_wp2_with fail;refine(O2 _ HM.out _).mono ?_;rintro e w' ⟨rfl,rfl⟩;go_wp2_with fail;refine(zo a HA.out _).mono ?_;rintro e w' ⟨rfl,rfl⟩;go_wp2_with fail;refine(sU a HA.out _).mono ?_;rintro e w' ⟨rfl,rfl⟩;go_upto_region 7 with fail;have XX:Hid (Z7 (wx.alloc (.cells (UT (Yv a) (Y5 a) (lo I) (hi I) (lo m) (hi m) wide yes no) 391)) wx.heap.size 391 (UT (Yv a) (Y5 a) (lo I) (hi I) (lo m) (hi m) wide yes no)):=Z7.new wx _ _;have LD:=aT (HH.out.al (.cells (UT (Yv a) (Y5 a) (lo I) (hi I) (lo m) (hi m) wide yes no) 391));have T:=aT (HF.out.trans (Yb.alloc (LO:=LO) (M:=M) (Bm:=Bm) (a:=wx) (.cells (UT (Yv a) (Y5 a) (lo I) (hi I) (lo m) (hi m) wide yes no) 391) (aO VS hs)));have Vb:(wx.alloc (.cells (UT (Yv a) (Y5 a) (lo I) (hi I) (lo m) (hi m) wide yes no) 391)).cell? ⟨C0,1,none⟩=some (.int .i64 o):=((aG wx.heap.size wx).alloc (aR _) _).cell dM |>.trans af4;have hs2:wx.heap.size<(wx.alloc (.cells (UT (Yv a) (Y5 a) (lo I) (hi I) (lo m) (hi m) wide yes no) 391)).heap.size:=by rw[aj];omega
 unfold UT at*;generalize hwy:wx.alloc (.cells #[.int .u32 (Yv a:Int),.int .u32 (Y5 a:Int),.int .u32 (lo I:Int),.int .u32 (hi I:Int),.int .u32 (lo m:Int),.int .u32 (hi m:Int),.bool wide,.int .i64 yes,.int .i64 no] 391)=wy at*;clear hwy ar7 af4 ar8 ar9 HH HF q1 q2;have HNE:Hid (C0≠wy.heap.size):=by show _≠_;omega
 have Z:Hid (wx.heap.size≠wy.heap.size):=by show _≠_;omega
 rcases ho with rfl|rfl|rfl|rfl|rfl
 ·have C:=aT (Nq.made wy)
  go_wp2_with (refine YR rfl rfl 394 _ _ _ rfl 3 393 V7 underlying394 wy wy.heap.size _ C.out rfl _ _ rfl rfl ?hS ?hk ?hn ?_;(case hk=>exact O1 _ jO);(case hS=>exact Ru underlying3 jR);(case hn=>exact KO jR);clear C;(try clear y7);intro w7 D;have y7:=D.grown.cell Vb (λe=>HNE.out (aq e));have C:=aT D;clear D)
  have lk:=Rt (k:=1) (f:=309) C.out.map (by simp[Gu,KM]);have J:=XX.out.kept C.out.grown (λe=>Z.out (aq e));obtain⟨c0,c1,c2,c3,c4,c5,c6,c7,c8⟩:=J.q9;clear J;rw[lk];clear lk;go_wp2_with fail;refine(En (Yv a) (Y5 a) (lo I) (hi I) (lo m) (hi m) wide yes no w7 (LD.out.grown C.out.grown (aR _)) jO (by have:=C.out.grown.size;omega)).mono ?_;rintro e w8 ⟨rfl,v8,h8,f8⟩;have U:=aT h8;have Y:=aT ((T.out.grown C.out.grown T.out.2.1 jO jO).trans f8);clear h8 f8;go_wp2_with fail;go_end0;exact⟨rfl,v8,U.out,Y.out⟩
 ·have C:=aT (Nq.made wy)
  go_wp2_with (refine YR rfl rfl 394 _ _ _ rfl 3 393 V7 underlying394 wy wy.heap.size _ C.out rfl _ _ rfl rfl ?hS ?hk ?hn ?_;(case hk=>exact O1 _ jO);(case hS=>exact Ru underlying3 jR);(case hn=>exact KO jR);clear C;(try clear y7);intro w7 D;have y7:=D.grown.cell Vb (λe=>HNE.out (aq e));have C:=aT D;clear D)
  have lk:=Rt (k:=2) (f:=310) C.out.map (by simp[Gu,KM]);have J:=XX.out.kept C.out.grown (λe=>Z.out (aq e));obtain⟨c0,c1,c2,c3,c4,c5,c6,c7,c8⟩:=J.q9;clear J;rw[lk];clear lk;go_wp2_with fail;refine(BX (Yv a) (Y5 a) (lo I) (hi I) (lo m) (hi m) wide yes no w7 (LD.out.grown C.out.grown (aR _)) jO (by have:=C.out.grown.size;omega)).mono ?_;rintro e w8 ⟨rfl,v8,h8,f8⟩;have U:=aT h8;have Y:=aT ((T.out.grown C.out.grown T.out.2.1 jO jO).trans f8);clear h8 f8;go_wp2_with fail;go_end0;exact⟨rfl,v8,U.out,Y.out⟩
 ·have C:=aT (Nq.made wy)
  go_wp2_with (refine YR rfl rfl 394 _ _ _ rfl 3 393 V7 underlying394 wy wy.heap.size _ C.out rfl _ _ rfl rfl ?hS ?hk ?hn ?_;(case hk=>exact O1 _ jO);(case hS=>exact Ru underlying3 jR);(case hn=>exact KO jR);clear C;(try clear y7);intro w7 D;have y7:=D.grown.cell Vb (λe=>HNE.out (aq e));have C:=aT D;clear D)
  have lk:=Rt (k:=3) (f:=311) C.out.map (by simp[Gu,KM]);have J:=XX.out.kept C.out.grown (λe=>Z.out (aq e));obtain⟨c0,c1,c2,c3,c4,c5,c6,c7,c8⟩:=J.q9;clear J;rw[lk];clear lk;go_wp2_with fail;refine(Nr (Yv a) (Y5 a) (lo I) (hi I) (lo m) (hi m) wide yes no w7 (LD.out.grown C.out.grown (aR _)) jO (by have:=C.out.grown.size;omega)).mono ?_;rintro e w8 ⟨rfl,v8,h8,f8⟩;have U:=aT h8;have Y:=aT ((T.out.grown C.out.grown T.out.2.1 jO jO).trans f8);clear h8 f8;go_wp2_with fail;go_end0;exact⟨rfl,v8,U.out,Y.out⟩
 ·have C:=aT (Nq.made wy)
  go_wp2_with (refine YR rfl rfl 394 _ _ _ rfl 3 393 V7 underlying394 wy wy.heap.size _ C.out rfl _ _ rfl rfl ?hS ?hk ?hn ?_;(case hk=>exact O1 _ jO);(case hS=>exact Ru underlying3 jR);(case hn=>exact KO jR);clear C;(try clear y7);intro w7 D;have y7:=D.grown.cell Vb (λe=>HNE.out (aq e));have C:=aT D;clear D)
  have lk:=Rt (k:=6) (f:=312) C.out.map (by simp[Gu,KM]);have J:=XX.out.kept C.out.grown (λe=>Z.out (aq e));obtain⟨c0,c1,c2,c3,c4,c5,c6,c7,c8⟩:=J.q9;clear J;rw[lk];clear lk;go_wp2_with fail;refine(IG (Yv a) (Y5 a) (lo I) (hi I) (lo m) (hi m) wide yes no w7 (LD.out.grown C.out.grown (aR _)) jO (by have:=C.out.grown.size;omega)).mono ?_;rintro e w8 ⟨rfl,v8,h8,f8⟩;have U:=aT h8;have Y:=aT ((T.out.grown C.out.grown T.out.2.1 jO jO).trans f8);clear h8 f8;go_wp2_with fail;go_end0;exact⟨rfl,v8,U.out,Y.out⟩
 ·have C:=aT (Nq.made wy)
  go_wp2_with (refine YR rfl rfl 394 _ _ _ rfl 3 393 V7 underlying394 wy wy.heap.size _ C.out rfl _ _ rfl rfl ?hS ?hk ?hn ?_;(case hk=>exact O1 _ jO);(case hS=>exact Ru underlying3 jR);(case hn=>exact KO jR);clear C;(try clear y7);intro w7 D;have y7:=D.grown.cell Vb (λe=>HNE.out (aq e));have C:=aT D;clear D)
  have lk:=Rt (k:=7) (f:=313) C.out.map (by simp[Gu,KM]);have J:=XX.out.kept C.out.grown (λe=>Z.out (aq e));obtain⟨c0,c1,c2,c3,c4,c5,c6,c7,c8⟩:=J.q9;clear J;rw[lk];clear lk;go_wp2_with fail;refine(BZ (Yv a) (Y5 a) (lo I) (hi I) (lo m) (hi m) wide yes no w7 (LD.out.grown C.out.grown (aR _)) jO (by have:=C.out.grown.size;omega)).mono ?_;rintro e w8 ⟨rfl,v8,h8,f8⟩;have U:=aT h8;have Y:=aT ((T.out.grown C.out.grown T.out.2.1 jO jO).trans f8);clear h8 f8;go_wp2_with fail;go_end0;exact⟨rfl,v8,U.out,Y.out⟩
end Go.Proofs.YtclgigmgbebhgaaGreatDoor
namespace Go.Proofs.YtclgigmgbebhgaaGreatDoor
open Tryz
open Go Go.Proofs
def Z2(ar:Nat->Nat)(cs:List Z5):Bool:=cs.all λc=>Gx c.o c.m c.v (ar c.a)
def ZG(ar:Nat->Nat):List Z3->Option Nat
 |[]=>none
 |(cs,code)::r=>if Z2 ar cs=true then some code else ZG ar r
theorem V6(ar:Nat->Nat):∀(a b:List Z3),ZG ar (a++b)=(ZG ar a).or (ZG ar b)
 |[],b=>rfl
 |(cs,code)::r,b=>by rw[ahb];show(if Z2 ar cs=true then some code else ZG ar (r++b))=(if Z2 ar cs=true then some code else ZG ar r).or _;rw[V6 ar r b];split<;>rfl
theorem Va(ar:Nat->Nat)(cs:List Z5)(code:Nat):ZG ar [(cs,code)]=if Z2 ar cs=true then some code else none:=rfl
theorem ME{ar:Nat->Nat}:∀{l:List Z3} {r:Z3},r∈l->Z2 ar r.1=true->ZG ar l≠none
 |(cs,code)::l,r,h,hh=>by
  show(if Z2 ar cs=true then some code else ZG ar l)≠none;rcases abb.1 h with rfl|h
  ·rw[aF hh];simp
  ·split;·simp
   ·exact ME h hh
theorem Gt(ar:Nat->Nat):Z2 ar []=true:=rfl
theorem Gs{ar:Nat->Nat}{a b:List Z5}(h:∀c,c∈a↔c∈b):Z2 ar a=Z2 ar b:=by
 unfold Z2;rw[ajd,ajg,ajg];exact⟨λg c hc=>g c ((h c).2 hc),λg c hc=>g c ((h c).1 hc)⟩
def ZO(f:Z5->Yq):List Z5->Option (List Z5)
 |[]=>some []
 |c::cs=>match f c with
  | .never=>none
  | .always=>ZO f cs
  | .asks n=>(ZO f cs).map (n::·)
theorem Nn{f:Z5->Yq}{ar:Nat->Nat}:∀{cs:List Z5},(∀c∈cs,(f c).holds (ar c.a)=Gx c.o c.m c.v (ar c.a))->(∀c∈cs,∀n,f c=.asks n->n.a=c.a)->
 match ZO f cs with|none=>Z2 ar cs=false|some ns=>Z2 ar ns=Z2 ar cs
 |[],_,_=>rfl
 |c::cs,h,ha=>by
  have C:=Nn (cs:=cs) (λd hd=>h d (by simp[hd])) (λd hd=>ha d (by simp[hd]));have hc:=h c jS;have I:=ha c jS;have e:Z2 ar (c::cs)=(Gx c.o c.m c.v (ar c.a)&&Z2 ar cs):=by unfold Z2;rw[List.all_cons]
  unfold ZO;cases hf:f c with
  |never=>
   rw[hf] at hc;show Z2 ar (c::cs)=false;rw[e,<-hc];rfl
  |always=>
   rw[hf] at hc;dsimp only;cases hr:ZO f cs with
   |none=>
    rw[hr] at C;show Z2 ar (c::cs)=false;rw[e,C,Bool.and_false]
   |some ns=>
    rw[hr] at C;show Z2 ar ns=Z2 ar (c::cs);rw[e,<-hc];show _=(true&&_);rw[Bool.true_and];exact C
  |asks n=>
   rw[hf] at hc;dsimp only;have D:=I n hf;cases hr:ZO f cs with
   |none=>
    rw[hr] at C;show Z2 ar (c::cs)=false;rw[e,C,Bool.and_false]
   |some ns=>
    rw[hr] at C;show Z2 ar (n::ns)=Z2 ar (c::cs);have e2:Z2 ar (n::ns)=(Gx n.o n.m n.v (ar n.a)&&Z2 ar ns):=by unfold Z2;rw[List.all_cons]
    rw[e,e2,C,D,<-hc];rfl
def TV(cs:List Z5):Option (List Z5)->Prop
 |none=>ZO Xj cs=none
 |some ns=>∃l,ZO Xj cs=some l/\∀c,c∈ns↔c∈l
theorem KL{ar:Nat->Nat}(C:∀a,ar a<YN){cs:List Z5}(hr:∀c∈cs,c.right){o:Option (List Z5)}(h:TV cs o):match o with|none=>Z2 ar cs=false|some ns=>Z2 ar ns=Z2 ar cs:=by
 have ok:=Nn (f:=Xj) (ar:=ar) (cs:=cs) (λc hc=>(Gw (hr c hc)).2 _ (C _)) (λc hc n hn=>by have:=(Gw (hr c hc)).1;rw[hn] at this;exact this.2)
 cases o with
 |none=>
  rw[show ZO Xj cs=none from h] at ok;exact ok
 |some ns=>
  obtain⟨l,I,D⟩:=h;rw[I] at ok;show Z2 ar ns=_;rw[Gs D];exact ok
def Gr(g:List Z3)(ns:List Z5):Prop:=∃x∈g,x.1=[]\/x.1=ns
inductive TU:List Z3->List Z3->Prop
 |nil:TU [] []
 |gone {rs g cs code}:TU rs g->TV cs none->TU (rs++[(cs,code)]) g
 |hid {rs g cs code ns}:TU rs g->TV cs (some ns)->Gr g ns->TU (rs++[(cs,code)]) g
 |more {rs g cs code ns}:TU rs g->TV cs (some ns)->¬Gr g ns->TU (rs++[(cs,code)]) (g++[(ns,code)])
theorem sS{ar:Nat->Nat}(D:∀a,ar a<YN){rs g:List Z3}(h:TU rs g):(∀r∈rs,∀c∈r.1,c.right)->ZG ar g=ZG ar rs:=by
 induction h with
 |nil=>intro _;rfl
 | @gone rs g cs code _ hn C=>
   intro hr;have C:=C (λr hm=>hr r (by simp[hm]));have hf:=KL D (hr (cs,code) jS) hn;have hf:Z2 ar cs=false:=hf;rw[V6,<-C,Va,hf,aN jD];cases ZG ar g<;>rfl
 | @hid rs g cs code ns _ hn J C=>
   intro hr;have C:=C (λr hm=>hr r (by simp[hm]));have hf:Z2 ar ns=Z2 ar cs:=KL D (hr (cs,code) jS) hn;rw[V6,<-C,Va];obtain⟨x,hx,T⟩:=J;by_cases hc:Z2 ar cs=true
   ·have I:ZG ar g≠none:=ME hx (by
     rcases T with e|e;·rw[e];rfl
     ·rw[e,hf];exact hc)
    cases U:ZG ar g with
    |none=>exact absurd U I
    |some v=>rfl
   ·rw[aN hc];cases ZG ar g<;>rfl
 | @more rs g cs code ns _ hn J C=>
   intro hr;have C:=C (λr hm=>hr r (by simp[hm]));have hf:Z2 ar ns=Z2 ar cs:=KL D (hr (cs,code) jS) hn;rw[V6,V6,C,Va,Va,hf]
inductive WB (d:Nat):List Z3->List Z3->Prop
 |same (l):WB d l l
 |one {l l' cs}:WB d l l'->WB d (l++[(cs,d)]) l'
theorem IE{d:Nat}{ar:Nat->Nat}{l l':List Z3}(h:WB d l l'):(ZG ar l').getD d=(ZG ar l).getD d:=by
 induction h with
 |same l=>rfl
 | @one l l' cs _ C=>
   rw[C,V6,Va];cases ZG ar l with
   |some v=>rfl
   |none=>split<;>rfl
def YG:List Z3->List Z3
 |[]=>[]
 |(cs,code)::r=>match ZO Zi cs with
  |none=>YG r
  |some []=>[([],code)]
  |some ns=>(ns,code)::YG r
def UF:List Z3->List Z3
 |[]=>[]
 |(cs,code)::r=>if cs=[] then [(cs,code)] else(cs,code)::UF r
theorem El(ar:Nat->Nat):∀l:List Z3,ZG ar (UF l)=ZG ar l
 |[]=>rfl
 |(cs,code)::r=>by
  unfold UF;split;·rename_i h;subst h;rfl
  ·show(if Z2 ar cs=true then some code else ZG ar (UF r))=(if Z2 ar cs=true then some code else ZG ar r);rw[El ar r]
theorem KJ{ar:Nat->Nat}(C:∀a,ar a<UX):∀l:List Z3,(∀r∈l,∀c∈r.1,c.nf/\c.kept)->ZG ar (YG l)=ZG ar l
 |[],_=>rfl
 |(cs,code)::r,h=>by
  have D:=KJ C r (λx hx=>h x (by simp[hx]));have hc:=h (cs,code) jS;have ok:=Nn (f:=Zi) (ar:=ar) (cs:=cs) (λc hm=>(Np (hc c hm).1 (hc c hm).2).1 _ (C _)) (λc hm n hn=>by have:=(Np (hc c hm).1 (hc c hm).2).2;rw[hn] at this;exact this.2.1)
  show ZG ar (YG ((cs,code)::r))=(if Z2 ar cs=true then some code else ZG ar r);unfold YG;cases ha:ZO Zi cs with
  |none=>
   rw[ha] at ok;have ok:Z2 ar cs=false:=ok;rw[ok,aN jD];exact D
  |some ns=>
   rw[ha] at ok;have ok:Z2 ar ns=Z2 ar cs:=ok;cases ns with
   |nil=>
    rw[<-ok,Gt,aF rfl];rfl
   |cons n ns=>
    show(if Z2 ar (n::ns)=true then some code else ZG ar (YG r))=_;rw[ok,D]
theorem Ov{w:Nat->Nat}{wide:Bool}{d:Nat}:∀{rs:List Z3},(∀r∈rs,∀c∈r.1,c.nf)->Pb w wide d rs=(ZG (WH w wide) rs).getD d
 |[],_=>rfl
 |(cs,code)::r,h=>by
  have C:=Ov (w:=w) (wide:=wide) (d:=d) (rs:=r) (λx hx=>h x (by simp[hx]));have e:GF w wide cs=Z2 (WH w wide) cs:=by
   unfold GF Z2;rw[ajd,ajg,ajg];have hc:=h (cs,code) jS;constructor;·intro g c hm;rw[zr (hc c hm).2.1];exact g c hm
   ·intro g c hm;rw[<-zr (hc c hm).2.1];exact g c hm
  show(if GF w wide cs=true then code else Pb w wide d r)=(if Z2 (WH w wide) cs=true then some code else ZG (WH w wide) r).getD d;rw[e,C];split<;>rfl
end Go.Proofs.YtclgigmgbebhgaaGreatDoor
namespace Go.Proofs.YtclgigmgbebhgaaGreatDoor
open Tryz
open Go Go.Proofs Go.RowKit
def YT(N:Nat)(W:World)(v:Value)(cs:List Z5):Prop:=
 ∃ua uc,v=.slice ua cs.length uc/\∀(k:Nat) (c:Z5),cs[k]? =some c->∃gu off,ua=some ⟨gu,off,none⟩/\gu<N/\W.cell? ⟨gu,off+k*4,none⟩=some (.int .i64 c.a)/\W.cell? ⟨gu,off+k*4+1,none⟩=some (.int .i64 c.o)/\W.cell? ⟨gu,off+k*4+2,none⟩=some (.int .u64 c.m)/\W.cell? ⟨gu,off+k*4+3,none⟩=some (.int .u64 c.v)
def Um(N:Nat)(W:World)(v:Value)(rs:List Z3):Prop:=
 ∃a c,v=.slice a rs.length c/\∀(i:Nat) (r:Z3),rs[i]? =some r->∃g off u,a=some ⟨g,off,none⟩/\g<N/\W.cell? ⟨g,off+i*2,none⟩=some u/\W.cell? ⟨g,off+i*2+1,none⟩=some (.int .u32 r.2)/\YT N W u r.1
def WA(N:Nat)(W:World)(v:Value)(es:List (Nat×List Z3)):Prop:=
 ∃a c,v=.slice a es.length c/\∀(i:Nat) (e:Nat×List Z3),es[i]? =some e->∃g off u,a=some ⟨g,off,none⟩/\g<N/\W.cell? ⟨g,off+i*2,none⟩=some (.int .u32 e.1)/\W.cell? ⟨g,off+i*2+1,none⟩=some u/\Um N W u e.2
def Vy(N:Nat)(W:World)(v:Value)(l:List (Nat×Nat)):Prop:=
 ∃a c,v=.slice a l.length c/\∀(i:Nat) (e:Nat×Nat),l[i]? =some e->∃g off,a=some ⟨g,off,none⟩/\g<N/\W.cell? ⟨g,off+i*2,none⟩=some (.int .u32 e.1)/\W.cell? ⟨g,off+i*2+1,none⟩=some (.int .u32 e.2)
section
variable {N K:Nat} {W W':World} (hb:Below K W W') (hN:N<=K)
include hb hN
theorem ZY{g j:Nat}{v:Value}(C:g<N)(h:W.cell? ⟨g,j,none⟩=some v):W'.cell? ⟨g,j,none⟩=some v:=(hb.cell (p:=⟨g,j,none⟩) (adg C hN)).trans h
theorem YT.below{v:Value}{cs:List Z5}(h:YT N W v cs):YT N W' v cs:=by
 obtain⟨ua,uc,e,h⟩:=h;refine⟨ua,uc,e,λk c hk=> ?_⟩;obtain⟨I,off,e,hl,T,J,D,C⟩:=h k c hk;exact⟨I,off,e,hl,ZY hb hN hl T,ZY hb hN hl J,ZY hb hN hl D,ZY hb hN hl C⟩
theorem Um.below{v:Value}{rs:List Z3}(h:Um N W v rs):Um N W' v rs:=by
 obtain⟨ua,uc,e,h⟩:=h;refine⟨ua,uc,e,λk c hk=> ?_⟩;obtain⟨D,off,u,e,hl,J,I,C⟩:=h k c hk;exact⟨D,off,u,e,hl,ZY hb hN hl J,ZY hb hN hl I,C.below hb hN⟩
theorem WA.below{v:Value}{rs:List (Nat×List Z3)}(h:WA N W v rs):WA N W' v rs:=by
 obtain⟨ua,uc,e,h⟩:=h;refine⟨ua,uc,e,λk c hk=> ?_⟩;obtain⟨D,off,u,e,hl,J,I,C⟩:=h k c hk;exact⟨D,off,u,e,hl,ZY hb hN hl J,ZY hb hN hl I,C.below hb hN⟩
theorem Vy.below{v:Value}{rs:List (Nat×Nat)}(h:Vy N W v rs):Vy N W' v rs:=by
 obtain⟨ua,uc,e,h⟩:=h;refine⟨ua,uc,e,λk c hk=> ?_⟩;obtain⟨C,off,e,hl,I,D⟩:=h k c hk;exact⟨C,off,e,hl,ZY hb hN hl I,ZY hb hN hl D⟩
end
end Go.Proofs.YtclgigmgbebhgaaGreatDoor
