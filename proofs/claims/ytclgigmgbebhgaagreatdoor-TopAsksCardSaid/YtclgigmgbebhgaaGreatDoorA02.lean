/- TopAsks: part 2: TopCond TopResP TopMem. -/
import Derived.Test.YtclgigmgbebhgaaGreatDoorA01
set_option linter.unusedVariables false
set_option linter.unusedSimpArgs false
set_option maxRecDepth 100000
set_option maxHeartbeats 16000000
namespace Go.Proofs.YtclgigmgbebhgaaGreatDoor
open Tryz
open Go Go.Proofs Go.RowKit Go.Maps Go.WideMaps Go.ChangeMaps
variable {LO M Bm:Nat} {w w':World}
theorem Ph(n:Nat)(hn:n<18446744073709551616)(w:World):Calls prog 20 #[.int .u64 n] w λe w'=>e=.returned (.tuple #[.int .u32 (lo n:Int),.int .u32 (hi n:Int)])/\w'=w:=by
 have C:IntKind.u32.wrap (n:Int)=((lo n:Nat):Int):=by rw[axc];unfold lo;omega
 have A:IntKind.u32.wrap ((n:Int)/4294967296)=((hi n:Nat):Int):=by rw[axc];unfold hi;omega
 go_enter func20,ntmps20;go_wp2_with fail;go_ret2;exact⟨rfl,rfl⟩
theorem tQ(a:Nat)(ha:a<=5)(b:Bool)(w:World):Calls prog 314 #[.int .i64 a,.bool b] w λe w'=>e=.returned (.tuple #[.int .i64 (if b then(Zd a:Int) else(YA a:Int)),.int .i64 0])/\w'=w:=by
 have C:IntKind.i64.wrap (8*(a:Int))=8*(a:Int):=aJ _ jO;have A:IntKind.i64.wrap (16+8*(a:Int))=16+8*(a:Int):=aJ _ jO;have D:IntKind.i64.wrap (16+8*(a:Int)+4)=16+8*(a:Int)+4:=aJ _ jO;have c1:¬((a:Int)<0):=jO;have I:¬((5:Int)<(a:Int)):=jO;have e1:((Zd a:Nat):Int)=16+8*(a:Int)+4:=by unfold Zd;omega
 have e2:((YA a:Nat):Int)=16+8*(a:Int):=by unfold YA;omega
 rw[e1,e2];cases b with
 |true=>
  go_enter func314,ntmps314;go_wp2_with fail;go_ret2;exact⟨rfl,rfl⟩
 |false=>
  go_enter func314,ntmps314;go_wp2_with fail;go_ret2;exact⟨rfl,rfl⟩
theorem zA(a:Nat)(ha:a<=5)(w:World):Calls prog 243 #[.int .i64 a,.bool false] w λe w'=>e=.returned (.tuple #[.int .i64 (YA a:Int),.int .i64 0])/\w'=w:=by
 have A:=aT (tQ a ha false w);go_enter func243,ntmps243;go_wp2_with fail;refine A.out.mono ?_;rintro e w' ⟨rfl,rfl⟩;go_wp2_with fail;go_ret2;exact⟨rfl,rfl⟩
theorem tP(a:Nat)(ha:a<=5)(w:World):Calls prog 308 #[.int .i64 a,.bool false] w λe w'=>e=.returned (.tuple #[.int .i64 (Zd a:Int),.int .i64 0])/\w'=w:=by
 have A:=aT (tQ a ha true w);go_enter func308,ntmps308;go_wp2_with fail;refine A.out.mono ?_;rintro e w' ⟨rfl,rfl⟩;go_wp2_with fail;go_ret2;exact⟨rfl,rfl⟩
def Lh(M f:Nat):Value:=.func (.func f) #[.pointer (some ⟨M,0,none⟩)] #[]
def G4(M:Nat):List (Value×Value):=[(.int .i64 1,Lh M 309),(.int .i64 2,Lh M 310),(.int .i64 3,Lh M 311),(.int .i64 6,Lh M 312),(.int .i64 7,Lh M 313)]
theorem Wi:Keyed prog 3:=int_keyed underlying3
theorem Pg(n:Int)(h: -9223372036854775808<=n/\n<=9223372036854775807):∃l,keyOf prog 3 (.int .i64 n)=some l:=⟨_,keyOf_int_mk underlying3 (by
 show(decide (IntKind.i64.min<=n)&&decide (n<=IntKind.i64.max))=true;rw[show IntKind.i64.min= -9223372036854775808 from jD,show IntKind.i64.max=9223372036854775807 from jD];simp only[aeg,adg];exact h)⟩
theorem Zl.grown{v:Value}{g:G}(h:Zl LO M Bm w v g){B:Nat}(A:w.grownBy w' (some B))(C:w.heap.size<=B):Zl LO M Bm w' v g:=
 ⟨h.blk.kept A (λe=>by have:=h.blk.lt;have:=au e;omega),h.own.kept A (.inr (λe=>by have:=(h.own.lt B e).2;omega)),h.map.kept A (λe=>by have:=h.map.lt;have:=au e;omega),h.lo⟩
theorem Yh.grown {w0:World}(h:Yh LO M Bm w0 w){B:Nat}(C:w.grownBy w' (some B))(J:w0.heap.size<=B)(D:LO<=w.heap.size)(I:LO<=B):Yh LO M Bm w0 w':=
 ⟨h.1.grown C D (λk e=>by have:=au e;omega),aO h.2.1 C.size,λk o hk a b c=>
   have A:=h.2.2 k o hk a b c
   (C.block k (aab.1 A).1 (λe=>by have:=(aab.1 hk).1;have:=au e;omega)).trans A⟩
theorem RT{W:World}{B:Nat}{k:Int}{f:Nat}(h:ZB W B (G4 M))(hm:(.int .i64 k,Lh M f)∈G4 M):(Instr.lookup 394 (.map (some B)) (.int .i64 k) false).run prog W=.ok (.func (.func f) #[.pointer (some ⟨M,0,none⟩)] #[]) W:=
 Xu underlying394 Wi h (RU underlying3 jR) (RU (P:=prog) (t:=3) underlying3 (S:=G4 M) jR _ hm) hm (by simp[G4])
theorem tO {v:Value}{g:G}(c:Z5)(wide:Bool)(yes no:Int)(hc:c.nf)(w:World)(h:Zl LO M Bm w v g)(hl:g.l.length+6<=1000000)(PU:LO<=w.heap.size):
 Calls prog 242 #[.pointer (some ⟨M,0,none⟩),.agg #[.int .i64 c.a,.int .i64 c.o,.int .u64 c.m,.int .u64 c.v],.bool wide,.int .i64 yes,.int .i64 no] w (VN LO M Bm g w (XF c wide yes no)):=by
 obtain⟨a,o,m,D⟩:=c;obtain⟨ha,ho,_,hm,hv⟩:=hc;dsimp only at*;have JO:= @apb prog;have ir:∀(fn:Fn) (first cap:Array Value) (w:World),(Instr.makeFunc fn first cap).run prog w=.ok (.func fn first cap) w:=λ_ _ _ _=>rfl
 have q1:IntKind.u32.wrap ((YA a:Nat):Int)=(YA a:Nat):=awf _ (by unfold YA;omega);have q2:IntKind.u32.wrap ((Zd a:Nat):Int)=(Zd a:Nat):=awf _ (by unfold Zd;omega);have HV:=aT hv;have HM:=aT hm;have HA:=aT ha;have EP:=(Z8.new w 68 #[.int .i64 a,.int .i64 o,.int .u64 m,.int .u64 D]);obtain⟨an6,ad3,an7,an8⟩:=EP.q4;have HH:=aT (h.al (.cells #[.int .i64 a,.int .i64 o,.int .u64 m,.int .u64 D] 68));have HF:=aT (Yh.alloc (LO:=LO) (M:=M) (Bm:=Bm) (a:=w) (.cells #[.int .i64 a,.int .i64 o,.int .u64 m,.int .u64 D] 68) PU);have hs:w.heap.size<=(w.alloc (.cells #[.int .i64 a,.int .i64 o,.int .u64 m,.int .u64 D] 68)).heap.size:=by rw[ai];omega
 have ew:w.heap.size<(w.alloc (.cells #[.int .i64 a,.int .i64 o,.int .u64 m,.int .u64 D] 68)).heap.size:=EP.lt;clear EP h hv hm ha;unfold VN;go_enter func242,ntmps242;go_upto_region 1 with fail;generalize hwx:w.alloc (.cells #[.int .i64 a,.int .i64 o,.int .u64 m,.int .u64 D] 68)=wx at*;clear hwx;generalize w.heap.size=C0 at*;have aB2:¬C0=wx.heap.size:=Nat.ne_of_lt ew;go_wp2_with fail;refine(Ph _ HV.out _).mono ?_;rintro e w' ⟨rfl,rfl⟩;go_wp2_with fail;refine(Ph _ HM.out _).mono ?_;rintro e w' ⟨rfl,rfl⟩;go_wp2_with fail;refine(zA a HA.out _).mono ?_;rintro e w' ⟨rfl,rfl⟩;go_wp2_with fail;refine(tP a HA.out _).mono ?_;rintro e w' ⟨rfl,rfl⟩;go_upto_region 7 with fail;have X1:Hid (Z8 (wx.alloc (.cells (U8 (YA a) (Zd a) (lo D) (hi D) (lo m) (hi m) wide yes no) 391)) wx.heap.size 391 (U8 (YA a) (Zd a) (lo D) (hi D) (lo m) (hi m) wide yes no)):=Z8.new wx _ _;have L8:=aT (HH.out.al (.cells (U8 (YA a) (Zd a) (lo D) (hi D) (lo m) (hi m) wide yes no) 391));have J:=aT (HF.out.trans (Yh.alloc (LO:=LO) (M:=M) (Bm:=Bm) (a:=wx) (.cells (U8 (YA a) (Zd a) (lo D) (hi D) (lo m) (hi m) wide yes no) 391) (aO PU hs)));have Vo:(wx.alloc (.cells (U8 (YA a) (Zd a) (lo D) (hi D) (lo m) (hi m) wide yes no) 391)).cell? ⟨C0,1,none⟩=some (.int .i64 o):=((aG wx.heap.size wx).alloc (aP _) _).cell ew |>.trans ad3;have hs2:wx.heap.size<(wx.alloc (.cells (U8 (YA a) (Zd a) (lo D) (hi D) (lo m) (hi m) wide yes no) 391)).heap.size:=by rw[ai];omega
 unfold U8 at*;generalize hwy:wx.alloc (.cells #[.int .u32 (YA a:Int),.int .u32 (Zd a:Int),.int .u32 (lo D:Int),.int .u32 (hi D:Int),.int .u32 (lo m:Int),.int .u32 (hi m:Int),.bool wide,.int .i64 yes,.int .i64 no] 391)=wy at*;clear hwy an6 ad3 an7 an8 HH HF q1 q2;have HNE:Hid (C0≠wy.heap.size):=by show _≠_;omega
 have Y:Hid (wx.heap.size≠wy.heap.size):=by show _≠_;omega
 rcases ho with rfl|rfl|rfl|rfl|rfl
 ·have A:=aT (NJ.made wy)
  go_wp2_with (refine YV rfl rfl 394 _ _ _ rfl 3 393 Wi underlying394 wy wy.heap.size _ A.out rfl _ _ rfl rfl ?hS ?hk ?hn ?_;(case hk=>exact Pg _ jO);(case hS=>exact RU underlying3 jR);(case hn=>exact Li jR);clear A;(try clear y7);intro w7 C;have y7:=C.grown.cell Vo (λe=>HNE.out (au e));have A:=aT C;clear C)
  have Z:=RT (k:=1) (f:=309) A.out.map (by simp[G4,Lh]);have I:=X1.out.kept A.out.grown (λe=>Y.out (au e));obtain⟨c0,c1,c2,c3,c4,c5,c6,c7,c8⟩:=I.q9;clear I;rw[Z];clear Z;go_wp2_with fail;refine(ER (YA a) (Zd a) (lo D) (hi D) (lo m) (hi m) wide yes no w7 (L8.out.grown A.out.grown (aP _)) jO (by have:=A.out.grown.size;omega)).mono ?_;rintro e w8 ⟨rfl,v8,h8,f8⟩;have U:=aT h8;have T:=aT ((J.out.grown A.out.grown J.out.2.1 jO jO).trans f8);clear h8 f8;go_wp2_with fail;go_end0;exact⟨rfl,v8,U.out,T.out⟩
 ·have A:=aT (NJ.made wy)
  go_wp2_with (refine YV rfl rfl 394 _ _ _ rfl 3 393 Wi underlying394 wy wy.heap.size _ A.out rfl _ _ rfl rfl ?hS ?hk ?hn ?_;(case hk=>exact Pg _ jO);(case hS=>exact RU underlying3 jR);(case hn=>exact Li jR);clear A;(try clear y7);intro w7 C;have y7:=C.grown.cell Vo (λe=>HNE.out (au e));have A:=aT C;clear C)
  have Z:=RT (k:=2) (f:=310) A.out.map (by simp[G4,Lh]);have I:=X1.out.kept A.out.grown (λe=>Y.out (au e));obtain⟨c0,c1,c2,c3,c4,c5,c6,c7,c8⟩:=I.q9;clear I;rw[Z];clear Z;go_wp2_with fail;refine(CE (YA a) (Zd a) (lo D) (hi D) (lo m) (hi m) wide yes no w7 (L8.out.grown A.out.grown (aP _)) jO (by have:=A.out.grown.size;omega)).mono ?_;rintro e w8 ⟨rfl,v8,h8,f8⟩;have U:=aT h8;have T:=aT ((J.out.grown A.out.grown J.out.2.1 jO jO).trans f8);clear h8 f8;go_wp2_with fail;go_end0;exact⟨rfl,v8,U.out,T.out⟩
 ·have A:=aT (NJ.made wy)
  go_wp2_with (refine YV rfl rfl 394 _ _ _ rfl 3 393 Wi underlying394 wy wy.heap.size _ A.out rfl _ _ rfl rfl ?hS ?hk ?hn ?_;(case hk=>exact Pg _ jO);(case hS=>exact RU underlying3 jR);(case hn=>exact Li jR);clear A;(try clear y7);intro w7 C;have y7:=C.grown.cell Vo (λe=>HNE.out (au e));have A:=aT C;clear C)
  have Z:=RT (k:=3) (f:=311) A.out.map (by simp[G4,Lh]);have I:=X1.out.kept A.out.grown (λe=>Y.out (au e));obtain⟨c0,c1,c2,c3,c4,c5,c6,c7,c8⟩:=I.q9;clear I;rw[Z];clear Z;go_wp2_with fail;refine(NK (YA a) (Zd a) (lo D) (hi D) (lo m) (hi m) wide yes no w7 (L8.out.grown A.out.grown (aP _)) jO (by have:=A.out.grown.size;omega)).mono ?_;rintro e w8 ⟨rfl,v8,h8,f8⟩;have U:=aT h8;have T:=aT ((J.out.grown A.out.grown J.out.2.1 jO jO).trans f8);clear h8 f8;go_wp2_with fail;go_end0;exact⟨rfl,v8,U.out,T.out⟩
 ·have A:=aT (NJ.made wy)
  go_wp2_with (refine YV rfl rfl 394 _ _ _ rfl 3 393 Wi underlying394 wy wy.heap.size _ A.out rfl _ _ rfl rfl ?hS ?hk ?hn ?_;(case hk=>exact Pg _ jO);(case hS=>exact RU underlying3 jR);(case hn=>exact Li jR);clear A;(try clear y7);intro w7 C;have y7:=C.grown.cell Vo (λe=>HNE.out (au e));have A:=aT C;clear C)
  have Z:=RT (k:=6) (f:=312) A.out.map (by simp[G4,Lh]);have I:=X1.out.kept A.out.grown (λe=>Y.out (au e));obtain⟨c0,c1,c2,c3,c4,c5,c6,c7,c8⟩:=I.q9;clear I;rw[Z];clear Z;go_wp2_with fail;refine(Ji (YA a) (Zd a) (lo D) (hi D) (lo m) (hi m) wide yes no w7 (L8.out.grown A.out.grown (aP _)) jO (by have:=A.out.grown.size;omega)).mono ?_;rintro e w8 ⟨rfl,v8,h8,f8⟩;have U:=aT h8;have T:=aT ((J.out.grown A.out.grown J.out.2.1 jO jO).trans f8);clear h8 f8;go_wp2_with fail;go_end0;exact⟨rfl,v8,U.out,T.out⟩
 ·have A:=aT (NJ.made wy)
  go_wp2_with (refine YV rfl rfl 394 _ _ _ rfl 3 393 Wi underlying394 wy wy.heap.size _ A.out rfl _ _ rfl rfl ?hS ?hk ?hn ?_;(case hk=>exact Pg _ jO);(case hS=>exact RU underlying3 jR);(case hn=>exact Li jR);clear A;(try clear y7);intro w7 C;have y7:=C.grown.cell Vo (λe=>HNE.out (au e));have A:=aT C;clear C)
  have Z:=RT (k:=7) (f:=313) A.out.map (by simp[G4,Lh]);have I:=X1.out.kept A.out.grown (λe=>Y.out (au e));obtain⟨c0,c1,c2,c3,c4,c5,c6,c7,c8⟩:=I.q9;clear I;rw[Z];clear Z;go_wp2_with fail;refine(CF (YA a) (Zd a) (lo D) (hi D) (lo m) (hi m) wide yes no w7 (L8.out.grown A.out.grown (aP _)) jO (by have:=A.out.grown.size;omega)).mono ?_;rintro e w8 ⟨rfl,v8,h8,f8⟩;have U:=aT h8;have T:=aT ((J.out.grown A.out.grown J.out.2.1 jO jO).trans f8);clear h8 f8;go_wp2_with fail;go_end0;exact⟨rfl,v8,U.out,T.out⟩
end Go.Proofs.YtclgigmgbebhgaaGreatDoor
namespace Go.Proofs.YtclgigmgbebhgaaGreatDoor
open Tryz
open Go Go.Proofs
def Z2(ar:Nat->Nat)(cs:List Z5):Bool:=cs.all λc=>JP c.o c.m c.v (ar c.a)
def ZC(ar:Nat->Nat):List Z3->Option Nat
 |[]=>none
 |(cs,code)::r=>if Z2 ar cs=true then some code else ZC ar r
theorem Wh(ar:Nat->Nat):∀(a b:List Z3),ZC ar (a++b)=(ZC ar a).or (ZC ar b)
 |[],b=>rfl
 |(cs,code)::r,b=>by rw[ahb];show(if Z2 ar cs=true then some code else ZC ar (r++b))=(if Z2 ar cs=true then some code else ZC ar r).or _;rw[Wh ar r b];split<;>rfl
theorem Vn(ar:Nat->Nat)(cs:List Z5)(code:Nat):ZC ar [(cs,code)]=if Z2 ar cs=true then some code else none:=rfl
theorem M4{ar:Nat->Nat}:∀{l:List Z3} {r:Z3},r∈l->Z2 ar r.1=true->ZC ar l≠none
 |(cs,code)::l,r,h,hh=>by
  show(if Z2 ar cs=true then some code else ZC ar l)≠none;rcases abf.1 h with rfl|h
  ·rw[aH hh];simp
  ·split;·simp
   ·exact M4 h hh
theorem G3(ar:Nat->Nat):Z2 ar []=true:=rfl
theorem G1{ar:Nat->Nat}{a b:List Z5}(h:∀c,c∈a↔c∈b):Z2 ar a=Z2 ar b:=by
 unfold Z2;rw[ale,aje,aje];exact⟨λg c hc=>g c ((h c).2 hc),λg c hc=>g c ((h c).1 hc)⟩
def ZP(f:Z5->Yv):List Z5->Option (List Z5)
 |[]=>some []
 |c::cs=>match f c with
  | .never=>none
  | .always=>ZP f cs
  | .asks n=>(ZP f cs).map (n::·)
theorem NH{f:Z5->Yv}{ar:Nat->Nat}:∀{cs:List Z5},(∀c∈cs,(f c).holds (ar c.a)=JP c.o c.m c.v (ar c.a))->(∀c∈cs,∀n,f c=.asks n->n.a=c.a)->
 match ZP f cs with|none=>Z2 ar cs=false|some ns=>Z2 ar ns=Z2 ar cs
 |[],_,_=>rfl
 |c::cs,h,ha=>by
  have A:=NH (cs:=cs) (λd hd=>h d (by simp[hd])) (λd hd=>ha d (by simp[hd]));have hc:=h c jS;have C:=ha c jS;have e:Z2 ar (c::cs)=(JP c.o c.m c.v (ar c.a)&&Z2 ar cs):=by unfold Z2;rw[List.all_cons]
  unfold ZP;cases hf:f c with
  |never=>
   rw[hf] at hc;show Z2 ar (c::cs)=false;rw[e,<-hc];rfl
  |always=>
   rw[hf] at hc;dsimp only;cases hr:ZP f cs with
   |none=>
    rw[hr] at A;show Z2 ar (c::cs)=false;rw[e,A,Bool.and_false]
   |some ns=>
    rw[hr] at A;show Z2 ar ns=Z2 ar (c::cs);rw[e,<-hc];show _=(true&&_);rw[Bool.true_and];exact A
  |asks n=>
   rw[hf] at hc;dsimp only;have D:=C n hf;cases hr:ZP f cs with
   |none=>
    rw[hr] at A;show Z2 ar (c::cs)=false;rw[e,A,Bool.and_false]
   |some ns=>
    rw[hr] at A;show Z2 ar (n::ns)=Z2 ar (c::cs);have e2:Z2 ar (n::ns)=(JP n.o n.m n.v (ar n.a)&&Z2 ar ns):=by unfold Z2;rw[List.all_cons]
    rw[e,e2,A,D,<-hc];rfl
def Uc(cs:List Z5):Option (List Z5)->Prop
 |none=>ZP Xo cs=none
 |some ns=>∃l,ZP Xo cs=some l/\∀c,c∈ns↔c∈l
theorem Lg{ar:Nat->Nat}(A:∀a,ar a<YO){cs:List Z5}(hr:∀c∈cs,c.right){o:Option (List Z5)}(h:Uc cs o):match o with|none=>Z2 ar cs=false|some ns=>Z2 ar ns=Z2 ar cs:=by
 have ok:=NH (f:=Xo) (ar:=ar) (cs:=cs) (λc hc=>(G6 (hr c hc)).2 _ (A _)) (λc hc n hn=>by have:=(G6 (hr c hc)).1;rw[hn] at this;exact this.2)
 cases o with
 |none=>
  rw[show ZP Xo cs=none from h] at ok;exact ok
 |some ns=>
  obtain⟨l,D,C⟩:=h;rw[D] at ok;show Z2 ar ns=_;rw[G1 C];exact ok
def G0(g:List Z3)(ns:List Z5):Prop:=∃x∈g,x.1=[]\/x.1=ns
inductive Ub:List Z3->List Z3->Prop
 |nil:Ub [] []
 |gone {rs g cs code}:Ub rs g->Uc cs none->Ub (rs++[(cs,code)]) g
 |hid {rs g cs code ns}:Ub rs g->Uc cs (some ns)->G0 g ns->Ub (rs++[(cs,code)]) g
 |more {rs g cs code ns}:Ub rs g->Uc cs (some ns)->¬G0 g ns->Ub (rs++[(cs,code)]) (g++[(ns,code)])
theorem tN{ar:Nat->Nat}(C:∀a,ar a<YO){rs g:List Z3}(h:Ub rs g):(∀r∈rs,∀c∈r.1,c.right)->ZC ar g=ZC ar rs:=by
 induction h with
 |nil=>intro _;rfl
 | @gone rs g cs code _ hn A=>
   intro hr;have A:=A (λr hm=>hr r (by simp[hm]));have hf:=Lg C (hr (cs,code) jS) hn;have hf:Z2 ar cs=false:=hf;rw[Wh,<-A,Vn,hf,aN jD];cases ZC ar g<;>rfl
 | @hid rs g cs code ns _ hn I A=>
   intro hr;have A:=A (λr hm=>hr r (by simp[hm]));have hf:Z2 ar ns=Z2 ar cs:=Lg C (hr (cs,code) jS) hn;rw[Wh,<-A,Vn];obtain⟨x,hx,T⟩:=I;by_cases hc:Z2 ar cs=true
   ·have D:ZC ar g≠none:=M4 hx (by
     rcases T with e|e;·rw[e];rfl
     ·rw[e,hf];exact hc)
    cases J:ZC ar g with
    |none=>exact absurd J D
    |some v=>rfl
   ·rw[aN hc];cases ZC ar g<;>rfl
 | @more rs g cs code ns _ hn I A=>
   intro hr;have A:=A (λr hm=>hr r (by simp[hm]));have hf:Z2 ar ns=Z2 ar cs:=Lg C (hr (cs,code) jS) hn;rw[Wh,Wh,A,Vn,Vn,hf]
inductive WL (d:Nat):List Z3->List Z3->Prop
 |same (l):WL d l l
 |one {l l' cs}:WL d l l'->WL d (l++[(cs,d)]) l'
theorem Jh{d:Nat}{ar:Nat->Nat}{l l':List Z3}(h:WL d l l'):(ZC ar l').getD d=(ZC ar l).getD d:=by
 induction h with
 |same l=>rfl
 | @one l l' cs _ A=>
   rw[A,Wh,Vn];cases ZC ar l with
   |some v=>rfl
   |none=>split<;>rfl
def YJ:List Z3->List Z3
 |[]=>[]
 |(cs,code)::r=>match ZP Zk cs with
  |none=>YJ r
  |some []=>[([],code)]
  |some ns=>(ns,code)::YJ r
def UX:List Z3->List Z3
 |[]=>[]
 |(cs,code)::r=>if cs=[] then [(cs,code)] else(cs,code)::UX r
theorem EN(ar:Nat->Nat):∀l:List Z3,ZC ar (UX l)=ZC ar l
 |[]=>rfl
 |(cs,code)::r=>by
  unfold UX;split;·rename_i h;subst h;rfl
  ·show(if Z2 ar cs=true then some code else ZC ar (UX r))=(if Z2 ar cs=true then some code else ZC ar r);rw[EN ar r]
theorem Lf{ar:Nat->Nat}(A:∀a,ar a<Vb):∀l:List Z3,(∀r∈l,∀c∈r.1,c.nf/\c.kept)->ZC ar (YJ l)=ZC ar l
 |[],_=>rfl
 |(cs,code)::r,h=>by
  have C:=Lf A r (λx hx=>h x (by simp[hx]));have hc:=h (cs,code) jS;have ok:=NH (f:=Zk) (ar:=ar) (cs:=cs) (λc hm=>(NI (hc c hm).1 (hc c hm).2).1 _ (A _)) (λc hm n hn=>by have:=(NI (hc c hm).1 (hc c hm).2).2;rw[hn] at this;exact this.2.1)
  show ZC ar (YJ ((cs,code)::r))=(if Z2 ar cs=true then some code else ZC ar r);unfold YJ;cases ha:ZP Zk cs with
  |none=>
   rw[ha] at ok;have ok:Z2 ar cs=false:=ok;rw[ok,aN jD];exact C
  |some ns=>
   rw[ha] at ok;have ok:Z2 ar ns=Z2 ar cs:=ok;cases ns with
   |nil=>
    rw[<-ok,G3,aH rfl];rfl
   |cons n ns=>
    show(if Z2 ar (n::ns)=true then some code else ZC ar (YJ r))=_;rw[ok,C]
theorem OP{w:Nat->Nat}{wide:Bool}{d:Nat}:∀{rs:List Z3},(∀r∈rs,∀c∈r.1,c.nf)->Pq w wide d rs=(ZC (VX w wide) rs).getD d
 |[],_=>rfl
 |(cs,code)::r,h=>by
  have A:=OP (w:=w) (wide:=wide) (d:=d) (rs:=r) (λx hx=>h x (by simp[hx]));have e:Hd w wide cs=Z2 (VX w wide) cs:=by
   unfold Hd Z2;rw[ale,aje,aje];have hc:=h (cs,code) jS;constructor;·intro g c hm;rw[zD (hc c hm).2.1];exact g c hm
   ·intro g c hm;rw[<-zD (hc c hm).2.1];exact g c hm
  show(if Hd w wide cs=true then code else Pq w wide d r)=(if Z2 (VX w wide) cs=true then some code else ZC (VX w wide) r).getD d;rw[e,A];split<;>rfl
end Go.Proofs.YtclgigmgbebhgaaGreatDoor
namespace Go.Proofs.YtclgigmgbebhgaaGreatDoor
open Tryz
open Go Go.Proofs Go.RowKit
def YX(N:Nat)(W:World)(v:Value)(cs:List Z5):Prop:=
 ∃ua uc,v=.slice ua cs.length uc/\∀(k:Nat) (c:Z5),cs[k]? =some c->∃gu off,ua=some ⟨gu,off,none⟩/\gu<N/\W.cell? ⟨gu,off+k*4,none⟩=some (.int .i64 c.a)/\W.cell? ⟨gu,off+k*4+1,none⟩=some (.int .i64 c.o)/\W.cell? ⟨gu,off+k*4+2,none⟩=some (.int .u64 c.m)/\W.cell? ⟨gu,off+k*4+3,none⟩=some (.int .u64 c.v)
def UC(N:Nat)(W:World)(v:Value)(rs:List Z3):Prop:=
 ∃a c,v=.slice a rs.length c/\∀(i:Nat) (r:Z3),rs[i]? =some r->∃g off u,a=some ⟨g,off,none⟩/\g<N/\W.cell? ⟨g,off+i*2,none⟩=some u/\W.cell? ⟨g,off+i*2+1,none⟩=some (.int .u32 r.2)/\YX N W u r.1
def WK(N:Nat)(W:World)(v:Value)(es:List (Nat×List Z3)):Prop:=
 ∃a c,v=.slice a es.length c/\∀(i:Nat) (e:Nat×List Z3),es[i]? =some e->∃g off u,a=some ⟨g,off,none⟩/\g<N/\W.cell? ⟨g,off+i*2,none⟩=some (.int .u32 e.1)/\W.cell? ⟨g,off+i*2+1,none⟩=some u/\UC N W u e.2
def VI(N:Nat)(W:World)(v:Value)(l:List (Nat×Nat)):Prop:=
 ∃a c,v=.slice a l.length c/\∀(i:Nat) (e:Nat×Nat),l[i]? =some e->∃g off,a=some ⟨g,off,none⟩/\g<N/\W.cell? ⟨g,off+i*2,none⟩=some (.int .u32 e.1)/\W.cell? ⟨g,off+i*2+1,none⟩=some (.int .u32 e.2)
section
variable {N K:Nat} {W W':World} (hb:Below K W W') (hN:N<=K)
include hb hN
theorem ZZ{g j:Nat}{v:Value}(A:g<N)(h:W.cell? ⟨g,j,none⟩=some v):W'.cell? ⟨g,j,none⟩=some v:=(hb.cell (p:=⟨g,j,none⟩) (acf A hN)).trans h
theorem YX.below{v:Value}{cs:List Z5}(h:YX N W v cs):YX N W' v cs:=by
 obtain⟨ua,uc,e,h⟩:=h;refine⟨ua,uc,e,λk c hk=> ?_⟩;obtain⟨I,off,e,hl,C,D,A,J⟩:=h k c hk;exact⟨I,off,e,hl,ZZ hb hN hl C,ZZ hb hN hl D,ZZ hb hN hl A,ZZ hb hN hl J⟩
theorem UC.below{v:Value}{rs:List Z3}(h:UC N W v rs):UC N W' v rs:=by
 obtain⟨ua,uc,e,h⟩:=h;refine⟨ua,uc,e,λk c hk=> ?_⟩;obtain⟨I,off,u,e,hl,C,D,A⟩:=h k c hk;exact⟨I,off,u,e,hl,ZZ hb hN hl C,ZZ hb hN hl D,A.below hb hN⟩
theorem WK.below{v:Value}{rs:List (Nat×List Z3)}(h:WK N W v rs):WK N W' v rs:=by
 obtain⟨ua,uc,e,h⟩:=h;refine⟨ua,uc,e,λk c hk=> ?_⟩;obtain⟨I,off,u,e,hl,C,D,A⟩:=h k c hk;exact⟨I,off,u,e,hl,ZZ hb hN hl C,ZZ hb hN hl D,A.below hb hN⟩
theorem VI.below{v:Value}{rs:List (Nat×Nat)}(h:VI N W v rs):VI N W' v rs:=by
 obtain⟨ua,uc,e,h⟩:=h;refine⟨ua,uc,e,λk c hk=> ?_⟩;obtain⟨D,off,e,hl,A,C⟩:=h k c hk;exact⟨D,off,e,hl,ZZ hb hN hl A,ZZ hb hN hl C⟩
end
end Go.Proofs.YtclgigmgbebhgaaGreatDoor
