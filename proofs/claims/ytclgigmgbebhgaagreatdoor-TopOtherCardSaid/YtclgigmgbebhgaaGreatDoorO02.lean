/- TopOther: part 2: TopCond TopResP TopMem. -/
import Derived.Test.YtclgigmgbebhgaaGreatDoorO01
set_option linter.unusedVariables false
set_option linter.unusedSimpArgs false
set_option maxRecDepth 100000
set_option maxHeartbeats 16000000
namespace Go.Proofs.YtclgigmgbebhgaaGreatDoor
open Tryz
open Go Go.Proofs Go.RowKit Go.Maps Go.WideMaps Go.ChangeMaps
variable {LO M Bm:Nat} {w w':World}
theorem Pe(n:Nat)(hn:n<18446744073709551616)(w:World):Calls prog 20 #[.int .u64 n] w λe w'=>e=.returned (.tuple #[.int .u32 (lo n:Int),.int .u32 (hi n:Int)])/\w'=w:=by
 have A:IntKind.u32.wrap (n:Int)=((lo n:Nat):Int):=by rw[axe];unfold lo;omega
 have C:IntKind.u32.wrap ((n:Int)/4294967296)=((hi n:Nat):Int):=by rw[axe];unfold hi;omega
 go_enter func20,ntmps20;go_wp2_with fail;go_ret2;exact⟨rfl,rfl⟩
theorem tu(a:Nat)(ha:a<=5)(b:Bool)(w:World):Calls prog 314 #[.int .i64 a,.bool b] w λe w'=>e=.returned (.tuple #[.int .i64 (if b then(Y4 a:Int) else(Yp a:Int)),.int .i64 0])/\w'=w:=by
 have C:IntKind.i64.wrap (8*(a:Int))=8*(a:Int):=aJ _ jO;have A:IntKind.i64.wrap (16+8*(a:Int))=16+8*(a:Int):=aJ _ jO;have D:IntKind.i64.wrap (16+8*(a:Int)+4)=16+8*(a:Int)+4:=aJ _ jO;have c1:¬((a:Int)<0):=jO;have I:¬((5:Int)<(a:Int)):=jO;have e1:((Y4 a:Nat):Int)=16+8*(a:Int)+4:=by unfold Y4;omega
 have e2:((Yp a:Nat):Int)=16+8*(a:Int):=by unfold Yp;omega
 rw[e1,e2];cases b with
 |true=>
  go_enter func314,ntmps314;go_wp2_with fail;go_ret2;exact⟨rfl,rfl⟩
 |false=>
  go_enter func314,ntmps314;go_wp2_with fail;go_ret2;exact⟨rfl,rfl⟩
theorem zn(a:Nat)(ha:a<=5)(w:World):Calls prog 243 #[.int .i64 a,.bool false] w λe w'=>e=.returned (.tuple #[.int .i64 (Yp a:Int),.int .i64 0])/\w'=w:=by
 have A:=aT (tu a ha false w);go_enter func243,ntmps243;go_wp2_with fail;refine A.out.mono ?_;rintro e w' ⟨rfl,rfl⟩;go_wp2_with fail;go_ret2;exact⟨rfl,rfl⟩
theorem tq(a:Nat)(ha:a<=5)(w:World):Calls prog 308 #[.int .i64 a,.bool false] w λe w'=>e=.returned (.tuple #[.int .i64 (Y4 a:Int),.int .i64 0])/\w'=w:=by
 have A:=aT (tu a ha true w);go_enter func308,ntmps308;go_wp2_with fail;refine A.out.mono ?_;rintro e w' ⟨rfl,rfl⟩;go_wp2_with fail;go_ret2;exact⟨rfl,rfl⟩
def KY(M f:Nat):Value:=.func (.func f) #[.pointer (some ⟨M,0,none⟩)] #[]
def Gy(M:Nat):List (Value×Value):=[(.int .i64 1,KY M 309),(.int .i64 2,KY M 310),(.int .i64 3,KY M 311),(.int .i64 6,KY M 312),(.int .i64 7,KY M 313)]
theorem Wh:Keyed prog 3:=int_keyed underlying3
theorem Pd(n:Int)(h: -9223372036854775808<=n/\n<=9223372036854775807):∃l,keyOf prog 3 (.int .i64 n)=some l:=⟨_,keyOf_int_mk underlying3 (by
 show(decide (IntKind.i64.min<=n)&&decide (n<=IntKind.i64.max))=true;rw[show IntKind.i64.min= -9223372036854775808 from jD,show IntKind.i64.max=9223372036854775807 from jD];simp only[agc,aed];exact h)⟩
theorem Zl.grown{v:Value}{g:G}(h:Zl LO M Bm w v g){B:Nat}(A:w.grownBy w' (some B))(C:w.heap.size<=B):Zl LO M Bm w' v g:=
 ⟨h.blk.kept A (λe=>by have:=h.blk.lt;have:=ax e;omega),h.own.kept A (.inr (λe=>by have:=(h.own.lt B e).2;omega)),h.map.kept A (λe=>by have:=h.map.lt;have:=ax e;omega),h.lo⟩
theorem Yh.grown {w0:World}(h:Yh LO M Bm w0 w){B:Nat}(C:w.grownBy w' (some B))(J:w0.heap.size<=B)(D:LO<=w.heap.size)(I:LO<=B):Yh LO M Bm w0 w':=
 ⟨h.1.grown C D (λk e=>by have:=ax e;omega),aO h.2.1 C.size,λk o hk a b c=>
   have A:=h.2.2 k o hk a b c
   (C.block k (aaa.1 A).1 (λe=>by have:=(aaa.1 hk).1;have:=ax e;omega)).trans A⟩
theorem RU{W:World}{B:Nat}{k:Int}{f:Nat}(h:ZB W B (Gy M))(hm:(.int .i64 k,KY M f)∈Gy M):(Instr.lookup 394 (.map (some B)) (.int .i64 k) false).run prog W=.ok (.func (.func f) #[.pointer (some ⟨M,0,none⟩)] #[]) W:=
 Xu underlying394 Wh h (RV underlying3 jR) (RV (P:=prog) (t:=3) underlying3 (S:=Gy M) jR _ hm) hm (by simp[Gy])
theorem tj {v:Value}{g:G}(c:Z5)(wide:Bool)(yes no:Int)(hc:c.nf)(w:World)(h:Zl LO M Bm w v g)(hl:g.l.length+6<=1000000)(RX:LO<=w.heap.size):
 Calls prog 242 #[.pointer (some ⟨M,0,none⟩),.agg #[.int .i64 c.a,.int .i64 c.o,.int .u64 c.m,.int .u64 c.v],.bool wide,.int .i64 yes,.int .i64 no] w (VN LO M Bm g w (XF c wide yes no)):=by
 obtain⟨a,o,m,D⟩:=c;obtain⟨ha,ho,_,hm,hv⟩:=hc;dsimp only at*;have Jw:= @apc prog;have gF:∀(fn:Fn) (first cap:Array Value) (w:World),(Instr.makeFunc fn first cap).run prog w=.ok (.func fn first cap) w:=λ_ _ _ _=>rfl
 have q1:IntKind.u32.wrap ((Yp a:Nat):Int)=(Yp a:Nat):=axa _ (by unfold Yp;omega);have q2:IntKind.u32.wrap ((Y4 a:Nat):Int)=(Y4 a:Nat):=axa _ (by unfold Y4;omega);have HV:=aT hv;have HM:=aT hm;have HA:=aT ha;have Ck:=(Z7.new w 68 #[.int .i64 a,.int .i64 o,.int .u64 m,.int .u64 D]);obtain⟨ar6,af7,ar7,ar8⟩:=Ck.q4;have HH:=aT (h.al (.cells #[.int .i64 a,.int .i64 o,.int .u64 m,.int .u64 D] 68));have HF:=aT (Yh.alloc (LO:=LO) (M:=M) (Bm:=Bm) (a:=w) (.cells #[.int .i64 a,.int .i64 o,.int .u64 m,.int .u64 D] 68) RX);have hs:w.heap.size<=(w.alloc (.cells #[.int .i64 a,.int .i64 o,.int .u64 m,.int .u64 D] 68)).heap.size:=by rw[ah];omega
 have dy:w.heap.size<(w.alloc (.cells #[.int .i64 a,.int .i64 o,.int .u64 m,.int .u64 D] 68)).heap.size:=Ck.lt;clear Ck h hv hm ha;unfold VN;go_enter func242,ntmps242;go_upto_region 1 with fail;generalize hwx:w.alloc (.cells #[.int .i64 a,.int .i64 o,.int .u64 m,.int .u64 D] 68)=wx at*;clear hwx;generalize w.heap.size=C0 at*;have aF8:¬C0=wx.heap.size:=Nat.ne_of_lt dy;go_wp2_with fail;refine(Pe _ HV.out _).mono ?_;rintro e w' ⟨rfl,rfl⟩;go_wp2_with fail;refine(Pe _ HM.out _).mono ?_;rintro e w' ⟨rfl,rfl⟩;go_wp2_with fail;refine(zn a HA.out _).mono ?_;rintro e w' ⟨rfl,rfl⟩;go_wp2_with fail;refine(tq a HA.out _).mono ?_;rintro e w' ⟨rfl,rfl⟩;go_upto_region 7 with fail;have XA:Hid (Z7 (wx.alloc (.cells (U4 (Yp a) (Y4 a) (lo D) (hi D) (lo m) (hi m) wide yes no) 391)) wx.heap.size 391 (U4 (Yp a) (Y4 a) (lo D) (hi D) (lo m) (hi m) wide yes no)):=Z7.new wx _ _;have LR:=aT (HH.out.al (.cells (U4 (Yp a) (Y4 a) (lo D) (hi D) (lo m) (hi m) wide yes no) 391));have J:=aT (HF.out.trans (Yh.alloc (LO:=LO) (M:=M) (Bm:=Bm) (a:=wx) (.cells (U4 (Yp a) (Y4 a) (lo D) (hi D) (lo m) (hi m) wide yes no) 391) (aO RX hs)));have Vo:(wx.alloc (.cells (U4 (Yp a) (Y4 a) (lo D) (hi D) (lo m) (hi m) wide yes no) 391)).cell? ⟨C0,1,none⟩=some (.int .i64 o):=((aH wx.heap.size wx).alloc (aR _) _).cell dy |>.trans af7;have hs2:wx.heap.size<(wx.alloc (.cells (U4 (Yp a) (Y4 a) (lo D) (hi D) (lo m) (hi m) wide yes no) 391)).heap.size:=by rw[ah];omega
 unfold U4 at*;generalize hwy:wx.alloc (.cells #[.int .u32 (Yp a:Int),.int .u32 (Y4 a:Int),.int .u32 (lo D:Int),.int .u32 (hi D:Int),.int .u32 (lo m:Int),.int .u32 (hi m:Int),.bool wide,.int .i64 yes,.int .i64 no] 391)=wy at*;clear hwy ar6 af7 ar7 ar8 HH HF q1 q2;have HNE:Hid (C0≠wy.heap.size):=by show _≠_;omega
 have Y:Hid (wx.heap.size≠wy.heap.size):=by show _≠_;omega
 rcases ho with rfl|rfl|rfl|rfl|rfl
 ·have A:=aT (Nz.made wy)
  go_wp2_with (refine YU rfl rfl 394 _ _ _ rfl 3 393 Wh underlying394 wy wy.heap.size _ A.out rfl _ _ rfl rfl ?hS ?hk ?hn ?_;(case hk=>exact Pd _ jO);(case hS=>exact RV underlying3 jR);(case hn=>exact KZ jR);clear A;(try clear y7);intro w7 C;have y7:=C.grown.cell Vo (λe=>HNE.out (ax e));have A:=aT C;clear C)
  have lk:=RU (k:=1) (f:=309) A.out.map (by simp[Gy,KY]);have I:=XA.out.kept A.out.grown (λe=>Y.out (ax e));obtain⟨c0,c1,c2,c3,c4,c5,c6,c7,c8⟩:=I.q9;clear I;rw[lk];clear lk;go_wp2_with fail;refine(Et (Yp a) (Y4 a) (lo D) (hi D) (lo m) (hi m) wide yes no w7 (LR.out.grown A.out.grown (aR _)) jO (by have:=A.out.grown.size;omega)).mono ?_;rintro e w8 ⟨rfl,v8,h8,Z⟩;have U:=aT h8;have T:=aT ((J.out.grown A.out.grown J.out.2.1 jO jO).trans Z);clear h8 Z;go_wp2_with fail;go_end0;exact⟨rfl,v8,U.out,T.out⟩
 ·have A:=aT (Nz.made wy)
  go_wp2_with (refine YU rfl rfl 394 _ _ _ rfl 3 393 Wh underlying394 wy wy.heap.size _ A.out rfl _ _ rfl rfl ?hS ?hk ?hn ?_;(case hk=>exact Pd _ jO);(case hS=>exact RV underlying3 jR);(case hn=>exact KZ jR);clear A;(try clear y7);intro w7 C;have y7:=C.grown.cell Vo (λe=>HNE.out (ax e));have A:=aT C;clear C)
  have lk:=RU (k:=2) (f:=310) A.out.map (by simp[Gy,KY]);have I:=XA.out.kept A.out.grown (λe=>Y.out (ax e));obtain⟨c0,c1,c2,c3,c4,c5,c6,c7,c8⟩:=I.q9;clear I;rw[lk];clear lk;go_wp2_with fail;refine(BU (Yp a) (Y4 a) (lo D) (hi D) (lo m) (hi m) wide yes no w7 (LR.out.grown A.out.grown (aR _)) jO (by have:=A.out.grown.size;omega)).mono ?_;rintro e w8 ⟨rfl,v8,h8,Z⟩;have U:=aT h8;have T:=aT ((J.out.grown A.out.grown J.out.2.1 jO jO).trans Z);clear h8 Z;go_wp2_with fail;go_end0;exact⟨rfl,v8,U.out,T.out⟩
 ·have A:=aT (Nz.made wy)
  go_wp2_with (refine YU rfl rfl 394 _ _ _ rfl 3 393 Wh underlying394 wy wy.heap.size _ A.out rfl _ _ rfl rfl ?hS ?hk ?hn ?_;(case hk=>exact Pd _ jO);(case hS=>exact RV underlying3 jR);(case hn=>exact KZ jR);clear A;(try clear y7);intro w7 C;have y7:=C.grown.cell Vo (λe=>HNE.out (ax e));have A:=aT C;clear C)
  have lk:=RU (k:=3) (f:=311) A.out.map (by simp[Gy,KY]);have I:=XA.out.kept A.out.grown (λe=>Y.out (ax e));obtain⟨c0,c1,c2,c3,c4,c5,c6,c7,c8⟩:=I.q9;clear I;rw[lk];clear lk;go_wp2_with fail;refine(NA (Yp a) (Y4 a) (lo D) (hi D) (lo m) (hi m) wide yes no w7 (LR.out.grown A.out.grown (aR _)) jO (by have:=A.out.grown.size;omega)).mono ?_;rintro e w8 ⟨rfl,v8,h8,Z⟩;have U:=aT h8;have T:=aT ((J.out.grown A.out.grown J.out.2.1 jO jO).trans Z);clear h8 Z;go_wp2_with fail;go_end0;exact⟨rfl,v8,U.out,T.out⟩
 ·have A:=aT (Nz.made wy)
  go_wp2_with (refine YU rfl rfl 394 _ _ _ rfl 3 393 Wh underlying394 wy wy.heap.size _ A.out rfl _ _ rfl rfl ?hS ?hk ?hn ?_;(case hk=>exact Pd _ jO);(case hS=>exact RV underlying3 jR);(case hn=>exact KZ jR);clear A;(try clear y7);intro w7 C;have y7:=C.grown.cell Vo (λe=>HNE.out (ax e));have A:=aT C;clear C)
  have lk:=RU (k:=6) (f:=312) A.out.map (by simp[Gy,KY]);have I:=XA.out.kept A.out.grown (λe=>Y.out (ax e));obtain⟨c0,c1,c2,c3,c4,c5,c6,c7,c8⟩:=I.q9;clear I;rw[lk];clear lk;go_wp2_with fail;refine(IW (Yp a) (Y4 a) (lo D) (hi D) (lo m) (hi m) wide yes no w7 (LR.out.grown A.out.grown (aR _)) jO (by have:=A.out.grown.size;omega)).mono ?_;rintro e w8 ⟨rfl,v8,h8,Z⟩;have U:=aT h8;have T:=aT ((J.out.grown A.out.grown J.out.2.1 jO jO).trans Z);clear h8 Z;go_wp2_with fail;go_end0;exact⟨rfl,v8,U.out,T.out⟩
 ·have A:=aT (Nz.made wy)
  go_wp2_with (refine YU rfl rfl 394 _ _ _ rfl 3 393 Wh underlying394 wy wy.heap.size _ A.out rfl _ _ rfl rfl ?hS ?hk ?hn ?_;(case hk=>exact Pd _ jO);(case hS=>exact RV underlying3 jR);(case hn=>exact KZ jR);clear A;(try clear y7);intro w7 C;have y7:=C.grown.cell Vo (λe=>HNE.out (ax e));have A:=aT C;clear C)
  have lk:=RU (k:=7) (f:=313) A.out.map (by simp[Gy,KY]);have I:=XA.out.kept A.out.grown (λe=>Y.out (ax e));obtain⟨c0,c1,c2,c3,c4,c5,c6,c7,c8⟩:=I.q9;clear I;rw[lk];clear lk;go_wp2_with fail;refine(BW (Yp a) (Y4 a) (lo D) (hi D) (lo m) (hi m) wide yes no w7 (LR.out.grown A.out.grown (aR _)) jO (by have:=A.out.grown.size;omega)).mono ?_;rintro e w8 ⟨rfl,v8,h8,Z⟩;have U:=aT h8;have T:=aT ((J.out.grown A.out.grown J.out.2.1 jO jO).trans Z);clear h8 Z;go_wp2_with fail;go_end0;exact⟨rfl,v8,U.out,T.out⟩
end Go.Proofs.YtclgigmgbebhgaaGreatDoor
namespace Go.Proofs.YtclgigmgbebhgaaGreatDoor
open Tryz
open Go Go.Proofs
def ZW(ar:Nat->Nat)(cs:List Z5):Bool:=cs.all λc=>xw c.o c.m c.v (ar c.a)
def Zy(ar:Nat->Nat):List Z3->Option Nat
 |[]=>none
 |(cs,code)::r=>if ZW ar cs=true then some code else Zy ar r
theorem We(ar:Nat->Nat):∀(a b:List Z3),Zy ar (a++b)=(Zy ar a).or (Zy ar b)
 |[],b=>rfl
 |(cs,code)::r,b=>by rw[ahc];show(if ZW ar cs=true then some code else Zy ar (r++b))=(if ZW ar cs=true then some code else Zy ar r).or _;rw[We ar r b];split<;>rfl
theorem Vn(ar:Nat->Nat)(cs:List Z5)(code:Nat):Zy ar [(cs,code)]=if ZW ar cs=true then some code else none:=rfl
theorem MP{ar:Nat->Nat}:∀{l:List Z3} {r:Z3},r∈l->ZW ar r.1=true->Zy ar l≠none
 |(cs,code)::l,r,h,hh=>by
  show(if ZW ar cs=true then some code else Zy ar l)≠none;rcases abf.1 h with rfl|h
  ·rw[aG hh];simp
  ·split;·simp
   ·exact MP h hh
theorem Gx(ar:Nat->Nat):ZW ar []=true:=rfl
theorem Gw{ar:Nat->Nat}{a b:List Z5}(h:∀c,c∈a↔c∈b):ZW ar a=ZW ar b:=by
 unfold ZW;rw[aoc,apa,apa];exact⟨λg c hc=>g c ((h c).2 hc),λg c hc=>g c ((h c).1 hc)⟩
def ZO(f:Z5->Yx):List Z5->Option (List Z5)
 |[]=>some []
 |c::cs=>match f c with
  | .never=>none
  | .always=>ZO f cs
  | .asks n=>(ZO f cs).map (n::·)
theorem Nx{f:Z5->Yx}{ar:Nat->Nat}:∀{cs:List Z5},(∀c∈cs,(f c).holds (ar c.a)=xw c.o c.m c.v (ar c.a))->(∀c∈cs,∀n,f c=.asks n->n.a=c.a)->
 match ZO f cs with|none=>ZW ar cs=false|some ns=>ZW ar ns=ZW ar cs
 |[],_,_=>rfl
 |c::cs,h,ha=>by
  have A:=Nx (cs:=cs) (λd hd=>h d (by simp[hd])) (λd hd=>ha d (by simp[hd]));have hc:=h c jS;have C:=ha c jS;have e:ZW ar (c::cs)=(xw c.o c.m c.v (ar c.a)&&ZW ar cs):=by unfold ZW;rw[List.all_cons]
  unfold ZO;cases hf:f c with
  |never=>
   rw[hf] at hc;show ZW ar (c::cs)=false;rw[e,<-hc];rfl
  |always=>
   rw[hf] at hc;dsimp only;cases hr:ZO f cs with
   |none=>
    rw[hr] at A;show ZW ar (c::cs)=false;rw[e,A,Bool.and_false]
   |some ns=>
    rw[hr] at A;show ZW ar ns=ZW ar (c::cs);rw[e,<-hc];show _=(true&&_);rw[Bool.true_and];exact A
  |asks n=>
   rw[hf] at hc;dsimp only;have D:=C n hf;cases hr:ZO f cs with
   |none=>
    rw[hr] at A;show ZW ar (c::cs)=false;rw[e,A,Bool.and_false]
   |some ns=>
    rw[hr] at A;show ZW ar (n::ns)=ZW ar (c::cs);have e2:ZW ar (n::ns)=(xw n.o n.m n.v (ar n.a)&&ZW ar ns):=by unfold ZW;rw[List.all_cons]
    rw[e,e2,A,D,<-hc];rfl
def Ub(cs:List Z5):Option (List Z5)->Prop
 |none=>ZO Xn cs=none
 |some ns=>∃l,ZO Xn cs=some l/\∀c,c∈ns↔c∈l
theorem KX{ar:Nat->Nat}(A:∀a,ar a<Yf){cs:List Z5}(hr:∀c∈cs,c.right){o:Option (List Z5)}(h:Ub cs o):match o with|none=>ZW ar cs=false|some ns=>ZW ar ns=ZW ar cs:=by
 have ok:=Nx (f:=Xn) (ar:=ar) (cs:=cs) (λc hc=>(GA (hr c hc)).2 _ (A _)) (λc hc n hn=>by have:=(GA (hr c hc)).1;rw[hn] at this;exact this.2)
 cases o with
 |none=>
  rw[show ZO Xn cs=none from h] at ok;exact ok
 |some ns=>
  obtain⟨l,C,D⟩:=h;rw[C] at ok;show ZW ar ns=_;rw[Gw D];exact ok
def Gv(g:List Z3)(ns:List Z5):Prop:=∃x∈g,x.1=[]\/x.1=ns
inductive Ua:List Z3->List Z3->Prop
 |nil:Ua [] []
 |gone {rs g cs code}:Ua rs g->Ub cs none->Ua (rs++[(cs,code)]) g
 |hid {rs g cs code ns}:Ua rs g->Ub cs (some ns)->Gv g ns->Ua (rs++[(cs,code)]) g
 |more {rs g cs code ns}:Ua rs g->Ub cs (some ns)->¬Gv g ns->Ua (rs++[(cs,code)]) (g++[(ns,code)])
theorem th{ar:Nat->Nat}(C:∀a,ar a<Yf){rs g:List Z3}(h:Ua rs g):(∀r∈rs,∀c∈r.1,c.right)->Zy ar g=Zy ar rs:=by
 induction h with
 |nil=>intro _;rfl
 | @gone rs g cs code _ hn A=>
   intro hr;have A:=A (λr hm=>hr r (by simp[hm]));have hf:=KX C (hr (cs,code) jS) hn;have hf:ZW ar cs=false:=hf;rw[We,<-A,Vn,hf,aN jD];cases Zy ar g<;>rfl
 | @hid rs g cs code ns _ hn I A=>
   intro hr;have A:=A (λr hm=>hr r (by simp[hm]));have hf:ZW ar ns=ZW ar cs:=KX C (hr (cs,code) jS) hn;rw[We,<-A,Vn];obtain⟨x,hx,T⟩:=I;by_cases hc:ZW ar cs=true
   ·have D:Zy ar g≠none:=MP hx (by
     rcases T with e|e;·rw[e];rfl
     ·rw[e,hf];exact hc)
    cases J:Zy ar g with
    |none=>exact absurd J D
    |some v=>rfl
   ·rw[aN hc];cases Zy ar g<;>rfl
 | @more rs g cs code ns _ hn I A=>
   intro hr;have A:=A (λr hm=>hr r (by simp[hm]));have hf:ZW ar ns=ZW ar cs:=KX C (hr (cs,code) jS) hn;rw[We,We,A,Vn,Vn,hf]
inductive WG (d:Nat):List Z3->List Z3->Prop
 |same (l):WG d l l
 |one {l l' cs}:WG d l l'->WG d (l++[(cs,d)]) l'
theorem IV{d:Nat}{ar:Nat->Nat}{l l':List Z3}(h:WG d l l'):(Zy ar l').getD d=(Zy ar l).getD d:=by
 induction h with
 |same l=>rfl
 | @one l l' cs _ A=>
   rw[A,We,Vn];cases Zy ar l with
   |some v=>rfl
   |none=>split<;>rfl
def YJ:List Z3->List Z3
 |[]=>[]
 |(cs,code)::r=>match ZO Zk cs with
  |none=>YJ r
  |some []=>[([],code)]
  |some ns=>(ns,code)::YJ r
def UR:List Z3->List Z3
 |[]=>[]
 |(cs,code)::r=>if cs=[] then [(cs,code)] else(cs,code)::UR r
theorem Ep(ar:Nat->Nat):∀l:List Z3,Zy ar (UR l)=Zy ar l
 |[]=>rfl
 |(cs,code)::r=>by
  unfold UR;split;·rename_i h;subst h;rfl
  ·show(if ZW ar cs=true then some code else Zy ar (UR r))=(if ZW ar cs=true then some code else Zy ar r);rw[Ep ar r]
theorem KW{ar:Nat->Nat}(A:∀a,ar a<U8):∀l:List Z3,(∀r∈l,∀c∈r.1,c.nf/\c.kept)->Zy ar (YJ l)=Zy ar l
 |[],_=>rfl
 |(cs,code)::r,h=>by
  have C:=KW A r (λx hx=>h x (by simp[hx]));have hc:=h (cs,code) jS;have ok:=Nx (f:=Zk) (ar:=ar) (cs:=cs) (λc hm=>(Ny (hc c hm).1 (hc c hm).2).1 _ (A _)) (λc hm n hn=>by have:=(Ny (hc c hm).1 (hc c hm).2).2;rw[hn] at this;exact this.2.1)
  show Zy ar (YJ ((cs,code)::r))=(if ZW ar cs=true then some code else Zy ar r);unfold YJ;cases ha:ZO Zk cs with
  |none=>
   rw[ha] at ok;have ok:ZW ar cs=false:=ok;rw[ok,aN jD];exact C
  |some ns=>
   rw[ha] at ok;have ok:ZW ar ns=ZW ar cs:=ok;cases ns with
   |nil=>
    rw[<-ok,Gx,aG rfl];rfl
   |cons n ns=>
    show(if ZW ar (n::ns)=true then some code else Zy ar (YJ r))=_;rw[ok,C]
theorem OG{w:Nat->Nat}{wide:Bool}{d:Nat}:∀{rs:List Z3},(∀r∈rs,∀c∈r.1,c.nf)->Pq w wide d rs=(Zy (Sq w wide) rs).getD d
 |[],_=>rfl
 |(cs,code)::r,h=>by
  have A:=OG (w:=w) (wide:=wide) (d:=d) (rs:=r) (λx hx=>h x (by simp[hx]));have e:GI w wide cs=ZW (Sq w wide) cs:=by
   unfold GI ZW;rw[aoc,apa,apa];have hc:=h (cs,code) jS;constructor;·intro g c hm;rw[zq (hc c hm).2.1];exact g c hm
   ·intro g c hm;rw[<-zq (hc c hm).2.1];exact g c hm
  show(if GI w wide cs=true then code else Pq w wide d r)=(if ZW (Sq w wide) cs=true then some code else Zy (Sq w wide) r).getD d;rw[e,A];split<;>rfl
end Go.Proofs.YtclgigmgbebhgaaGreatDoor
namespace Go.Proofs.YtclgigmgbebhgaaGreatDoor
open Tryz
open Go Go.Proofs Go.RowKit
def YX(N:Nat)(W:World)(v:Value)(cs:List Z5):Prop:=
 ∃ua uc,v=.slice ua cs.length uc/\∀(k:Nat) (c:Z5),cs[k]? =some c->∃gu off,ua=some ⟨gu,off,none⟩/\gu<N/\W.cell? ⟨gu,off+k*4,none⟩=some (.int .i64 c.a)/\W.cell? ⟨gu,off+k*4+1,none⟩=some (.int .i64 c.o)/\W.cell? ⟨gu,off+k*4+2,none⟩=some (.int .u64 c.m)/\W.cell? ⟨gu,off+k*4+3,none⟩=some (.int .u64 c.v)
def Ux(N:Nat)(W:World)(v:Value)(rs:List Z3):Prop:=
 ∃a c,v=.slice a rs.length c/\∀(i:Nat) (r:Z3),rs[i]? =some r->∃g off u,a=some ⟨g,off,none⟩/\g<N/\W.cell? ⟨g,off+i*2,none⟩=some u/\W.cell? ⟨g,off+i*2+1,none⟩=some (.int .u32 r.2)/\YX N W u r.1
def WE(N:Nat)(W:World)(v:Value)(es:List (Nat×List Z3)):Prop:=
 ∃a c,v=.slice a es.length c/\∀(i:Nat) (e:Nat×List Z3),es[i]? =some e->∃g off u,a=some ⟨g,off,none⟩/\g<N/\W.cell? ⟨g,off+i*2,none⟩=some (.int .u32 e.1)/\W.cell? ⟨g,off+i*2+1,none⟩=some u/\Ux N W u e.2
def VK(N:Nat)(W:World)(v:Value)(l:List (Nat×Nat)):Prop:=
 ∃a c,v=.slice a l.length c/\∀(i:Nat) (e:Nat×Nat),l[i]? =some e->∃g off,a=some ⟨g,off,none⟩/\g<N/\W.cell? ⟨g,off+i*2,none⟩=some (.int .u32 e.1)/\W.cell? ⟨g,off+i*2+1,none⟩=some (.int .u32 e.2)
section
variable {N K:Nat} {W W':World} (hb:Below K W W') (hN:N<=K)
include hb hN
theorem ZY{g j:Nat}{v:Value}(A:g<N)(h:W.cell? ⟨g,j,none⟩=some v):W'.cell? ⟨g,j,none⟩=some v:=(hb.cell (p:=⟨g,j,none⟩) (adf A hN)).trans h
theorem YX.below{v:Value}{cs:List Z5}(h:YX N W v cs):YX N W' v cs:=by
 obtain⟨ua,uc,e,h⟩:=h;refine⟨ua,uc,e,λk c hk=> ?_⟩;obtain⟨I,off,e,hl,D,C,A,J⟩:=h k c hk;exact⟨I,off,e,hl,ZY hb hN hl D,ZY hb hN hl C,ZY hb hN hl A,ZY hb hN hl J⟩
theorem Ux.below{v:Value}{rs:List Z3}(h:Ux N W v rs):Ux N W' v rs:=by
 obtain⟨ua,uc,e,h⟩:=h;refine⟨ua,uc,e,λk c hk=> ?_⟩;obtain⟨D,off,u,e,hl,C,A,I⟩:=h k c hk;exact⟨D,off,u,e,hl,ZY hb hN hl C,ZY hb hN hl A,I.below hb hN⟩
theorem WE.below{v:Value}{rs:List (Nat×List Z3)}(h:WE N W v rs):WE N W' v rs:=by
 obtain⟨ua,uc,e,h⟩:=h;refine⟨ua,uc,e,λk c hk=> ?_⟩;obtain⟨D,off,u,e,hl,C,A,I⟩:=h k c hk;exact⟨D,off,u,e,hl,ZY hb hN hl C,ZY hb hN hl A,I.below hb hN⟩
theorem VK.below{v:Value}{rs:List (Nat×Nat)}(h:VK N W v rs):VK N W' v rs:=by
 obtain⟨ua,uc,e,h⟩:=h;refine⟨ua,uc,e,λk c hk=> ?_⟩;obtain⟨D,off,e,hl,C,A⟩:=h k c hk;exact⟨D,off,e,hl,ZY hb hN hl C,ZY hb hN hl A⟩
end
end Go.Proofs.YtclgigmgbebhgaaGreatDoor
