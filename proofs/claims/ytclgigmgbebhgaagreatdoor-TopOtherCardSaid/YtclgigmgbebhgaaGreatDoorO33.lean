/- TopOther: part 33: TopVm1. -/
import Derived.Defers
import Derived.Recover
import Derived.Shelf.Spec.TrailingZeros
import Derived.Test.YtclgigmgbebhgaaGreatDoorO27
set_option linter.unusedVariables false
set_option linter.unusedSimpArgs false
set_option maxRecDepth 100000
set_option maxHeartbeats 16000000
namespace Go.Proofs.YtclgigmgbebhgaaGreatDoor
open Tryz
open Go Go.Proofs Go.RowKit Go.Shelf
variable {R base q p a s:Nat} {vb:Value} {W W' w0:World}
@[go_sem] abbrev eH:Oper:=⟨some 28,.load 94 (.tmp 27),94,"vm.go:54",#[⟨4,.data⟩],none⟩
@[go_sem] abbrev eG:Oper:=⟨some 33,.buildSlice 94 1 #[(0,.tmp 32)],94,"vm.go:54",#[⟨9,.data⟩],none⟩
@[go_sem] abbrev eF:Oper:=⟨some 34,.call {callee:=.builtin .append,args:=#[.tmp 28,.tmp 33],argTypes:=#[94,94]},94,"vm.go:54",#[⟨5,.data⟩,⟨10,.data⟩],none⟩
@[go_sem] abbrev eE:Oper:=⟨some 35,.nilCheck (.tmp 23),0,"vm.go:54",#[⟨0,.data⟩,⟨0,.phase⟩,⟨1,.phase⟩,⟨2,.phase⟩,⟨3,.phase⟩,⟨4,.phase⟩,⟨5,.phase⟩,⟨6,.phase⟩,⟨7,.phase⟩,⟨8,.phase⟩,⟨9,.phase⟩,⟨10,.phase⟩,⟨11,.phase⟩],none⟩
@[go_sem] abbrev ez:Oper:=⟨some 36,.fieldAddr 245 (.tmp 35) 5,0,"vm.go:54",#[⟨12,.data⟩,⟨0,.phase⟩,⟨1,.phase⟩,⟨2,.phase⟩,⟨3,.phase⟩,⟨4,.phase⟩,⟨5,.phase⟩,⟨6,.phase⟩,⟨7,.phase⟩,⟨8,.phase⟩,⟨9,.phase⟩,⟨10,.phase⟩,⟨11,.phase⟩],none⟩
@[go_sem] abbrev ey:Oper:=⟨some 37,.fieldAddr 96 (.tmp 36) 2,0,"vm.go:54",#[⟨13,.data⟩,⟨0,.phase⟩,⟨1,.phase⟩,⟨2,.phase⟩,⟨3,.phase⟩,⟨4,.phase⟩,⟨5,.phase⟩,⟨6,.phase⟩,⟨7,.phase⟩,⟨8,.phase⟩,⟨9,.phase⟩,⟨10,.phase⟩,⟨11,.phase⟩],none⟩
@[go_sem] abbrev ew:Oper:=⟨none,.store 94 (.tmp 37) (.tmp 34),0,"vm.go:54",#[⟨14,.data⟩,⟨11,.data⟩,⟨11,.chain⟩,⟨0,.phase⟩,⟨1,.phase⟩,⟨2,.phase⟩,⟨3,.phase⟩,⟨4,.phase⟩,⟨5,.phase⟩,⟨6,.phase⟩,⟨7,.phase⟩,⟨8,.phase⟩,⟨9,.phase⟩,⟨10,.phase⟩,⟨11,.phase⟩],none⟩
abbrev uM:Nat:=245
abbrev UZ:Nat:=242
def PW(c:Nat):Nat:=if c=0x20 then 187 else if c=0x54 then 120 else if c=0x05 then 199 else if c=0x06 then 200 else 119
def NF(i:ZN):List Value:=[.int .u16 i.code,.int .u8 i.jt,.int .u8 i.jf,.int .u32 i.k,.func (.func (PW i.code)) #[] #[],.int .i64 (Zz i.code:Int),.bool false]
def FY(vb:Value)(p a s:Nat)(lv:Value):Array Value:=#[vb,.int .i64 p,.int .u32 a,.int .u32 0,.int .u32 0,.int .u32 0,.int .u32 0,.int .u32 0,.int .u32 0,.int .u32 0,.int .u32 0,.int .u32 0,.int .u32 0,.int .u32 0,.int .u32 0,.int .u32 0,.int .u32 0,.int .u32 0,.int .u32 0,.int .u32 0,.int .u32 0,.int .i64 s,lv]
theorem py (h:Below W.heap.size W W'):W.grownBy W' none:=⟨h.os,h.tape,h.output,h.size,λk hk _=>h.block k hk⟩
theorem Aj(W:World)(R j:Nat)(u:Value):W.grownBy (W.setCell ⟨R,j,none⟩ u) (some R):=⟨rfl,rfl,rfl,by show W.heap.size<=(W.heap.modify R _).size;rw[aua];exact aR _,λk _ hk=>aef W _ u k (λe=>hk (by rw[e]))⟩
theorem iZ(W:World):W.grownBy W.drew none:=⟨rfl,rfl,rfl,aR _,λ_ _ _=>rfl⟩
theorem VQ{row:Option Nat}(h:w0.grownBy W (some R))(g:W.grownBy W' row)(hr:∀k,row=some k->k=R\/w0.heap.size<=k):w0.grownBy W' (some R):=
 ⟨g.os.trans h.os,g.tape.trans h.tape,g.output.trans h.output,aO h.size g.size,λi hi A=>(g.block i (adf hi h.size) (λe=>by
   rcases hr i e.symm with e2|e2;·exact A (by rw[e2])
   ·omega)).trans (h.block i hi A)⟩
def VX(R base:Nat)(w0:World)(vb:Value)(q p a s:Nat)(W:World):Prop:=w0.grownBy W (some R)/\base=w0.heap.size/\R<base/\∃lv n xs,n+q<=s/\Z7 W R uM (FY vb p a s lv)/\W.ownsRow base 3 1 lv n xs
theorem VX.bl (h:VX R base w0 vb q p a s W)(hb:Below W.heap.size W W'):VX R base w0 vb q p a s W':=by
 obtain⟨I,C,J,U,n,xs,D,A,T⟩:=h;exact⟨VQ I (py hb) (λk e=>by cases e),C,J,U,n,xs,D,A.below hb A.lt,ZE T hb⟩
theorem VX.alloc (h:VX R base w0 vb q p a s W)(o:Obj):VX R base w0 vb q p a s (W.alloc o):=h.bl ((aH _ W).alloc (aR _) o)
theorem VX.drew (h:VX R base w0 vb q p a s W):VX R base w0 vb q p a s W.drew:=by
 obtain⟨D,A,I,U,n,xs,C,J,T⟩:=h;exact⟨VQ D (iZ W) (λk e=>by cases e),A,I,U,n,xs,C,J,T⟩
theorem VX.less (h:VX R base w0 vb (q+1) p a s W):VX R base w0 vb q p a s W:=by
 obtain⟨C,A,D,T,n,xs,U,I,J⟩:=h;exact⟨C,A,D,T,n,xs,jO,I,J⟩
theorem VX.set{q' p' a' s':Nat}(h:VX R base w0 vb q p a s W)(j:Nat)(u:Value)(hc:∀A,(FY vb p a s A).setIfInBounds j u=FY vb p' a' s' A)(Y:∀n,n+q<=s->n+q'<=s'):VX R base w0 vb q' p' a' s' (W.setCell ⟨R,j,none⟩ u):=by
 obtain⟨T,I,U,A,n,xs,J,C,D⟩:=h;refine⟨VQ T (Aj W R j u) (λk e=>.inl (ax e).symm),I,U,A,n,xs,Y n J,?_,VR D (λe=>YT D C jD e)⟩;rw[<-hc];exact C.set j u
theorem VX.cells (h:VX R base w0 vb q p a s W):W.cell? ⟨R,0,none⟩=some vb/\W.cell? ⟨R,1,none⟩=some (.int .i64 p)/\W.cell? ⟨R,2,none⟩=some (.int .u32 a)/\W.cell? ⟨R,3,none⟩=some (.int .u32 0)/\W.cell? ⟨R,21,none⟩=some (.int .i64 s)/\∀j,W.frozen? ⟨R,j,none⟩=false:=by
 obtain⟨I,C,J,U,n,xs,D,A,T⟩:=h;exact⟨A.cell 0,A.cell 1,A.cell 2,A.cell 3,A.cell 21,A.frozen⟩
theorem VX.lt (h:VX R base w0 vb q p a s W):R<W.heap.size:=by
 obtain⟨I,C,J,U,n,xs,D,A,T⟩:=h;exact A.lt
theorem VX.size (h:VX R base w0 vb q p a s W):base<=W.heap.size:=by rw[h.2.1];exact h.1.size
theorem VX.kept{B t:Nat}{cs:Array Value}(h:VX R base w0 vb q p a s W)(C:Z7 w0 B t cs)(A:B≠R):Z7 W B t cs:=C.kept h.1 (λe=>A (ax e))
theorem VX.px{N:Nat}(h:VX R base w0 vb q p a s W)(hN:N<=R):Below N w0 W:=(aH N w0).grown h.1 (aO hN (by have:=h.2.1;have:=h.2.2.1;omega)) (λk e=>by have:=ax e;omega)
def FX(R base:Nat)(w0:World)(vb:Value)(p a s:Nat):Ending->World->Prop:=λe w'=>e=.returned (.tuple #[])/\VX R base w0 vb 0 p a s w'
section
variable {R base p a s:Nat} {w0:World} {vb:Value}
theorem G9(i:ZN)(r:Addr)(w:World):Calls prog 202 #[.pointer (some r),.agg (NF i).toArray] w λe w'=>e=.returned (.int .u32 i.k)/\Below w.heap.size w w':=by
 obtain⟨A,D,C,I⟩:=i;unfold NF;dsimp only;have J:=Z7.new w UZ #[.int .u16 A,.int .u8 D,.int .u8 C,.int .u32 I,.func (.func (PW A)) #[] #[],.int .i64 (Zz A:Int),.bool false];obtain⟨_,_,_,Y,_,_,U⟩:=J.q7;have T:=aT ((aH w.heap.size w).alloc (aR _) (.cells #[.int .u16 A,.int .u8 D,.int .u8 C,.int .u32 I,.func (.func (PW A)) #[] #[],.int .i64 (Zz A:Int),.bool false] UZ));clear J;go_enter func202,ntmps202;go_wp2_with fail;go_ret;exact⟨rfl,T.out⟩
theorem pq(i:ZN)(hp:p+i.k<=10000)(w:World)(h:VX R base w0 vb 1 p a s w):Calls prog 199 #[.pointer (some ⟨R,0,none⟩),.agg (NF i).toArray] w (FX R base w0 vb (p+i.k) a s):=by
 obtain⟨C,I,D,A⟩:=i;unfold NF;dsimp only at hp ⊢;have HB:=aT (Z7.new w UZ #[.int .u16 C,.int .u8 I,.int .u8 D,.int .u32 A,.func (.func (PW C)) #[] #[],.int .i64 (Zz C:Int),.bool false]);have U:=aT (h.alloc (.cells #[.int .u16 C,.int .u8 I,.int .u8 D,.int .u32 A,.func (.func (PW C)) #[] #[],.int .i64 (Zz C:Int),.bool false] UZ));have hne:¬w.heap.size=R:=by have:=h.lt;omega
 have J:¬R=w.heap.size:=by have:=h.lt;omega
 have w1:IntKind.i64.wrap (A:Int)=(A:Int):=aJ _ jO;have w2:IntKind.i64.wrap ((p:Int)+(A:Int))=((p+A:Nat):Int):=by rw[aJ _ jO];omega
 clear h;go_enter func199,ntmps199;go_upto_region 1 with fail;generalize w.alloc (.cells #[.int .u16 C,.int .u8 I,.int .u8 D,.int .u32 A,.func (.func (PW C)) #[] #[],.int .i64 (Zz C:Int),.bool false] UZ)=wa at*;generalize w.heap.size=B1 at*;have c3:=HB.out.e3;obtain⟨z0,z1,z2,z3,Z,Y⟩:=U.out.cells;have f1:=Y 1;clear z0 z2 z3 Z Y;have HF:Hid (VX R base w0 vb 0 (p+A) a s (wa.setCell ⟨R,1,none⟩ (.int .i64 ((p+A:Nat):Int))).drew):=(U.out.set 1 (.int .i64 ((p+A:Nat):Int)) (λlv=>rfl) (λn hn=>jO)).drew;generalize p+A=T at*;go_region;go_wp2_with fail;go_end0;exact⟨rfl,HF.out⟩
theorem Ai(i:ZN)(hb:YV i.code=true)(hp:p+i.jt<=10000/\p+i.jf<=10000)(w:World)(h:VX R base w0 vb 1 p a s w)(ha:a<4294967296)(hk:i.k<4294967296):Calls prog 119 #[.pointer (some ⟨R,0,none⟩),.agg (NF i).toArray] w (FX R base w0 vb (p+(if YI i.code a i.k=true then i.jt else i.jf)) a s):=by
 obtain⟨Y,hT0⟩:∃T,p+(if YI i.code a i.k=true then i.jt else i.jf)=T:=⟨_,rfl⟩;rw[hT0];obtain⟨bt,hbt⟩:=jX (YI i.code a i.k);rw[hbt] at hT0;obtain⟨Z,D,C,U⟩:=i;have HO:=aT (λW=>G9 ⟨Z,D,C,U⟩ ⟨R,0,none⟩ W);unfold NF at HO ⊢;dsimp only at*;have HB:=aT (Z7.new w UZ #[.int .u16 Z,.int .u8 D,.int .u8 C,.int .u32 U,.func (.func (PW Z)) #[] #[],.int .i64 (Zz Z:Int),.bool false]);have HS:=aT (h.alloc (.cells #[.int .u16 Z,.int .u8 D,.int .u8 C,.int .u32 U,.func (.func (PW Z)) #[] #[],.int .i64 (Zz Z:Int),.bool false] UZ));have hne:¬w.heap.size=R:=by have:=h.lt;omega
 have bc:¬R=w.heap.size:=by have:=h.lt;omega
 clear h;obtain⟨mI,tP⟩:=hp;have I:=aT hbt;have J:=aT hT0;have HIB:=aT hb;clear hbt hT0 hb;have w1:IntKind.i64.wrap (D:Int)=(D:Int):=aJ _ jO;have w2:IntKind.i64.wrap ((p:Int)+(D:Int))=((p+D:Nat):Int):=by rw[aJ _ jO];omega
 have w3:IntKind.i64.wrap (C:Int)=(C:Int):=aJ _ jO;have w4:IntKind.i64.wrap ((p:Int)+(C:Int))=((p+C:Nat):Int):=by rw[aJ _ jO];omega
 go_enter func119,ntmps119;go_upto_region 1 with fail;generalize w.alloc (.cells #[.int .u16 Z,.int .u8 D,.int .u8 C,.int .u32 U,.func (.func (PW Z)) #[] #[],.int .i64 (Zz Z:Int),.bool false] UZ)=wa at*;generalize w.heap.size=B1 at*;have lay:∀wx:World,Below wa.heap.size wa wx->Hid (Z7 wx B1 UZ #[.int .u16 Z,.int .u8 D,.int .u8 C,.int .u32 U,.func (.func (PW Z)) #[] #[],.int .i64 (Zz Z:Int),.bool false])/\Hid (VX R base w0 vb 1 p a s wx):=λwx hb=>⟨HB.out.below hb HB.out.lt,HS.out.bl hb⟩
 have LAY:=aT lay;clear lay;obtain⟨c0,c1,c2,c3,c4,c5,c6⟩:=HB.out.q7;go_wp2_with fail;refine(HO.out wa).mono ?_;rintro e wx ⟨rfl,mL⟩;obtain⟨XA,TZ⟩:=LAY.out wx mL;clear mL c0 c1 c2 c3 c4 c5 c6 HB HS LAY HO;obtain⟨_,c1,c2,_,_,c5⟩:=XA.out.q6;obtain⟨z0,z1,z2,z3,z4,zf⟩:=TZ.out.cells;have f1:=zf 1;clear z0 z3 z4 zf;have HF:Hid (∀T:Nat,VX R base w0 vb 0 T a s (wx.setCell ⟨R,1,none⟩ (.int .i64 T)).drew):=λT=>(TZ.out.set 1 (.int .i64 T) (λlv=>rfl) (λn hn=>jO)).drew
 have hb:=HIB.out;unfold YV at hb;simp only[atb,ahd] at hb;clear HIB;rcases hb with((rfl|rfl)|rfl)|rfl
 ·rw[show Zz 21=25 from rfl] at c5;change _=some (Value.int .i64 25) at c5;cases bt with
  |true=>
   obtain rfl:a=U:=by simpa [YI] using I.out
   have hx:((a:Int) == (a:Int))=true:=jS;have A:p+D=Y:=J.out;rw[A] at w2;clear A;go_wp2_with fail;go_region;go_wp2_with fail;go_end0;exact⟨rfl,HF.out Y⟩
  |false=>
   have hn:¬(a:Int)=(U:Int):=by have:=I.out;simp[YI] at this;omega
   have hx:((a:Int) == (U:Int))=false:=by rw[ae];exact hn
   have A:p+C=Y:=J.out;rw[A] at w4;clear A;go_wp2_with fail;go_region;go_wp2_with fail;go_end0;exact⟨rfl,HF.out Y⟩
 ·rw[show Zz 37=26 from rfl] at c5;change _=some (Value.int .i64 26) at c5;cases bt with
  |true=>
   have hx:(U:Int)<(a:Int):=by have:=I.out;simp[YI] at this;omega
   have A:p+D=Y:=J.out;rw[A] at w2;clear A;go_wp2_with fail;go_region;go_wp2_with fail;go_end0;exact⟨rfl,HF.out Y⟩
  |false=>
   have hx:¬(U:Int)<(a:Int):=by have:=I.out;simp[YI] at this;omega
   have A:p+C=Y:=J.out;rw[A] at w4;clear A;go_wp2_with fail;go_region;go_wp2_with fail;go_end0;exact⟨rfl,HF.out Y⟩
 ·rw[show Zz 53=27 from rfl] at c5;change _=some (Value.int .i64 27) at c5;cases bt with
  |true=>
   have hx:(U:Int)<=(a:Int):=by have:=I.out;simp[YI] at this;omega
   have A:p+D=Y:=J.out;rw[A] at w2;clear A;go_wp2_with fail;go_region;go_wp2_with fail;go_end0;exact⟨rfl,HF.out Y⟩
  |false=>
   have hx:¬(U:Int)<=(a:Int):=by have:=I.out;simp[YI] at this;omega
   have A:p+C=Y:=J.out;rw[A] at w4;clear A;go_wp2_with fail;go_region;go_wp2_with fail;go_end0;exact⟨rfl,HF.out Y⟩
 ·rw[show Zz 69=28 from rfl] at c5;change _=some (Value.int .i64 28) at c5;have wx:bits .and .u32 (a:Int) (U:Int)=((a &&& U:Nat):Int):=bits_and_u32_nat _ _ ha hk;cases bt with
  |true=>
   have hz:¬(a &&& U)=0:=by have:=I.out;simpa [YI] using this
   generalize a &&& U=X at*;have hn:¬(X:Int)=0:=jO;have hx:((X:Int) == 0)=false:=by rw[ae];exact hn
   have hy:((X:Int) != 0)=true:=by simp;omega
   have A:p+D=Y:=J.out;rw[A] at w2;clear A;go_wp2_with fail;go_region;go_wp2_with fail;go_end0;exact⟨rfl,HF.out Y⟩
  |false=>
   have hz:(a &&& U)=0:=by have:=I.out;simpa [YI] using this
   rw[hz] at wx;have A:p+C=Y:=J.out;rw[A] at w4;clear A;go_wp2_with fail;go_region;go_wp2_with fail;go_end0;exact⟨rfl,HF.out Y⟩
theorem iY(i:ZN)(hc:i.code=0x54)(w:World)(h:VX R base w0 vb 1 p a s w)(ha:a<4294967296)(hk:i.k<4294967296):Calls prog 120 #[.pointer (some ⟨R,0,none⟩),.agg (NF i).toArray] w (FX R base w0 vb p (a &&& i.k) s):=by
 obtain⟨A,D,C,I⟩:=i;have HO:=aT (λW=>G9 ⟨A,D,C,I⟩ ⟨R,0,none⟩ W);unfold NF at HO ⊢;dsimp only at*;have HB:=aT (Z7.new w UZ #[.int .u16 A,.int .u8 D,.int .u8 C,.int .u32 I,.func (.func (PW A)) #[] #[],.int .i64 (Zz A:Int),.bool false]);have HS:=aT (h.alloc (.cells #[.int .u16 A,.int .u8 D,.int .u8 C,.int .u32 I,.func (.func (PW A)) #[] #[],.int .i64 (Zz A:Int),.bool false] UZ));have hne:¬w.heap.size=R:=by have:=h.lt;omega
 have bc:¬R=w.heap.size:=by have:=h.lt;omega
 clear h;have HCC:=aT hc;clear hc;go_enter func120,ntmps120;go_upto_region 1 with fail;generalize w.alloc (.cells #[.int .u16 A,.int .u8 D,.int .u8 C,.int .u32 I,.func (.func (PW A)) #[] #[],.int .i64 (Zz A:Int),.bool false] UZ)=wa at*;generalize w.heap.size=B1 at*;have lay:∀J:World,Below wa.heap.size wa J->Hid (Z7 J B1 UZ #[.int .u16 A,.int .u8 D,.int .u8 C,.int .u32 I,.func (.func (PW A)) #[] #[],.int .i64 (Zz A:Int),.bool false])/\Hid (VX R base w0 vb 1 p a s J):=λJ hb=>⟨HB.out.below hb HB.out.lt,HS.out.bl hb⟩
 have Y:=aT lay;clear lay;obtain⟨c0,c1,c2,c3,c4,Z,c6⟩:=HB.out.q7;go_wp2_with fail;refine(HO.out wa).mono ?_;rintro e J ⟨rfl,U⟩;obtain⟨XA,T⟩:=Y.out J U;clear U c0 c1 c2 c3 c4 Z c6 HB HS Y HO;have Z:=XA.out.e5;obtain⟨z0,z1,z2,z3,z4,zf⟩:=T.out.cells;have f2:=zf 2;clear z0 z1 z3 z4 zf;obtain rfl:A=0x54:=HCC.out;rw[show Zz 84=21 from rfl] at Z;change _=some (Value.int .i64 21) at Z;have wy:bits .and .u32 (a:Int) (I:Int)=((a &&& I:Nat):Int):=bits_and_u32_nat _ _ ha hk;generalize a &&& I=X at*;have HF:Hid (VX R base w0 vb 0 p X s (J.setCell ⟨R,2,none⟩ (.int .u32 X))):=T.out.set 2 (.int .u32 X) (λlv=>rfl) (λn hn=>jO);go_wp2_with fail;go_end0;exact⟨rfl,HF.out⟩
def JX(v:Nat):List PanicEntry:=[{v:=.iface 247 (.agg #[.int .u32 v]),recovered:=false}]
theorem po(i:ZN)(w:World)(h:VX R base w0 vb 1 p a s w):Calls prog 200 #[.pointer (some ⟨R,0,none⟩),.agg (NF i).toArray] w λe w'=>e=.panicked (JX i.k)/\VX R base w0 vb 0 p a s w':=by
 obtain⟨A,D,C,I⟩:=i;unfold NF JX;dsimp only at*;have J:=Z7.new w UZ #[.int .u16 A,.int .u8 D,.int .u8 C,.int .u32 I,.func (.func (PW A)) #[] #[],.int .i64 (Zz A:Int),.bool false];have T:=aT (h.alloc (.cells #[.int .u16 A,.int .u8 D,.int .u8 C,.int .u32 I,.func (.func (PW A)) #[] #[],.int .i64 (Zz A:Int),.bool false] UZ)).less;have U:=J.e3;clear h J;go_enter func200,ntmps200;go_wp2;exact⟨rfl,rfl,T.out⟩
theorem an6:(prog.info? 3).map (λi=>(i.zero,i.size,i.bytes))=some (some (.int .i64 0),1,8):=jK
theorem uL{N c:Nat}{ad:Option Addr}{bs:List Nat}(hl:bs.length=64)(uK:∀b∈bs,b<256)(i:ZN)(hk:i.k%4=0/\i.k<64)(hs:s<=100000)(w:World)(hm:YQ N w ad bs)(hN:N<=base)(h:VX R base w0 (.slice ad 64 c) 1 p a s w):Calls prog 187 #[.pointer (some ⟨R,0,none⟩),.agg (NF i).toArray] w (FX R base w0 (.slice ad 64 c) p (Yy bs i.k) s):=by
 have hW:Yy bs i.k<4294967296:=J6 uK i.k;have HG:Hid (∀W,Below w.heap.size w W->Calls prog 63 #[.slice ad 64 c,.int .i64 i.k,.int .i64 4,.bool false] W λe w'=>e=.returned (.tuple #[.int .u64 (Yy bs i.k:Int),.int .i64 0])/\Below W.heap.size W w'):=λW hW=>by have hsz:=h.size;have:=F9 (L:=64) (c:=c) (at_:=i.k) (k:=4) (.inr rfl) hl jO jO uK W (hm.below hW (aO hN hsz)) (aO (aO hN hsz) hW.size);rwa [qg] at this
 obtain⟨I,Y,U,D⟩:=i;unfold NF;dsimp only at*;have HB:=aT (Z7.new w UZ #[.int .u16 I,.int .u8 Y,.int .u8 U,.int .u32 D,.func (.func (PW I)) #[] #[],.int .i64 (Zz I:Int),.bool false]);have HS:=aT (h.alloc (.cells #[.int .u16 I,.int .u8 Y,.int .u8 U,.int .u32 D,.func (.func (PW I)) #[] #[],.int .i64 (Zz I:Int),.bool false] UZ));have lK:=aT ((aH w.heap.size w).alloc (aR _) (.cells #[.int .u16 I,.int .u8 Y,.int .u8 U,.int .u32 D,.func (.func (PW I)) #[] #[],.int .i64 (Zz I:Int),.bool false] UZ));have hne:¬w.heap.size=R:=by have:=h.lt;omega
 have bc:¬R=w.heap.size:=by have:=h.lt;omega
 have hbs:=h.size;clear h hm hl uK;obtain⟨kZ,hk2⟩:=hk;generalize Yy bs D=X at*;have w1:IntKind.i64.wrap (D:Int)=(D:Int):=aJ _ jO;have w2:IntKind.u32.wrap (X:Int)=(X:Int):=axa _ jO;clear kZ;go_enter func187,ntmps187;go_upto_region 1 with fail;have HGa:=aT (HG.out (w.alloc (.cells #[.int .u16 I,.int .u8 Y,.int .u8 U,.int .u32 D,.func (.func (PW I)) #[] #[],.int .i64 (Zz I:Int),.bool false] UZ)).drew lK.out.drew);clear HG;have dy:=HB.out.lt;generalize w.alloc (.cells #[.int .u16 I,.int .u8 Y,.int .u8 U,.int .u32 D,.func (.func (PW I)) #[] #[],.int .i64 (Zz I:Int),.bool false] UZ)=wa at*;generalize w.heap.size=B1 at*;obtain⟨z0,z1,z2,z3,z4,zf⟩:=HS.out.cells;have c3:=HB.out.e3;have Uj:Hid (wa.drew.cell? ⟨R,0,none⟩=some (.slice ad 64 c)/\wa.drew.cell? ⟨B1,3,none⟩=some (.int .u32 D)):=⟨z0,c3⟩;have mz:=aT HS.out.drew;have mU:Hid (Z7 wa.drew B1 UZ #[.int .u16 I,.int .u8 Y,.int .u8 U,.int .u32 D,.func (.func (PW I)) #[] #[],.int .i64 (Zz I:Int),.bool false]):=HB.out;have HSg:Hid (∀w',Below wa.drew.heap.size wa.drew w'->w'.cell? ⟨R,0,none⟩=some (.slice ad 64 c)/\w'.cell? ⟨B1,3,none⟩=some (.int .u32 D)):=λw' hb=>⟨(mz.out.bl hb).cells.1,((mU.out.below hb mU.out.lt).cell 3)⟩
 clear z0 z1 z2 z3 z4 zf c3 HS HB
 go_region_held3 (λw'=>w'.cell? ⟨R,0,none⟩=some (.slice ad 64 c)/\w'.cell? ⟨B1,3,none⟩=some (.int .u32 D)) (first|exact Uj.out|exact HSg.out _ (ajc jA)) (first
  |(go_at_call 63;refine HGa.out.mono ?_;rintro e wg ⟨rfl,hbg⟩;have HBG:Hid (Below wa.drew.heap.size wa.drew wg):=aT hbg;clear hbg))
 have XA:=aT (mU.out.below HBG.out mU.out.lt);have TZ:=aT ((mz.out.bl HBG.out).set 2 (.int .u32 X) (a':=X) (λlv=>rfl) (λn hn=>hn));have Vj:Hid (Z7 (wg.setCell ⟨R,2,none⟩ (.int .u32 X)) B1 UZ #[.int .u16 I,.int .u8 Y,.int .u8 U,.int .u32 D,.func (.func (PW I)) #[] #[],.int .i64 (Zz I:Int),.bool false]):=XA.out.other hne 2 _;have z2:wg.cell? ⟨R,2,none⟩=some (.int .u32 a):=(mz.out.bl HBG.out).cells.2.2.1;have f2:wg.frozen? ⟨R,2,none⟩=false:=(mz.out.bl HBG.out).cells.2.2.2.2.2 2;clear XA mU mz Uj HSg HGa HBG lK;go_upto_region 3 with fail;generalize wg.setCell ⟨R,2,none⟩ (.int .u32 X)=wb at*;obtain⟨v1,v2,v3,lv,n,xs,v4,v5,v6⟩:=TZ.out.drew;have HV1:=aT v1;have HV5:=aT v5;have Bj:=aT v6;have Fv:Hid (Z7 wb.drew B1 UZ #[.int .u16 I,.int .u8 Y,.int .u8 U,.int .u32 D,.func (.func (PW I)) #[] #[],.int .i64 (Zz I:Int),.bool false]):=Vj.out;have Uj:Hid (wb.drew.cell? ⟨B1,3,none⟩=some (.int .u32 D)):=Fv.out.cell 3;obtain⟨i0,XX,SC,Vo,TD⟩:=ZP an6;clear v1 v5 v6 TZ Vj z2 f2;refine auc ?_;refine akd (S:=λw'=>w'.cell? ⟨B1,3,none⟩=some (.int .u32 D)) jK Uj.out (λhHeld=> ?_);generalize wb.drew=wd at*;refine jT 0 ⟨some 23,.move (.tmp 0),240,"vm.go:54",#[],none⟩ ?_;try simp only[Act.put,aS,aP,aQ]
 refine jT 1 ⟨some 24,.move (.tmp 0),240,"vm.go:54",#[],none⟩ ?_;try simp only[Act.put,aS,aP,aQ]
 refine jT 2 ⟨some 25,.nilCheck (.tmp 24),0,"vm.go:54",#[⟨1,.data⟩],none⟩ ?_;try simp only[Act.put,aS,aP,aQ]
 refine jT 3 ⟨some 26,.fieldAddr 245 (.tmp 25) 5,0,"vm.go:54",#[⟨2,.data⟩],none⟩ ?_;try simp only[Act.put,aS,aP,aQ]
 refine jT 4 ⟨some 27,.fieldAddr 96 (.tmp 26) 2,0,"vm.go:54",#[⟨3,.data⟩],none⟩ ?_;try simp only[Act.put,aS,aP,aQ]
 refine jT 6 ⟨some 29,.fieldAddr 242 (.tmp 3) 0,0,"vm.go:54",#[],none⟩ ?_;try simp only[Act.put,aS,aP,aQ]
 refine jT 7 ⟨some 30,.fieldAddr 166 (.tmp 29) 3,0,"vm.go:54",#[⟨6,.data⟩],none⟩ ?_;try simp only[Act.put,aS,aP,aQ]
 refine jT 8 ⟨some 31,.load 53 (.tmp 30),53,"vm.go:54",#[⟨7,.data⟩],none⟩ ?_;try simp only[Act.put,aS,aP,aQ]
 refine jT 9 ⟨some 32,.convert 53 3 (.tmp 31),3,"vm.go:54",#[⟨8,.data⟩],none⟩ ?_;try simp only[Act.put,aS,aP,aQ]
 have Ee:=aT (VQ HV1.out (aea wd (.cells #[.int .i64 D] 3) none) (λk e=>by cases e));have Ce:=aT (HV5.out.alloc (.cells #[.int .i64 D] 3));have Z:=aT (ZE Bj.out ((aH wd.heap.size wd).alloc (aR _) (.cells #[.int .i64 D] 3)));have x9:=aT (Fv.out.alloc (.cells #[.int .i64 D] 3));have Jt:Hid ((wd.alloc (.cells #[.int .i64 D] 3)).cell? ⟨B1,3,none⟩=some (.int .u32 D)):=x9.out.cell 3;have mD:base<=(wd.alloc (.cells #[.int .i64 D] 3)).heap.size:=by rw[v2];exact Ee.out.size
 have k4:wd.cell? ⟨R,22,none⟩=some lv:=HV5.out.cell 22;have k5:(wd.alloc (.cells #[.int .i64 D] 3)).cell? ⟨R,22,none⟩=some lv:=Ce.out.cell 22;refine aaf (rs:=[5,10]) jK jS ?_;refine ag (o:=eH) rfl (λK' J=> ?aC0) (ag (o:=eG) rfl (λK' J=> ?an7) aab)
 case aC0=>
  go_simp;refine J.out _ _ hHeld (λhHeld=> ?_);clear J K';try simp only[Act.put,aS,aP,aQ]
  refine aaf (rs:=[10]) jK jS ?_;refine ag (o:=eG) rfl (λK' J=> ?_) aab;go_simp;clear hHeld;refine J.out _ _ Jt.out (λhHeld=> ?_);clear J K';try simp only[Act.put,aS,aP,aQ]
  refine aaf (rs:=[11]) jK jS ?_;refine ag (o:=eF) rfl (λK' J=> ?_) aab;refine Ys _ _ _ 94 jR base 3 i0 (.int .i64 0) 1 8 underlying94 XX SC Vo TD rfl jD lv n xs jR Z.out ⟨wd.heap.size,0,none⟩ 1 1 [.int .i64 D] jR rfl (Y1 rfl) (by simp[Value.oneCell']) (by unfold maxLen;omega) jO mD ?_;intro v' w7 C A;obtain⟨g7,q7,rfl,_,_⟩:=World.ownsRow.form C jO;have Ov:=aT (VQ Ee.out A (λk e=>.inr (by rw[<-v2];exact(Z.out.lt k e).1)));have T:=aT (Ce.out.kept A (λe=>YT Z.out Ce.out jD e.symm));have HC7:=aT (x9.out.kept A (λe=>YT Z.out x9.out jD e.symm));have LM:=aT C;have LN:Hid (w7.cell? ⟨B1,3,none⟩=some (.int .u32 D)):=HC7.out.cell 3;clear C A;clear hHeld;refine J.out _ _ LN.out (λhHeld=> ?_);clear J K';try simp only[Act.put,aS,aP,aQ]
  refine jT 12 eE ?_;try simp only[Act.put,aS,aP,aQ]
  refine jT 13 ez ?_;try simp only[Act.put,aS,aP,aQ]
  refine jT 14 ey ?_;try simp only[Act.put,aS,aP,aQ]
  refine aaf (rs:=[15]) jK jS ?_;refine ag (o:=ew) rfl (λK' J=> ?_) aab;have k7:w7.cell? ⟨R,22,none⟩=some lv:=T.out.cell 22;have f7:=T.out.frozen 22;have pY:Hid ((w7.setCell ⟨R,22,none⟩ (.slice (some ⟨g7,0,none⟩) (n+1) q7)).cell? ⟨B1,3,none⟩=some (.int .u32 D)):=(HC7.out.other (B':=R) hne 22 _).cell 3;have Vm:Hid (VX R base w0 (.slice ad 64 c) 0 p X s (w7.setCell ⟨R,22,none⟩ (.slice (some ⟨g7,0,none⟩) (n+1) q7))):=⟨VQ Ov.out (Aj w7 R 22 _) (λk e=>.inl (ax e).symm),v2,v3,_,n+1,_,jO,T.out.set 22 _,VR LM.out (λe=>YT LM.out T.out jD e)⟩;go_simp;clear hHeld;refine J.out _ _ pY.out (λhHeld=> ?_);clear J K';refine ama jK ?_ _;refine apf ?_;clear k4 k5 k7 f7;go_wp2_with fail;go_end0;exact⟨rfl,Vm.out⟩
 case an7=>
  go_simp;clear hHeld;refine J.out _ _ Jt.out (λhHeld=> ?_);clear J K';try simp only[Act.put,aS,aP,aQ]
  refine aaf (rs:=[5]) jK jS ?_;refine ag (o:=eH) rfl (λK' J=> ?_) aab;go_simp;refine J.out _ _ hHeld (λhHeld=> ?_);clear J K';try simp only[Act.put,aS,aP,aQ]
  refine aaf (rs:=[11]) jK jS ?_;refine ag (o:=eF) rfl (λK' J=> ?_) aab;refine Ys _ _ _ 94 jR base 3 i0 (.int .i64 0) 1 8 underlying94 XX SC Vo TD rfl jD lv n xs jR Z.out ⟨wd.heap.size,0,none⟩ 1 1 [.int .i64 D] jR rfl (Y1 rfl) (by simp[Value.oneCell']) (by unfold maxLen;omega) jO mD ?_;intro v' w7 C A;obtain⟨g7,q7,rfl,_,_⟩:=World.ownsRow.form C jO;have Ov:=aT (VQ Ee.out A (λk e=>.inr (by rw[<-v2];exact(Z.out.lt k e).1)));have T:=aT (Ce.out.kept A (λe=>YT Z.out Ce.out jD e.symm));have HC7:=aT (x9.out.kept A (λe=>YT Z.out x9.out jD e.symm));have LM:=aT C;have LN:Hid (w7.cell? ⟨B1,3,none⟩=some (.int .u32 D)):=HC7.out.cell 3;clear C A;clear hHeld;refine J.out _ _ LN.out (λhHeld=> ?_);clear J K';try simp only[Act.put,aS,aP,aQ]
  refine jT 12 eE ?_;try simp only[Act.put,aS,aP,aQ]
  refine jT 13 ez ?_;try simp only[Act.put,aS,aP,aQ]
  refine jT 14 ey ?_;try simp only[Act.put,aS,aP,aQ]
  refine aaf (rs:=[15]) jK jS ?_;refine ag (o:=ew) rfl (λK' J=> ?_) aab;have k7:w7.cell? ⟨R,22,none⟩=some lv:=T.out.cell 22;have f7:=T.out.frozen 22;have pY:Hid ((w7.setCell ⟨R,22,none⟩ (.slice (some ⟨g7,0,none⟩) (n+1) q7)).cell? ⟨B1,3,none⟩=some (.int .u32 D)):=(HC7.out.other (B':=R) hne 22 _).cell 3;have Vm:Hid (VX R base w0 (.slice ad 64 c) 0 p X s (w7.setCell ⟨R,22,none⟩ (.slice (some ⟨g7,0,none⟩) (n+1) q7))):=⟨VQ Ov.out (Aj w7 R 22 _) (λk e=>.inl (ax e).symm),v2,v3,_,n+1,_,jO,T.out.set 22 _,VR LM.out (λe=>YT LM.out T.out jD e)⟩;go_simp;clear hHeld;refine J.out _ _ pY.out (λhHeld=> ?_);clear J K';refine ama jK ?_ _;refine apf ?_;clear k4 k5 k7 f7;go_wp2_with fail;go_end0;exact⟨rfl,Vm.out⟩
end
end Go.Proofs.YtclgigmgbebhgaaGreatDoor
