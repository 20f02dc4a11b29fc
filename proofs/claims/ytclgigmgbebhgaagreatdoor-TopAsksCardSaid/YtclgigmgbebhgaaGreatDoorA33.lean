/- TopAsks: part 33: TopVm1. -/
import Derived.Defers
import Derived.Recover
import Derived.Shelf.Spec.TrailingZeros
import Derived.Test.YtclgigmgbebhgaaGreatDoorA27
set_option linter.unusedVariables false
set_option linter.unusedSimpArgs false
set_option maxRecDepth 100000
set_option maxHeartbeats 16000000
namespace Go.Proofs.YtclgigmgbebhgaaGreatDoor
open Tryz
open Go Go.Proofs Go.RowKit Go.Shelf
variable {R base q p a s:Nat} {vb:Value} {W W' w0:World}
@[go_sem] abbrev fx:Oper:=⟨some 28,.load 94 (.tmp 27),94,"vm.go:54",#[⟨4,.data⟩],none⟩
@[go_sem] abbrev fw:Oper:=⟨some 33,.buildSlice 94 1 #[(0,.tmp 32)],94,"vm.go:54",#[⟨9,.data⟩],none⟩
@[go_sem] abbrev fu:Oper:=⟨some 34,.call {callee:=.builtin .append,args:=#[.tmp 28,.tmp 33],argTypes:=#[94,94]},94,"vm.go:54",#[⟨5,.data⟩,⟨10,.data⟩],none⟩
@[go_sem] abbrev fq:Oper:=⟨some 35,.nilCheck (.tmp 23),0,"vm.go:54",#[⟨0,.data⟩,⟨0,.phase⟩,⟨1,.phase⟩,⟨2,.phase⟩,⟨3,.phase⟩,⟨4,.phase⟩,⟨5,.phase⟩,⟨6,.phase⟩,⟨7,.phase⟩,⟨8,.phase⟩,⟨9,.phase⟩,⟨10,.phase⟩,⟨11,.phase⟩],none⟩
@[go_sem] abbrev fp:Oper:=⟨some 36,.fieldAddr 245 (.tmp 35) 5,0,"vm.go:54",#[⟨12,.data⟩,⟨0,.phase⟩,⟨1,.phase⟩,⟨2,.phase⟩,⟨3,.phase⟩,⟨4,.phase⟩,⟨5,.phase⟩,⟨6,.phase⟩,⟨7,.phase⟩,⟨8,.phase⟩,⟨9,.phase⟩,⟨10,.phase⟩,⟨11,.phase⟩],none⟩
@[go_sem] abbrev fl:Oper:=⟨some 37,.fieldAddr 96 (.tmp 36) 2,0,"vm.go:54",#[⟨13,.data⟩,⟨0,.phase⟩,⟨1,.phase⟩,⟨2,.phase⟩,⟨3,.phase⟩,⟨4,.phase⟩,⟨5,.phase⟩,⟨6,.phase⟩,⟨7,.phase⟩,⟨8,.phase⟩,⟨9,.phase⟩,⟨10,.phase⟩,⟨11,.phase⟩],none⟩
@[go_sem] abbrev fj:Oper:=⟨none,.store 94 (.tmp 37) (.tmp 34),0,"vm.go:54",#[⟨14,.data⟩,⟨11,.data⟩,⟨11,.chain⟩,⟨0,.phase⟩,⟨1,.phase⟩,⟨2,.phase⟩,⟨3,.phase⟩,⟨4,.phase⟩,⟨5,.phase⟩,⟨6,.phase⟩,⟨7,.phase⟩,⟨8,.phase⟩,⟨9,.phase⟩,⟨10,.phase⟩,⟨11,.phase⟩],none⟩
abbrev vd:Nat:=245
abbrev U3:Nat:=242
def PY(c:Nat):Nat:=if c=0x20 then 187 else if c=0x54 then 120 else if c=0x05 then 199 else if c=0x06 then 200 else 119
def NQ(i:ZL):List Value:=[.int .u16 i.code,.int .u8 i.jt,.int .u8 i.jf,.int .u32 i.k,.func (.func (PY i.code)) #[] #[],.int .i64 (Zz i.code:Int),.bool false]
def Gn(vb:Value)(p a s:Nat)(lv:Value):Array Value:=#[vb,.int .i64 p,.int .u32 a,.int .u32 0,.int .u32 0,.int .u32 0,.int .u32 0,.int .u32 0,.int .u32 0,.int .u32 0,.int .u32 0,.int .u32 0,.int .u32 0,.int .u32 0,.int .u32 0,.int .u32 0,.int .u32 0,.int .u32 0,.int .u32 0,.int .u32 0,.int .u32 0,.int .i64 s,lv]
theorem pR (h:Below W.heap.size W W'):W.grownBy W' none:=⟨h.os,h.tape,h.output,h.size,λk hk _=>h.block k hk⟩
theorem AZ(W:World)(R j:Nat)(u:Value):W.grownBy (W.setCell ⟨R,j,none⟩ u) (some R):=⟨rfl,rfl,rfl,by show W.heap.size<=(W.heap.modify R _).size;rw[ate];exact aP _,λk _ hk=>afd W _ u k (λe=>hk (by rw[e]))⟩
theorem jC(W:World):W.grownBy W.drew none:=⟨rfl,rfl,rfl,aP _,λ_ _ _=>rfl⟩
theorem VQ{row:Option Nat}(h:w0.grownBy W (some R))(g:W.grownBy W' row)(hr:∀k,row=some k->k=R\/w0.heap.size<=k):w0.grownBy W' (some R):=
 ⟨g.os.trans h.os,g.tape.trans h.tape,g.output.trans h.output,aO h.size g.size,λi hi A=>(g.block i (acf hi h.size) (λe=>by
   rcases hr i e.symm with e2|e2;·exact A (by rw[e2])
   ·omega)).trans (h.block i hi A)⟩
def VZ(R base:Nat)(w0:World)(vb:Value)(q p a s:Nat)(W:World):Prop:=w0.grownBy W (some R)/\base=w0.heap.size/\R<base/\∃lv n xs,n+q<=s/\Z8 W R vd (Gn vb p a s lv)/\W.ownsRow base 3 1 lv n xs
theorem VZ.bl (h:VZ R base w0 vb q p a s W)(hb:Below W.heap.size W W'):VZ R base w0 vb q p a s W':=by
 obtain⟨I,D,T,C,n,xs,U,A,J⟩:=h;exact⟨VQ I (pR hb) (λk e=>by cases e),D,T,C,n,xs,U,A.below hb A.lt,ZF J hb⟩
theorem VZ.alloc (h:VZ R base w0 vb q p a s W)(o:Obj):VZ R base w0 vb q p a s (W.alloc o):=h.bl ((aG _ W).alloc (aP _) o)
theorem VZ.drew (h:VZ R base w0 vb q p a s W):VZ R base w0 vb q p a s W.drew:=by
 obtain⟨D,C,T,A,n,xs,U,J,I⟩:=h;exact⟨VQ D (jC W) (λk e=>by cases e),C,T,A,n,xs,U,J,I⟩
theorem VZ.less (h:VZ R base w0 vb (q+1) p a s W):VZ R base w0 vb q p a s W:=by
 obtain⟨D,C,T,A,n,xs,U,J,I⟩:=h;exact⟨D,C,T,A,n,xs,jO,J,I⟩
theorem VZ.set{q' p' a' s':Nat}(h:VZ R base w0 vb q p a s W)(j:Nat)(u:Value)(hc:∀A,(Gn vb p a s A).setIfInBounds j u=Gn vb p' a' s' A)(Y:∀n,n+q<=s->n+q'<=s'):VZ R base w0 vb q' p' a' s' (W.setCell ⟨R,j,none⟩ u):=by
 obtain⟨J,I,T,A,n,xs,U,D,C⟩:=h;refine⟨VQ J (AZ W R j u) (λk e=>.inl (au e).symm),I,T,A,n,xs,Y n U,?_,VR C (λe=>YU C D jD e)⟩;rw[<-hc];exact D.set j u
theorem VZ.cells (h:VZ R base w0 vb q p a s W):W.cell? ⟨R,0,none⟩=some vb/\W.cell? ⟨R,1,none⟩=some (.int .i64 p)/\W.cell? ⟨R,2,none⟩=some (.int .u32 a)/\W.cell? ⟨R,3,none⟩=some (.int .u32 0)/\W.cell? ⟨R,21,none⟩=some (.int .i64 s)/\∀j,W.frozen? ⟨R,j,none⟩=false:=by
 obtain⟨I,D,T,C,n,xs,U,A,J⟩:=h;exact⟨A.cell 0,A.cell 1,A.cell 2,A.cell 3,A.cell 21,A.frozen⟩
theorem VZ.lt (h:VZ R base w0 vb q p a s W):R<W.heap.size:=by
 obtain⟨I,D,T,C,n,xs,U,A,J⟩:=h;exact A.lt
theorem VZ.size (h:VZ R base w0 vb q p a s W):base<=W.heap.size:=by rw[h.2.1];exact h.1.size
theorem VZ.kept{B t:Nat}{cs:Array Value}(h:VZ R base w0 vb q p a s W)(C:Z8 w0 B t cs)(A:B≠R):Z8 W B t cs:=C.kept h.1 (λe=>A (au e))
theorem VZ.pQ{N:Nat}(h:VZ R base w0 vb q p a s W)(hN:N<=R):Below N w0 W:=(aG N w0).grown h.1 (aO hN (by have:=h.2.1;have:=h.2.2.1;omega)) (λk e=>by have:=au e;omega)
def Gm(R base:Nat)(w0:World)(vb:Value)(p a s:Nat):Ending->World->Prop:=λe w'=>e=.returned (.tuple #[])/\VZ R base w0 vb 0 p a s w'
section
variable {R base p a s:Nat} {w0:World} {vb:Value}
theorem Ik(i:ZL)(r:Addr)(w:World):Calls prog 202 #[.pointer (some r),.agg (NQ i).toArray] w λe w'=>e=.returned (.int .u32 i.k)/\Below w.heap.size w w':=by
 obtain⟨A,D,C,I⟩:=i;unfold NQ;dsimp only;have J:=Z8.new w U3 #[.int .u16 A,.int .u8 D,.int .u8 C,.int .u32 I,.func (.func (PY A)) #[] #[],.int .i64 (Zz A:Int),.bool false];obtain⟨_,_,_,Y,_,_,U⟩:=J.q7;have T:=aT ((aG w.heap.size w).alloc (aP _) (.cells #[.int .u16 A,.int .u8 D,.int .u8 C,.int .u32 I,.func (.func (PY A)) #[] #[],.int .i64 (Zz A:Int),.bool false] U3));clear J;go_enter func202,ntmps202;go_wp2_with fail;go_ret;exact⟨rfl,T.out⟩
theorem pP(i:ZL)(hp:p+i.k<=10000)(w:World)(h:VZ R base w0 vb 1 p a s w):Calls prog 199 #[.pointer (some ⟨R,0,none⟩),.agg (NQ i).toArray] w (Gm R base w0 vb (p+i.k) a s):=by
 obtain⟨C,I,D,A⟩:=i;unfold NQ;dsimp only at hp ⊢;have HB:=aT (Z8.new w U3 #[.int .u16 C,.int .u8 I,.int .u8 D,.int .u32 A,.func (.func (PY C)) #[] #[],.int .i64 (Zz C:Int),.bool false]);have U:=aT (h.alloc (.cells #[.int .u16 C,.int .u8 I,.int .u8 D,.int .u32 A,.func (.func (PY C)) #[] #[],.int .i64 (Zz C:Int),.bool false] U3));have hne:¬w.heap.size=R:=by have:=h.lt;omega
 have J:¬R=w.heap.size:=by have:=h.lt;omega
 have w1:IntKind.i64.wrap (A:Int)=(A:Int):=aJ _ jO;have w2:IntKind.i64.wrap ((p:Int)+(A:Int))=((p+A:Nat):Int):=by rw[aJ _ jO];omega
 clear h;go_enter func199,ntmps199;go_upto_region 1 with fail;generalize w.alloc (.cells #[.int .u16 C,.int .u8 I,.int .u8 D,.int .u32 A,.func (.func (PY C)) #[] #[],.int .i64 (Zz C:Int),.bool false] U3)=wa at*;generalize w.heap.size=B1 at*;have c3:=HB.out.e3;obtain⟨z0,z1,z2,z3,Z,Y⟩:=U.out.cells;have f1:=Y 1;clear z0 z2 z3 Z Y;have HF:Hid (VZ R base w0 vb 0 (p+A) a s (wa.setCell ⟨R,1,none⟩ (.int .i64 ((p+A:Nat):Int))).drew):=(U.out.set 1 (.int .i64 ((p+A:Nat):Int)) (λlv=>rfl) (λn hn=>jO)).drew;generalize p+A=T at*;go_region;go_wp2_with fail;go_end0;exact⟨rfl,HF.out⟩
theorem AY(i:ZL)(hb:YW i.code=true)(hp:p+i.jt<=10000/\p+i.jf<=10000)(w:World)(h:VZ R base w0 vb 1 p a s w)(ha:a<4294967296)(hk:i.k<4294967296):Calls prog 119 #[.pointer (some ⟨R,0,none⟩),.agg (NQ i).toArray] w (Gm R base w0 vb (p+(if YI i.code a i.k=true then i.jt else i.jf)) a s):=by
 obtain⟨Y,hT0⟩:∃T,p+(if YI i.code a i.k=true then i.jt else i.jf)=T:=⟨_,rfl⟩;rw[hT0];obtain⟨bt,hbt⟩:=jX (YI i.code a i.k);rw[hbt] at hT0;obtain⟨Z,D,C,I⟩:=i;have HO:=aT (λW=>Ik ⟨Z,D,C,I⟩ ⟨R,0,none⟩ W);unfold NQ at HO ⊢;dsimp only at*;have HB:=aT (Z8.new w U3 #[.int .u16 Z,.int .u8 D,.int .u8 C,.int .u32 I,.func (.func (PY Z)) #[] #[],.int .i64 (Zz Z:Int),.bool false]);have HS:=aT (h.alloc (.cells #[.int .u16 Z,.int .u8 D,.int .u8 C,.int .u32 I,.func (.func (PY Z)) #[] #[],.int .i64 (Zz Z:Int),.bool false] U3));have hne:¬w.heap.size=R:=by have:=h.lt;omega
 have bU:¬R=w.heap.size:=by have:=h.lt;omega
 clear h;obtain⟨mS,ui⟩:=hp;have J:=aT hbt;have U:=aT hT0;have HIB:=aT hb;clear hbt hT0 hb;have w1:IntKind.i64.wrap (D:Int)=(D:Int):=aJ _ jO;have w2:IntKind.i64.wrap ((p:Int)+(D:Int))=((p+D:Nat):Int):=by rw[aJ _ jO];omega
 have w3:IntKind.i64.wrap (C:Int)=(C:Int):=aJ _ jO;have w4:IntKind.i64.wrap ((p:Int)+(C:Int))=((p+C:Nat):Int):=by rw[aJ _ jO];omega
 go_enter func119,ntmps119;go_upto_region 1 with fail;generalize w.alloc (.cells #[.int .u16 Z,.int .u8 D,.int .u8 C,.int .u32 I,.func (.func (PY Z)) #[] #[],.int .i64 (Zz Z:Int),.bool false] U3)=wa at*;generalize w.heap.size=B1 at*;have lay:∀wx:World,Below wa.heap.size wa wx->Hid (Z8 wx B1 U3 #[.int .u16 Z,.int .u8 D,.int .u8 C,.int .u32 I,.func (.func (PY Z)) #[] #[],.int .i64 (Zz Z:Int),.bool false])/\Hid (VZ R base w0 vb 1 p a s wx):=λwx hb=>⟨HB.out.below hb HB.out.lt,HS.out.bl hb⟩
 have LAY:=aT lay;clear lay;obtain⟨c0,c1,c2,c3,c4,c5,c6⟩:=HB.out.q7;go_wp2_with fail;refine(HO.out wa).mono ?_;rintro e wx ⟨rfl,cE⟩;obtain⟨X1,QN⟩:=LAY.out wx cE;clear cE c0 c1 c2 c3 c4 c5 c6 HB HS LAY HO;obtain⟨_,c1,c2,_,_,c5⟩:=X1.out.q6;obtain⟨z0,z1,z2,z3,z4,zf⟩:=QN.out.cells;have f1:=zf 1;clear z0 z3 z4 zf;have HF:Hid (∀T:Nat,VZ R base w0 vb 0 T a s (wx.setCell ⟨R,1,none⟩ (.int .i64 T)).drew):=λT=>(QN.out.set 1 (.int .i64 T) (λlv=>rfl) (λn hn=>jO)).drew
 have hb:=HIB.out;unfold YW at hb;simp only[asg,ahc] at hb;clear HIB;rcases hb with((rfl|rfl)|rfl)|rfl
 ·rw[show Zz 21=25 from rfl] at c5;change _=some (Value.int .i64 25) at c5;cases bt with
  |true=>
   obtain rfl:a=I:=by simpa [YI] using J.out
   have hx:((a:Int) == (a:Int))=true:=jS;have A:p+D=Y:=U.out;rw[A] at w2;clear A;go_wp2_with fail;go_region;go_wp2_with fail;go_end0;exact⟨rfl,HF.out Y⟩
  |false=>
   have hn:¬(a:Int)=(I:Int):=by have:=J.out;simp[YI] at this;omega
   have hx:((a:Int) == (I:Int))=false:=by rw[af];exact hn
   have A:p+C=Y:=U.out;rw[A] at w4;clear A;go_wp2_with fail;go_region;go_wp2_with fail;go_end0;exact⟨rfl,HF.out Y⟩
 ·rw[show Zz 37=26 from rfl] at c5;change _=some (Value.int .i64 26) at c5;cases bt with
  |true=>
   have hx:(I:Int)<(a:Int):=by have:=J.out;simp[YI] at this;omega
   have A:p+D=Y:=U.out;rw[A] at w2;clear A;go_wp2_with fail;go_region;go_wp2_with fail;go_end0;exact⟨rfl,HF.out Y⟩
  |false=>
   have hx:¬(I:Int)<(a:Int):=by have:=J.out;simp[YI] at this;omega
   have A:p+C=Y:=U.out;rw[A] at w4;clear A;go_wp2_with fail;go_region;go_wp2_with fail;go_end0;exact⟨rfl,HF.out Y⟩
 ·rw[show Zz 53=27 from rfl] at c5;change _=some (Value.int .i64 27) at c5;cases bt with
  |true=>
   have hx:(I:Int)<=(a:Int):=by have:=J.out;simp[YI] at this;omega
   have A:p+D=Y:=U.out;rw[A] at w2;clear A;go_wp2_with fail;go_region;go_wp2_with fail;go_end0;exact⟨rfl,HF.out Y⟩
  |false=>
   have hx:¬(I:Int)<=(a:Int):=by have:=J.out;simp[YI] at this;omega
   have A:p+C=Y:=U.out;rw[A] at w4;clear A;go_wp2_with fail;go_region;go_wp2_with fail;go_end0;exact⟨rfl,HF.out Y⟩
 ·rw[show Zz 69=28 from rfl] at c5;change _=some (Value.int .i64 28) at c5;have wx:bits .and .u32 (a:Int) (I:Int)=((a &&& I:Nat):Int):=bits_and_u32_nat _ _ ha hk;cases bt with
  |true=>
   have hz:¬(a &&& I)=0:=by have:=J.out;simpa [YI] using this
   generalize a &&& I=X at*;have hn:¬(X:Int)=0:=jO;have hx:((X:Int) == 0)=false:=by rw[af];exact hn
   have hy:((X:Int) != 0)=true:=by simp;omega
   have A:p+D=Y:=U.out;rw[A] at w2;clear A;go_wp2_with fail;go_region;go_wp2_with fail;go_end0;exact⟨rfl,HF.out Y⟩
  |false=>
   have hz:(a &&& I)=0:=by have:=J.out;simpa [YI] using this
   rw[hz] at wx;have A:p+C=Y:=U.out;rw[A] at w4;clear A;go_wp2_with fail;go_region;go_wp2_with fail;go_end0;exact⟨rfl,HF.out Y⟩
theorem jB(i:ZL)(hc:i.code=0x54)(w:World)(h:VZ R base w0 vb 1 p a s w)(ha:a<4294967296)(hk:i.k<4294967296):Calls prog 120 #[.pointer (some ⟨R,0,none⟩),.agg (NQ i).toArray] w (Gm R base w0 vb p (a &&& i.k) s):=by
 obtain⟨A,D,C,I⟩:=i;have HO:=aT (λW=>Ik ⟨A,D,C,I⟩ ⟨R,0,none⟩ W);unfold NQ at HO ⊢;dsimp only at*;have HB:=aT (Z8.new w U3 #[.int .u16 A,.int .u8 D,.int .u8 C,.int .u32 I,.func (.func (PY A)) #[] #[],.int .i64 (Zz A:Int),.bool false]);have HS:=aT (h.alloc (.cells #[.int .u16 A,.int .u8 D,.int .u8 C,.int .u32 I,.func (.func (PY A)) #[] #[],.int .i64 (Zz A:Int),.bool false] U3));have hne:¬w.heap.size=R:=by have:=h.lt;omega
 have bU:¬R=w.heap.size:=by have:=h.lt;omega
 clear h;have HCC:=aT hc;clear hc;go_enter func120,ntmps120;go_upto_region 1 with fail;generalize w.alloc (.cells #[.int .u16 A,.int .u8 D,.int .u8 C,.int .u32 I,.func (.func (PY A)) #[] #[],.int .i64 (Zz A:Int),.bool false] U3)=wa at*;generalize w.heap.size=B1 at*;have lay:∀J:World,Below wa.heap.size wa J->Hid (Z8 J B1 U3 #[.int .u16 A,.int .u8 D,.int .u8 C,.int .u32 I,.func (.func (PY A)) #[] #[],.int .i64 (Zz A:Int),.bool false])/\Hid (VZ R base w0 vb 1 p a s J):=λJ hb=>⟨HB.out.below hb HB.out.lt,HS.out.bl hb⟩
 have T:=aT lay;clear lay;obtain⟨c0,c1,c2,c3,c4,Z,c6⟩:=HB.out.q7;go_wp2_with fail;refine(HO.out wa).mono ?_;rintro e J ⟨rfl,Y⟩;obtain⟨X1,U⟩:=T.out J Y;clear Y c0 c1 c2 c3 c4 Z c6 HB HS T HO;have Z:=X1.out.e5;obtain⟨z0,z1,z2,z3,z4,zf⟩:=U.out.cells;have f2:=zf 2;clear z0 z1 z3 z4 zf;obtain rfl:A=0x54:=HCC.out;rw[show Zz 84=21 from rfl] at Z;change _=some (Value.int .i64 21) at Z;have wy:bits .and .u32 (a:Int) (I:Int)=((a &&& I:Nat):Int):=bits_and_u32_nat _ _ ha hk;generalize a &&& I=X at*;have HF:Hid (VZ R base w0 vb 0 p X s (J.setCell ⟨R,2,none⟩ (.int .u32 X))):=U.out.set 2 (.int .u32 X) (λlv=>rfl) (λn hn=>jO);go_wp2_with fail;go_end0;exact⟨rfl,HF.out⟩
def Ke(v:Nat):List PanicEntry:=[{v:=.iface 247 (.agg #[.int .u32 v]),recovered:=false}]
theorem pO(i:ZL)(w:World)(h:VZ R base w0 vb 1 p a s w):Calls prog 200 #[.pointer (some ⟨R,0,none⟩),.agg (NQ i).toArray] w λe w'=>e=.panicked (Ke i.k)/\VZ R base w0 vb 0 p a s w':=by
 obtain⟨A,D,C,I⟩:=i;unfold NQ Ke;dsimp only at*;have J:=Z8.new w U3 #[.int .u16 A,.int .u8 D,.int .u8 C,.int .u32 I,.func (.func (PY A)) #[] #[],.int .i64 (Zz A:Int),.bool false];have T:=aT (h.alloc (.cells #[.int .u16 A,.int .u8 D,.int .u8 C,.int .u32 I,.func (.func (PY A)) #[] #[],.int .i64 (Zz A:Int),.bool false] U3)).less;have U:=J.e3;clear h J;go_enter func200,ntmps200;go_wp2;exact⟨rfl,rfl,T.out⟩
theorem al2:(prog.info? 3).map (λi=>(i.zero,i.size,i.bytes))=some (some (.int .i64 0),1,8):=jK
theorem u6q{N c:Nat}{ad:Option Addr}{bs:List Nat}(hl:bs.length=64)(Gx:∀b∈bs,b<256)(i:ZL)(hk:i.k%4=0/\i.k<64)(hs:s<=100000)(w:World)(hm:X7 N w ad bs)(hN:N<=base)(h:VZ R base w0 (.slice ad 64 c) 1 p a s w):Calls prog 187 #[.pointer (some ⟨R,0,none⟩),.agg (NQ i).toArray] w (Gm R base w0 (.slice ad 64 c) p (YS bs i.k) s):=by
 have hW:YS bs i.k<4294967296:=Ko Gx i.k;have HG:Hid (∀W,Below w.heap.size w W->Calls prog 63 #[.slice ad 64 c,.int .i64 i.k,.int .i64 4,.bool false] W λe w'=>e=.returned (.tuple #[.int .u64 (YS bs i.k:Int),.int .i64 0])/\Below W.heap.size W w'):=λW hW=>by have hsz:=h.size;have:=Gy (L:=64) (c:=c) (at_:=i.k) (k:=4) (.inr rfl) hl jO jO Gx W (hm.below hW (aO hN hsz)) (aO (aO hN hsz) hW.size);rwa [qH] at this
 obtain⟨I,Z,Y,D⟩:=i;unfold NQ;dsimp only at*;have HB:=aT (Z8.new w U3 #[.int .u16 I,.int .u8 Z,.int .u8 Y,.int .u32 D,.func (.func (PY I)) #[] #[],.int .i64 (Zz I:Int),.bool false]);have HS:=aT (h.alloc (.cells #[.int .u16 I,.int .u8 Z,.int .u8 Y,.int .u32 D,.func (.func (PY I)) #[] #[],.int .i64 (Zz I:Int),.bool false] U3));have lY:=aT ((aG w.heap.size w).alloc (aP _) (.cells #[.int .u16 I,.int .u8 Z,.int .u8 Y,.int .u32 D,.func (.func (PY I)) #[] #[],.int .i64 (Zz I:Int),.bool false] U3));have hne:¬w.heap.size=R:=by have:=h.lt;omega
 have bU:¬R=w.heap.size:=by have:=h.lt;omega
 have hbs:=h.size;clear h hm hl Gx;obtain⟨uz,hk2⟩:=hk;generalize YS bs D=X at*;have w1:IntKind.i64.wrap (D:Int)=(D:Int):=aJ _ jO;have w2:IntKind.u32.wrap (X:Int)=(X:Int):=awf _ jO;clear uz;go_enter func187,ntmps187;go_upto_region 1 with fail;have HGa:=aT (HG.out (w.alloc (.cells #[.int .u16 I,.int .u8 Z,.int .u8 Y,.int .u32 D,.func (.func (PY I)) #[] #[],.int .i64 (Zz I:Int),.bool false] U3)).drew lY.out.drew);clear HG;have ew:=HB.out.lt;generalize w.alloc (.cells #[.int .u16 I,.int .u8 Z,.int .u8 Y,.int .u32 D,.func (.func (PY I)) #[] #[],.int .i64 (Zz I:Int),.bool false] U3)=wa at*;generalize w.heap.size=B1 at*;obtain⟨z0,z1,z2,z3,z4,zf⟩:=HS.out.cells;have c3:=HB.out.e3;have Um:Hid (wa.drew.cell? ⟨R,0,none⟩=some (.slice ad 64 c)/\wa.drew.cell? ⟨B1,3,none⟩=some (.int .u32 D)):=⟨z0,c3⟩;have mL:=aT HS.out.drew;have cX:Hid (Z8 wa.drew B1 U3 #[.int .u16 I,.int .u8 Z,.int .u8 Y,.int .u32 D,.func (.func (PY I)) #[] #[],.int .i64 (Zz I:Int),.bool false]):=HB.out;have HSg:Hid (∀w',Below wa.drew.heap.size wa.drew w'->w'.cell? ⟨R,0,none⟩=some (.slice ad 64 c)/\w'.cell? ⟨B1,3,none⟩=some (.int .u32 D)):=λw' hb=>⟨(mL.out.bl hb).cells.1,((cX.out.below hb cX.out.lt).cell 3)⟩
 clear z0 z1 z2 z3 z4 zf c3 HS HB
 go_region_held3 (λw'=>w'.cell? ⟨R,0,none⟩=some (.slice ad 64 c)/\w'.cell? ⟨B1,3,none⟩=some (.int .u32 D)) (first|exact Um.out|exact HSg.out _ (ajc jA)) (first
  |(go_at_call 63;refine HGa.out.mono ?_;rintro e wg ⟨rfl,hbg⟩;have HBG:Hid (Below wa.drew.heap.size wa.drew wg):=aT hbg;clear hbg))
 have X1:=aT (cX.out.below HBG.out cX.out.lt);have QN:=aT ((mL.out.bl HBG.out).set 2 (.int .u32 X) (a':=X) (λlv=>rfl) (λn hn=>hn));have Ul:Hid (Z8 (wg.setCell ⟨R,2,none⟩ (.int .u32 X)) B1 U3 #[.int .u16 I,.int .u8 Z,.int .u8 Y,.int .u32 D,.func (.func (PY I)) #[] #[],.int .i64 (Zz I:Int),.bool false]):=X1.out.other hne 2 _;have z2:wg.cell? ⟨R,2,none⟩=some (.int .u32 a):=(mL.out.bl HBG.out).cells.2.2.1;have f2:wg.frozen? ⟨R,2,none⟩=false:=(mL.out.bl HBG.out).cells.2.2.2.2.2 2;clear X1 cX mL Um HSg HGa HBG lY;go_upto_region 3 with fail;generalize wg.setCell ⟨R,2,none⟩ (.int .u32 X)=wb at*;obtain⟨v1,v2,v3,lv,n,xs,v4,v5,v6⟩:=QN.out.drew;have HV1:=aT v1;have HV5:=aT v5;have uk:=aT v6;have FX:Hid (Z8 wb.drew B1 U3 #[.int .u16 I,.int .u8 Z,.int .u8 Y,.int .u32 D,.func (.func (PY I)) #[] #[],.int .i64 (Zz I:Int),.bool false]):=Ul.out;have Um:Hid (wb.drew.cell? ⟨B1,3,none⟩=some (.int .u32 D)):=FX.out.cell 3;obtain⟨i0,XW,SC,Vo,TF⟩:=ZQ al2;clear v1 v5 v6 QN Ul z2 f2;refine amd ?_;refine agc (S:=λw'=>w'.cell? ⟨B1,3,none⟩=some (.int .u32 D)) jK Um.out (λhHeld=> ?_);generalize wb.drew=wd at*;refine jT 0 ⟨some 23,.move (.tmp 0),240,"vm.go:54",#[],none⟩ ?_;try simp only[Act.put,aS,aQ,aR]
 refine jT 1 ⟨some 24,.move (.tmp 0),240,"vm.go:54",#[],none⟩ ?_;try simp only[Act.put,aS,aQ,aR]
 refine jT 2 ⟨some 25,.nilCheck (.tmp 24),0,"vm.go:54",#[⟨1,.data⟩],none⟩ ?_;try simp only[Act.put,aS,aQ,aR]
 refine jT 3 ⟨some 26,.fieldAddr 245 (.tmp 25) 5,0,"vm.go:54",#[⟨2,.data⟩],none⟩ ?_;try simp only[Act.put,aS,aQ,aR]
 refine jT 4 ⟨some 27,.fieldAddr 96 (.tmp 26) 2,0,"vm.go:54",#[⟨3,.data⟩],none⟩ ?_;try simp only[Act.put,aS,aQ,aR]
 refine jT 6 ⟨some 29,.fieldAddr 242 (.tmp 3) 0,0,"vm.go:54",#[],none⟩ ?_;try simp only[Act.put,aS,aQ,aR]
 refine jT 7 ⟨some 30,.fieldAddr 166 (.tmp 29) 3,0,"vm.go:54",#[⟨6,.data⟩],none⟩ ?_;try simp only[Act.put,aS,aQ,aR]
 refine jT 8 ⟨some 31,.load 53 (.tmp 30),53,"vm.go:54",#[⟨7,.data⟩],none⟩ ?_;try simp only[Act.put,aS,aQ,aR]
 refine jT 9 ⟨some 32,.convert 53 3 (.tmp 31),3,"vm.go:54",#[⟨8,.data⟩],none⟩ ?_;try simp only[Act.put,aS,aQ,aR]
 have EE:=aT (VQ HV1.out (aeb wd (.cells #[.int .i64 D] 3) none) (λk e=>by cases e));have CP:=aT (HV5.out.alloc (.cells #[.int .i64 D] 3));have U:=aT (ZF uk.out ((aG wd.heap.size wd).alloc (aP _) (.cells #[.int .i64 D] 3)));have yz:=aT (FX.out.alloc (.cells #[.int .i64 D] 3));have JM:Hid ((wd.alloc (.cells #[.int .i64 D] 3)).cell? ⟨B1,3,none⟩=some (.int .u32 D)):=yz.out.cell 3;have mN:base<=(wd.alloc (.cells #[.int .i64 D] 3)).heap.size:=by rw[v2];exact EE.out.size
 have k4:wd.cell? ⟨R,22,none⟩=some lv:=HV5.out.cell 22;have k5:(wd.alloc (.cells #[.int .i64 D] 3)).cell? ⟨R,22,none⟩=some lv:=CP.out.cell 22;refine aag (rs:=[5,10]) jK jS ?_;refine ae (o:=fx) rfl (λK' J=> ?ax6) (ae (o:=fw) rfl (λK' J=> ?al3) aad)
 case ax6=>
  go_simp;refine J.out _ _ hHeld (λhHeld=> ?_);clear J K';try simp only[Act.put,aS,aQ,aR]
  refine aag (rs:=[10]) jK jS ?_;refine ae (o:=fw) rfl (λK' J=> ?_) aad;go_simp;clear hHeld;refine J.out _ _ JM.out (λhHeld=> ?_);clear J K';try simp only[Act.put,aS,aQ,aR]
  refine aag (rs:=[11]) jK jS ?_;refine ae (o:=fu) rfl (λK' J=> ?_) aad;refine Yb _ _ _ 94 jR base 3 i0 (.int .i64 0) 1 8 underlying94 XW SC Vo TF rfl jD lv n xs jR U.out ⟨wd.heap.size,0,none⟩ 1 1 [.int .i64 D] jR rfl (Y1 rfl) (by simp[Value.oneCell']) (by unfold maxLen;omega) jO mN ?_;intro v' w7 C A;obtain⟨g7,q7,rfl,_,_⟩:=World.ownsRow.form C jO;have OA:=aT (VQ EE.out A (λk e=>.inr (by rw[<-v2];exact(U.out.lt k e).1)));have T:=aT (CP.out.kept A (λe=>YU U.out CP.out jD e.symm));have HC7:=aT (yz.out.kept A (λe=>YU U.out yz.out jD e.symm));have L4:=aT C;have L5:Hid (w7.cell? ⟨B1,3,none⟩=some (.int .u32 D)):=HC7.out.cell 3;clear C A;clear hHeld;refine J.out _ _ L5.out (λhHeld=> ?_);clear J K';try simp only[Act.put,aS,aQ,aR]
  refine jT 12 fq ?_;try simp only[Act.put,aS,aQ,aR]
  refine jT 13 fp ?_;try simp only[Act.put,aS,aQ,aR]
  refine jT 14 fl ?_;try simp only[Act.put,aS,aQ,aR]
  refine aag (rs:=[15]) jK jS ?_;refine ae (o:=fj) rfl (λK' J=> ?_) aad;have k7:w7.cell? ⟨R,22,none⟩=some lv:=T.out.cell 22;have f7:=T.out.frozen 22;have qz:Hid ((w7.setCell ⟨R,22,none⟩ (.slice (some ⟨g7,0,none⟩) (n+1) q7)).cell? ⟨B1,3,none⟩=some (.int .u32 D)):=(HC7.out.other (B':=R) hne 22 _).cell 3;have Sl:Hid (VZ R base w0 (.slice ad 64 c) 0 p X s (w7.setCell ⟨R,22,none⟩ (.slice (some ⟨g7,0,none⟩) (n+1) q7))):=⟨VQ OA.out (AZ w7 R 22 _) (λk e=>.inl (au e).symm),v2,v3,_,n+1,_,jO,T.out.set 22 _,VR L4.out (λe=>YU L4.out T.out jD e)⟩;go_simp;clear hHeld;refine J.out _ _ qz.out (λhHeld=> ?_);clear J K';refine akc jK ?_ _;refine ame ?_;clear k4 k5 k7 f7;go_wp2_with fail;go_end0;exact⟨rfl,Sl.out⟩
 case al3=>
  go_simp;clear hHeld;refine J.out _ _ JM.out (λhHeld=> ?_);clear J K';try simp only[Act.put,aS,aQ,aR]
  refine aag (rs:=[5]) jK jS ?_;refine ae (o:=fx) rfl (λK' J=> ?_) aad;go_simp;refine J.out _ _ hHeld (λhHeld=> ?_);clear J K';try simp only[Act.put,aS,aQ,aR]
  refine aag (rs:=[11]) jK jS ?_;refine ae (o:=fu) rfl (λK' J=> ?_) aad;refine Yb _ _ _ 94 jR base 3 i0 (.int .i64 0) 1 8 underlying94 XW SC Vo TF rfl jD lv n xs jR U.out ⟨wd.heap.size,0,none⟩ 1 1 [.int .i64 D] jR rfl (Y1 rfl) (by simp[Value.oneCell']) (by unfold maxLen;omega) jO mN ?_;intro v' w7 C A;obtain⟨g7,q7,rfl,_,_⟩:=World.ownsRow.form C jO;have OA:=aT (VQ EE.out A (λk e=>.inr (by rw[<-v2];exact(U.out.lt k e).1)));have T:=aT (CP.out.kept A (λe=>YU U.out CP.out jD e.symm));have HC7:=aT (yz.out.kept A (λe=>YU U.out yz.out jD e.symm));have L4:=aT C;have L5:Hid (w7.cell? ⟨B1,3,none⟩=some (.int .u32 D)):=HC7.out.cell 3;clear C A;clear hHeld;refine J.out _ _ L5.out (λhHeld=> ?_);clear J K';try simp only[Act.put,aS,aQ,aR]
  refine jT 12 fq ?_;try simp only[Act.put,aS,aQ,aR]
  refine jT 13 fp ?_;try simp only[Act.put,aS,aQ,aR]
  refine jT 14 fl ?_;try simp only[Act.put,aS,aQ,aR]
  refine aag (rs:=[15]) jK jS ?_;refine ae (o:=fj) rfl (λK' J=> ?_) aad;have k7:w7.cell? ⟨R,22,none⟩=some lv:=T.out.cell 22;have f7:=T.out.frozen 22;have qz:Hid ((w7.setCell ⟨R,22,none⟩ (.slice (some ⟨g7,0,none⟩) (n+1) q7)).cell? ⟨B1,3,none⟩=some (.int .u32 D)):=(HC7.out.other (B':=R) hne 22 _).cell 3;have Sl:Hid (VZ R base w0 (.slice ad 64 c) 0 p X s (w7.setCell ⟨R,22,none⟩ (.slice (some ⟨g7,0,none⟩) (n+1) q7))):=⟨VQ OA.out (AZ w7 R 22 _) (λk e=>.inl (au e).symm),v2,v3,_,n+1,_,jO,T.out.set 22 _,VR L4.out (λe=>YU L4.out T.out jD e)⟩;go_simp;clear hHeld;refine J.out _ _ qz.out (λhHeld=> ?_);clear J K';refine akc jK ?_ _;refine ame ?_;clear k4 k5 k7 f7;go_wp2_with fail;go_end0;exact⟨rfl,Sl.out⟩
end
end Go.Proofs.YtclgigmgbebhgaaGreatDoor
