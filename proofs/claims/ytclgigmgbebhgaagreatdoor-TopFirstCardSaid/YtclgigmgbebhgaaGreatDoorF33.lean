/- TopFirst: part 33: TopVm1. -/
import Derived.Defers
import Derived.Recover
import Derived.Shelf.Spec.TrailingZeros
import Derived.Test.YtclgigmgbebhgaaGreatDoorF27
set_option linter.unusedVariables false
set_option linter.unusedSimpArgs false
set_option maxRecDepth 100000
set_option maxHeartbeats 16000000
namespace Go.Proofs.YtclgigmgbebhgaaGreatDoor
open Tryz
open Go Go.Proofs Go.RowKit Go.Shelf
variable {R base q a:Nat} {vb:Value} {W W' w0:World}
@[go_sem] abbrev eZ:Oper:=⟨some 28,.load 94 (.tmp 27),94,"vm.go:54",#[⟨4,.data⟩],none⟩
@[go_sem] abbrev eY:Oper:=⟨some 33,.buildSlice 94 1 #[(0,.tmp 32)],94,"vm.go:54",#[⟨9,.data⟩],none⟩
@[go_sem] abbrev eX:Oper:=⟨some 34,.call {callee:=.builtin .append,args:=#[.tmp 28,.tmp 33],argTypes:=#[94,94]},94,"vm.go:54",#[⟨5,.data⟩,⟨10,.data⟩],none⟩
@[go_sem] abbrev eW:Oper:=⟨some 35,.nilCheck (.tmp 23),0,"vm.go:54",#[⟨0,.data⟩,⟨0,.phase⟩,⟨1,.phase⟩,⟨2,.phase⟩,⟨3,.phase⟩,⟨4,.phase⟩,⟨5,.phase⟩,⟨6,.phase⟩,⟨7,.phase⟩,⟨8,.phase⟩,⟨9,.phase⟩,⟨10,.phase⟩,⟨11,.phase⟩],none⟩
@[go_sem] abbrev eV:Oper:=⟨some 36,.fieldAddr 245 (.tmp 35) 5,0,"vm.go:54",#[⟨12,.data⟩,⟨0,.phase⟩,⟨1,.phase⟩,⟨2,.phase⟩,⟨3,.phase⟩,⟨4,.phase⟩,⟨5,.phase⟩,⟨6,.phase⟩,⟨7,.phase⟩,⟨8,.phase⟩,⟨9,.phase⟩,⟨10,.phase⟩,⟨11,.phase⟩],none⟩
@[go_sem] abbrev eU:Oper:=⟨some 37,.fieldAddr 96 (.tmp 36) 2,0,"vm.go:54",#[⟨13,.data⟩,⟨0,.phase⟩,⟨1,.phase⟩,⟨2,.phase⟩,⟨3,.phase⟩,⟨4,.phase⟩,⟨5,.phase⟩,⟨6,.phase⟩,⟨7,.phase⟩,⟨8,.phase⟩,⟨9,.phase⟩,⟨10,.phase⟩,⟨11,.phase⟩],none⟩
@[go_sem] abbrev eT:Oper:=⟨none,.store 94 (.tmp 37) (.tmp 34),0,"vm.go:54",#[⟨14,.data⟩,⟨11,.data⟩,⟨11,.chain⟩,⟨0,.phase⟩,⟨1,.phase⟩,⟨2,.phase⟩,⟨3,.phase⟩,⟨4,.phase⟩,⟨5,.phase⟩,⟨6,.phase⟩,⟨7,.phase⟩,⟨8,.phase⟩,⟨9,.phase⟩,⟨10,.phase⟩,⟨11,.phase⟩],none⟩
abbrev uH:Nat:=245
abbrev UL:Nat:=242
def Px(c:Nat):Nat:=if c=0x20 then 187 else if c=0x54 then 120 else if c=0x05 then 199 else if c=0x06 then 200 else 119
def Nu(i:ZN):List Value:=[.int .u16 i.code,.int .u8 i.jt,.int .u8 i.jf,.int .u32 i.k,.func (.func (Px i.code)) #[] #[],.int .i64 (Zx i.code:Int),.bool false]
def FT(vb:Value)(p a s:Nat)(lv:Value):Array Value:=#[vb,.int .i64 p,.int .u32 a,.int .u32 0,.int .u32 0,.int .u32 0,.int .u32 0,.int .u32 0,.int .u32 0,.int .u32 0,.int .u32 0,.int .u32 0,.int .u32 0,.int .u32 0,.int .u32 0,.int .u32 0,.int .u32 0,.int .u32 0,.int .u32 0,.int .u32 0,.int .u32 0,.int .i64 s,lv]
theorem oV (h:Below W.heap.size W W'):W.grownBy W' none:=⟨h.os,h.tape,h.output,h.size,λk hk _=>h.block k hk⟩
theorem Al(W:World)(R j:Nat)(u:Value):W.grownBy (W.setCell ⟨R,j,none⟩ u) (some R):=⟨rfl,rfl,rfl,by show W.heap.size<=(W.heap.modify R _).size;rw[atf];exact aR _,λk _ hk=>afc W _ u k (λe=>hk (by rw[e]))⟩
theorem jr(W:World):W.grownBy W.drew none:=⟨rfl,rfl,rfl,aR _,λ_ _ _=>rfl⟩
theorem VG{row:Option Nat}(h:w0.grownBy W (some R))(g:W.grownBy W' row)(hr:∀k,row=some k->k=R\/w0.heap.size<=k):w0.grownBy W' (some R):=
 ⟨g.os.trans h.os,g.tape.trans h.tape,g.output.trans h.output,aO h.size g.size,λi hi C=>(g.block i (adg hi h.size) (λe=>by
   rcases hr i e.symm with e2|e2;·exact C (by rw[e2])
   ·omega)).trans (h.block i hi C)⟩
def VO(R base:Nat)(w0:World)(vb:Value)(q p a s:Nat)(W:World):Prop:=w0.grownBy W (some R)/\base=w0.heap.size/\R<base/\∃lv n xs,n+q<=s/\Z7 W R uH (FT vb p a s lv)/\W.ownsRow base 3 1 lv n xs
theorem VO.bl{p s:Nat}(h:VO R base w0 vb q p a s W)(hb:Below W.heap.size W W'):VO R base w0 vb q p a s W':=by
 obtain⟨Y,J,D,I,n,xs,U,C,T⟩:=h;exact⟨VG Y (oV hb) (λk e=>by cases e),J,D,I,n,xs,U,C.below hb C.lt,ZC T hb⟩
theorem VO.alloc{p s:Nat}(h:VO R base w0 vb q p a s W)(o:Obj):VO R base w0 vb q p a s (W.alloc o):=h.bl ((aG _ W).alloc (aR _) o)
theorem VO.drew{p s:Nat}(h:VO R base w0 vb q p a s W):VO R base w0 vb q p a s W.drew:=by
 obtain⟨Y,I,C,D,n,xs,U,T,J⟩:=h;exact⟨VG Y (jr W) (λk e=>by cases e),I,C,D,n,xs,U,T,J⟩
theorem VO.less{p s:Nat}(h:VO R base w0 vb (q+1) p a s W):VO R base w0 vb q p a s W:=by
 obtain⟨U,I,C,D,n,xs,Y,T,J⟩:=h;exact⟨U,I,C,D,n,xs,jO,T,J⟩
theorem VO.set{p s q' p' a' s':Nat}(h:VO R base w0 vb q p a s W)(j:Nat)(u:Value)(hc:∀C,(FT vb p a s C).setIfInBounds j u=FT vb p' a' s' C)(Z:∀n,n+q<=s->n+q'<=s'):VO R base w0 vb q' p' a' s' (W.setCell ⟨R,j,none⟩ u):=by
 obtain⟨Y,T,J,C,n,xs,U,I,D⟩:=h;refine⟨VG Y (Al W R j u) (λk e=>.inl (aq e).symm),T,J,C,n,xs,Z n U,?_,VI D (λe=>YQ D I jD e)⟩;rw[<-hc];exact I.set j u
theorem VO.cells{p s:Nat}(h:VO R base w0 vb q p a s W):W.cell? ⟨R,0,none⟩=some vb/\W.cell? ⟨R,1,none⟩=some (.int .i64 p)/\W.cell? ⟨R,2,none⟩=some (.int .u32 a)/\W.cell? ⟨R,3,none⟩=some (.int .u32 0)/\W.cell? ⟨R,21,none⟩=some (.int .i64 s)/\∀j,W.frozen? ⟨R,j,none⟩=false:=by
 obtain⟨Y,J,D,I,n,xs,U,C,T⟩:=h;exact⟨C.cell 0,C.cell 1,C.cell 2,C.cell 3,C.cell 21,C.frozen⟩
theorem VO.lt{p s:Nat}(h:VO R base w0 vb q p a s W):R<W.heap.size:=by
 obtain⟨Y,J,D,I,n,xs,U,C,T⟩:=h;exact C.lt
theorem VO.size{p s:Nat}(h:VO R base w0 vb q p a s W):base<=W.heap.size:=by rw[h.2.1];exact h.1.size
theorem VO.kept{p s B t:Nat}{cs:Array Value}(h:VO R base w0 vb q p a s W)(D:Z7 w0 B t cs)(C:B≠R):Z7 W B t cs:=D.kept h.1 (λe=>C (aq e))
theorem VO.oU{p s N:Nat}(h:VO R base w0 vb q p a s W)(hN:N<=R):Below N w0 W:=(aG N w0).grown h.1 (aO hN (by have:=h.2.1;have:=h.2.2.1;omega)) (λk e=>by have:=aq e;omega)
def FR(R base:Nat)(w0:World)(vb:Value)(p a s:Nat):Ending->World->Prop:=λe w'=>e=.returned (.tuple #[])/\VO R base w0 vb 0 p a s w'
section
variable {R base p a s:Nat} {w0:World} {vb:Value}
theorem G3(i:ZN)(r:Addr)(w:World):Calls prog 202 #[.pointer (some r),.agg (Nu i).toArray] w λe w'=>e=.returned (.int .u32 i.k)/\Below w.heap.size w w':=by
 obtain⟨C,I,D,T⟩:=i;unfold Nu;dsimp only;have J:=Z7.new w UL #[.int .u16 C,.int .u8 I,.int .u8 D,.int .u32 T,.func (.func (Px C)) #[] #[],.int .i64 (Zx C:Int),.bool false];obtain⟨_,_,_,Z,_,_,Y⟩:=J.q7;have U:=aT ((aG w.heap.size w).alloc (aR _) (.cells #[.int .u16 C,.int .u8 I,.int .u8 D,.int .u32 T,.func (.func (Px C)) #[] #[],.int .i64 (Zx C:Int),.bool false] UL));clear J;go_enter func202,ntmps202;go_wp2_with fail;go_ret;exact⟨rfl,U.out⟩
theorem oT(i:ZN)(hp:p+i.k<=10000)(w:World)(h:VO R base w0 vb 1 p a s w):Calls prog 199 #[.pointer (some ⟨R,0,none⟩),.agg (Nu i).toArray] w (FR R base w0 vb (p+i.k) a s):=by
 obtain⟨D,J,I,C⟩:=i;unfold Nu;dsimp only at hp ⊢;have HB:=aT (Z7.new w UL #[.int .u16 D,.int .u8 J,.int .u8 I,.int .u32 C,.func (.func (Px D)) #[] #[],.int .i64 (Zx D:Int),.bool false]);have U:=aT (h.alloc (.cells #[.int .u16 D,.int .u8 J,.int .u8 I,.int .u32 C,.func (.func (Px D)) #[] #[],.int .i64 (Zx D:Int),.bool false] UL));have hne:¬w.heap.size=R:=by have:=h.lt;omega
 have Y:¬R=w.heap.size:=by have:=h.lt;omega
 have w1:IntKind.i64.wrap (C:Int)=(C:Int):=aJ _ jO;have w2:IntKind.i64.wrap ((p:Int)+(C:Int))=((p+C:Nat):Int):=by rw[aJ _ jO];omega
 clear h;go_enter func199,ntmps199;go_upto_region 1 with fail;generalize w.alloc (.cells #[.int .u16 D,.int .u8 J,.int .u8 I,.int .u32 C,.func (.func (Px D)) #[] #[],.int .i64 (Zx D:Int),.bool false] UL)=wa at*;generalize w.heap.size=B1 at*;have c3:=HB.out.e3;obtain⟨z0,z1,z2,z3,z4,Z⟩:=U.out.cells;have f1:=Z 1;clear z0 z2 z3 z4 Z;have HF:Hid (VO R base w0 vb 0 (p+C) a s (wa.setCell ⟨R,1,none⟩ (.int .i64 ((p+C:Nat):Int))).drew):=(U.out.set 1 (.int .i64 ((p+C:Nat):Int)) (λlv=>rfl) (λn hn=>jO)).drew;generalize p+C=T at*;go_region;go_wp2_with fail;go_end0;exact⟨rfl,HF.out⟩
theorem Ak(i:ZN)(hb:YS i.code=true)(hp:p+i.jt<=10000/\p+i.jf<=10000)(w:World)(h:VO R base w0 vb 1 p a s w)(ha:a<4294967296)(hk:i.k<4294967296):Calls prog 119 #[.pointer (some ⟨R,0,none⟩),.agg (Nu i).toArray] w (FR R base w0 vb (p+(if YF i.code a i.k=true then i.jt else i.jf)) a s):=by
 obtain⟨Z,hT0⟩:∃T,p+(if YF i.code a i.k=true then i.jt else i.jf)=T:=⟨_,rfl⟩;rw[hT0];obtain⟨bt,hbt⟩:=jX (YF i.code a i.k);rw[hbt] at hT0;obtain⟨ic,I,D,J⟩:=i;have HO:=aT (λW=>G3 ⟨ic,I,D,J⟩ ⟨R,0,none⟩ W);unfold Nu at HO ⊢;dsimp only at*;have HB:=aT (Z7.new w UL #[.int .u16 ic,.int .u8 I,.int .u8 D,.int .u32 J,.func (.func (Px ic)) #[] #[],.int .i64 (Zx ic:Int),.bool false]);have HS:=aT (h.alloc (.cells #[.int .u16 ic,.int .u8 I,.int .u8 D,.int .u32 J,.func (.func (Px ic)) #[] #[],.int .i64 (Zx ic:Int),.bool false] UL));have hne:¬w.heap.size=R:=by have:=h.lt;omega
 have bA:¬R=w.heap.size:=by have:=h.lt;omega
 clear h;obtain⟨mS,tI⟩:=hp;have Y:=aT hbt;have U:=aT hT0;have HIB:=aT hb;clear hbt hT0 hb;have w1:IntKind.i64.wrap (I:Int)=(I:Int):=aJ _ jO;have w2:IntKind.i64.wrap ((p:Int)+(I:Int))=((p+I:Nat):Int):=by rw[aJ _ jO];omega
 have w3:IntKind.i64.wrap (D:Int)=(D:Int):=aJ _ jO;have w4:IntKind.i64.wrap ((p:Int)+(D:Int))=((p+D:Nat):Int):=by rw[aJ _ jO];omega
 go_enter func119,ntmps119;go_upto_region 1 with fail;generalize w.alloc (.cells #[.int .u16 ic,.int .u8 I,.int .u8 D,.int .u32 J,.func (.func (Px ic)) #[] #[],.int .i64 (Zx ic:Int),.bool false] UL)=wa at*;generalize w.heap.size=B1 at*;have lay:∀wx:World,Below wa.heap.size wa wx->Hid (Z7 wx B1 UL #[.int .u16 ic,.int .u8 I,.int .u8 D,.int .u32 J,.func (.func (Px ic)) #[] #[],.int .i64 (Zx ic:Int),.bool false])/\Hid (VO R base w0 vb 1 p a s wx):=λwx hb=>⟨HB.out.below hb HB.out.lt,HS.out.bl hb⟩
 have LAY:=aT lay;clear lay;obtain⟨c0,c1,c2,c3,c4,c5,c6⟩:=HB.out.q7;go_wp2_with fail;refine(HO.out wa).mono ?_;rintro e wx ⟨rfl,bR⟩;obtain⟨XX,Qw⟩:=LAY.out wx bR;clear bR c0 c1 c2 c3 c4 c5 c6 HB HS LAY HO;obtain⟨_,c1,c2,_,_,c5⟩:=XX.out.q6;obtain⟨z0,z1,z2,z3,z4,zf⟩:=Qw.out.cells;have f1:=zf 1;clear z0 z3 z4 zf;have HF:Hid (∀T:Nat,VO R base w0 vb 0 T a s (wx.setCell ⟨R,1,none⟩ (.int .i64 T)).drew):=λT=>(Qw.out.set 1 (.int .i64 T) (λlv=>rfl) (λn hn=>jO)).drew
 have hb:=HIB.out;unfold YS at hb;simp only[asg,ahc] at hb;clear HIB;rcases hb with((rfl|rfl)|rfl)|rfl
 ·rw[show Zx 21=25 from rfl] at c5;change _=some (Value.int .i64 25) at c5;cases bt with
  |true=>
   obtain rfl:a=J:=by simpa [YF] using Y.out
   have hx:((a:Int) == (a:Int))=true:=jS;have C:p+I=Z:=U.out;rw[C] at w2;clear C;go_wp2_with fail;go_region;go_wp2_with fail;go_end0;exact⟨rfl,HF.out Z⟩
  |false=>
   have hn:¬(a:Int)=(J:Int):=by have:=Y.out;simp[YF] at this;omega
   have hx:((a:Int) == (J:Int))=false:=by rw[af];exact hn
   have C:p+D=Z:=U.out;rw[C] at w4;clear C;go_wp2_with fail;go_region;go_wp2_with fail;go_end0;exact⟨rfl,HF.out Z⟩
 ·rw[show Zx 37=26 from rfl] at c5;change _=some (Value.int .i64 26) at c5;cases bt with
  |true=>
   have hx:(J:Int)<(a:Int):=by have:=Y.out;simp[YF] at this;omega
   have C:p+I=Z:=U.out;rw[C] at w2;clear C;go_wp2_with fail;go_region;go_wp2_with fail;go_end0;exact⟨rfl,HF.out Z⟩
  |false=>
   have hx:¬(J:Int)<(a:Int):=by have:=Y.out;simp[YF] at this;omega
   have C:p+D=Z:=U.out;rw[C] at w4;clear C;go_wp2_with fail;go_region;go_wp2_with fail;go_end0;exact⟨rfl,HF.out Z⟩
 ·rw[show Zx 53=27 from rfl] at c5;change _=some (Value.int .i64 27) at c5;cases bt with
  |true=>
   have hx:(J:Int)<=(a:Int):=by have:=Y.out;simp[YF] at this;omega
   have C:p+I=Z:=U.out;rw[C] at w2;clear C;go_wp2_with fail;go_region;go_wp2_with fail;go_end0;exact⟨rfl,HF.out Z⟩
  |false=>
   have hx:¬(J:Int)<=(a:Int):=by have:=Y.out;simp[YF] at this;omega
   have C:p+D=Z:=U.out;rw[C] at w4;clear C;go_wp2_with fail;go_region;go_wp2_with fail;go_end0;exact⟨rfl,HF.out Z⟩
 ·rw[show Zx 69=28 from rfl] at c5;change _=some (Value.int .i64 28) at c5;have wx:bits .and .u32 (a:Int) (J:Int)=((a &&& J:Nat):Int):=bits_and_u32_nat _ _ ha hk;cases bt with
  |true=>
   have hz:¬(a &&& J)=0:=by have:=Y.out;simpa [YF] using this
   generalize a &&& J=X at*;have hn:¬(X:Int)=0:=jO;have hx:((X:Int) == 0)=false:=by rw[af];exact hn
   have hy:((X:Int) != 0)=true:=by simp;omega
   have C:p+I=Z:=U.out;rw[C] at w2;clear C;go_wp2_with fail;go_region;go_wp2_with fail;go_end0;exact⟨rfl,HF.out Z⟩
  |false=>
   have hz:(a &&& J)=0:=by have:=Y.out;simpa [YF] using this
   rw[hz] at wx;have C:p+D=Z:=U.out;rw[C] at w4;clear C;go_wp2_with fail;go_region;go_wp2_with fail;go_end0;exact⟨rfl,HF.out Z⟩
theorem jq(i:ZN)(hc:i.code=0x54)(w:World)(h:VO R base w0 vb 1 p a s w)(ha:a<4294967296)(hk:i.k<4294967296):Calls prog 120 #[.pointer (some ⟨R,0,none⟩),.agg (Nu i).toArray] w (FR R base w0 vb p (a &&& i.k) s):=by
 obtain⟨C,I,D,J⟩:=i;have HO:=aT (λW=>G3 ⟨C,I,D,J⟩ ⟨R,0,none⟩ W);unfold Nu at HO ⊢;dsimp only at*;have HB:=aT (Z7.new w UL #[.int .u16 C,.int .u8 I,.int .u8 D,.int .u32 J,.func (.func (Px C)) #[] #[],.int .i64 (Zx C:Int),.bool false]);have HS:=aT (h.alloc (.cells #[.int .u16 C,.int .u8 I,.int .u8 D,.int .u32 J,.func (.func (Px C)) #[] #[],.int .i64 (Zx C:Int),.bool false] UL));have hne:¬w.heap.size=R:=by have:=h.lt;omega
 have bA:¬R=w.heap.size:=by have:=h.lt;omega
 clear h;have HCC:=aT hc;clear hc;go_enter func120,ntmps120;go_upto_region 1 with fail;generalize w.alloc (.cells #[.int .u16 C,.int .u8 I,.int .u8 D,.int .u32 J,.func (.func (Px C)) #[] #[],.int .i64 (Zx C:Int),.bool false] UL)=wa at*;generalize w.heap.size=B1 at*;have lay:∀T:World,Below wa.heap.size wa T->Hid (Z7 T B1 UL #[.int .u16 C,.int .u8 I,.int .u8 D,.int .u32 J,.func (.func (Px C)) #[] #[],.int .i64 (Zx C:Int),.bool false])/\Hid (VO R base w0 vb 1 p a s T):=λT hb=>⟨HB.out.below hb HB.out.lt,HS.out.bl hb⟩
 have Y:=aT lay;clear lay;obtain⟨c0,c1,c2,c3,c4,c5,c6⟩:=HB.out.q7;go_wp2_with fail;refine(HO.out wa).mono ?_;rintro e T ⟨rfl,U⟩;obtain⟨XX,Z⟩:=Y.out T U;clear U c0 c1 c2 c3 c4 c5 c6 HB HS Y HO;have c5:=XX.out.e5;obtain⟨z0,z1,z2,z3,z4,zf⟩:=Z.out.cells;have f2:=zf 2;clear z0 z1 z3 z4 zf;obtain rfl:C=0x54:=HCC.out;rw[show Zx 84=21 from rfl] at c5;change _=some (Value.int .i64 21) at c5;have wy:bits .and .u32 (a:Int) (J:Int)=((a &&& J:Nat):Int):=bits_and_u32_nat _ _ ha hk;generalize a &&& J=X at*;have HF:Hid (VO R base w0 vb 0 p X s (T.setCell ⟨R,2,none⟩ (.int .u32 X))):=Z.out.set 2 (.int .u32 X) (λlv=>rfl) (λn hn=>jO);go_wp2_with fail;go_end0;exact⟨rfl,HF.out⟩
def JO(v:Nat):List PanicEntry:=[{v:=.iface 247 (.agg #[.int .u32 v]),recovered:=false}]
theorem oQ(i:ZN)(w:World)(h:VO R base w0 vb 1 p a s w):Calls prog 200 #[.pointer (some ⟨R,0,none⟩),.agg (Nu i).toArray] w λe w'=>e=.panicked (JO i.k)/\VO R base w0 vb 0 p a s w':=by
 obtain⟨C,I,D,T⟩:=i;unfold Nu JO;dsimp only at*;have J:=Z7.new w UL #[.int .u16 C,.int .u8 I,.int .u8 D,.int .u32 T,.func (.func (Px C)) #[] #[],.int .i64 (Zx C:Int),.bool false];have U:=aT (h.alloc (.cells #[.int .u16 C,.int .u8 I,.int .u8 D,.int .u32 T,.func (.func (Px C)) #[] #[],.int .i64 (Zx C:Int),.bool false] UL)).less;have Y:=J.e3;clear h J;go_enter func200,ntmps200;go_wp2;exact⟨rfl,rfl,U.out⟩
theorem an4:(prog.info? 3).map (λi=>(i.zero,i.size,i.bytes))=some (some (.int .i64 0),1,8):=jK
theorem uG{N c:Nat}{ad:Option Addr}{bs:List Nat}(hl:bs.length=64)(uF:∀b∈bs,b<256)(i:ZN)(hk:i.k%4=0/\i.k<64)(hs:s<=100000)(w:World)(hm:Yi N w ad bs)(hN:N<=base)(h:VO R base w0 (.slice ad 64 c) 1 p a s w):Calls prog 187 #[.pointer (some ⟨R,0,none⟩),.agg (Nu i).toArray] w (FR R base w0 (.slice ad 64 c) p (Y6 bs i.k) s):=by
 have hW:Y6 bs i.k<4294967296:=JX uF i.k;have HG:Hid (∀W,Below w.heap.size w W->Calls prog 63 #[.slice ad 64 c,.int .i64 i.k,.int .i64 4,.bool false] W λe w'=>e=.returned (.tuple #[.int .u64 (Y6 bs i.k:Int),.int .i64 0])/\Below W.heap.size W w'):=λW hW=>by have hsz:=h.size;have:=F4 (L:=64) (c:=c) (at_:=i.k) (k:=4) (.inr rfl) hl jO jO uF W (hm.below hW (aO hN hsz)) (aO (aO hN hsz) hW.size);rwa [pU] at this
 obtain⟨J,Z,Y,I⟩:=i;unfold Nu;dsimp only at*;have HB:=aT (Z7.new w UL #[.int .u16 J,.int .u8 Z,.int .u8 Y,.int .u32 I,.func (.func (Px J)) #[] #[],.int .i64 (Zx J:Int),.bool false]);have HS:=aT (h.alloc (.cells #[.int .u16 J,.int .u8 Z,.int .u8 Y,.int .u32 I,.func (.func (Px J)) #[] #[],.int .i64 (Zx J:Int),.bool false] UL));have lY:=aT ((aG w.heap.size w).alloc (aR _) (.cells #[.int .u16 J,.int .u8 Z,.int .u8 Y,.int .u32 I,.func (.func (Px J)) #[] #[],.int .i64 (Zx J:Int),.bool false] UL));have hne:¬w.heap.size=R:=by have:=h.lt;omega
 have bA:¬R=w.heap.size:=by have:=h.lt;omega
 have hbs:=h.size;clear h hm hl uF;obtain⟨tS,hk2⟩:=hk;generalize Y6 bs I=X at*;have w1:IntKind.i64.wrap (I:Int)=(I:Int):=aJ _ jO;have w2:IntKind.u32.wrap (X:Int)=(X:Int):=awg _ jO;clear tS;go_enter func187,ntmps187;go_upto_region 1 with fail;have HGa:=aT (HG.out (w.alloc (.cells #[.int .u16 J,.int .u8 Z,.int .u8 Y,.int .u32 I,.func (.func (Px J)) #[] #[],.int .i64 (Zx J:Int),.bool false] UL)).drew lY.out.drew);clear HG;have dM:=HB.out.lt;generalize w.alloc (.cells #[.int .u16 J,.int .u8 Z,.int .u8 Y,.int .u32 I,.func (.func (Px J)) #[] #[],.int .i64 (Zx J:Int),.bool false] UL)=wa at*;generalize w.heap.size=B1 at*;obtain⟨z0,z1,z2,z3,z4,zf⟩:=HS.out.cells;have c3:=HB.out.e3;have UB:Hid (wa.drew.cell? ⟨R,0,none⟩=some (.slice ad 64 c)/\wa.drew.cell? ⟨B1,3,none⟩=some (.int .u32 I)):=⟨z0,c3⟩;have mK:=aT HS.out.drew;have cB:Hid (Z7 wa.drew B1 UL #[.int .u16 J,.int .u8 Z,.int .u8 Y,.int .u32 I,.func (.func (Px J)) #[] #[],.int .i64 (Zx J:Int),.bool false]):=HB.out;have HSg:Hid (∀w',Below wa.drew.heap.size wa.drew w'->w'.cell? ⟨R,0,none⟩=some (.slice ad 64 c)/\w'.cell? ⟨B1,3,none⟩=some (.int .u32 I)):=λw' hb=>⟨(mK.out.bl hb).cells.1,((cB.out.below hb cB.out.lt).cell 3)⟩
 clear z0 z1 z2 z3 z4 zf c3 HS HB
 go_region_held3 (λw'=>w'.cell? ⟨R,0,none⟩=some (.slice ad 64 c)/\w'.cell? ⟨B1,3,none⟩=some (.int .u32 I)) (first|exact UB.out|exact HSg.out _ (aje jA)) (first
  |(go_at_call 63;refine HGa.out.mono ?_;rintro e wg ⟨rfl,hbg⟩;have HBG:Hid (Below wa.drew.heap.size wa.drew wg):=aT hbg;clear hbg))
 have XX:=aT (cB.out.below HBG.out cB.out.lt);have Qw:=aT ((mK.out.bl HBG.out).set 2 (.int .u32 X) (a':=X) (λlv=>rfl) (λn hn=>hn));have Uy:Hid (Z7 (wg.setCell ⟨R,2,none⟩ (.int .u32 X)) B1 UL #[.int .u16 J,.int .u8 Z,.int .u8 Y,.int .u32 I,.func (.func (Px J)) #[] #[],.int .i64 (Zx J:Int),.bool false]):=XX.out.other hne 2 _;have z2:wg.cell? ⟨R,2,none⟩=some (.int .u32 a):=(mK.out.bl HBG.out).cells.2.2.1;have f2:wg.frozen? ⟨R,2,none⟩=false:=(mK.out.bl HBG.out).cells.2.2.2.2.2 2;clear XX cB mK UB HSg HGa HBG lY;go_upto_region 3 with fail;generalize wg.setCell ⟨R,2,none⟩ (.int .u32 X)=wb at*;obtain⟨v1,v2,v3,lv,n,xs,v4,v5,v6⟩:=Qw.out.drew;have HV1:=aT v1;have HV5:=aT v5;have tL:=aT v6;have Fl:Hid (Z7 wb.drew B1 UL #[.int .u16 J,.int .u8 Z,.int .u8 Y,.int .u32 I,.func (.func (Px J)) #[] #[],.int .i64 (Zx J:Int),.bool false]):=Uy.out;have UB:Hid (wb.drew.cell? ⟨B1,3,none⟩=some (.int .u32 I)):=Fl.out.cell 3;obtain⟨i0,XS,RH,Vb,Tl⟩:=ZP an4;clear v1 v5 v6 Qw Uy z2 f2;refine aua ?_;refine akg (S:=λw'=>w'.cell? ⟨B1,3,none⟩=some (.int .u32 I)) jK UB.out (λhHeld=> ?_);generalize wb.drew=wd at*;refine jT 0 ⟨some 23,.move (.tmp 0),240,"vm.go:54",#[],none⟩ ?_;try simp only[Act.put,aS,aP,aQ]
 refine jT 1 ⟨some 24,.move (.tmp 0),240,"vm.go:54",#[],none⟩ ?_;try simp only[Act.put,aS,aP,aQ]
 refine jT 2 ⟨some 25,.nilCheck (.tmp 24),0,"vm.go:54",#[⟨1,.data⟩],none⟩ ?_;try simp only[Act.put,aS,aP,aQ]
 refine jT 3 ⟨some 26,.fieldAddr 245 (.tmp 25) 5,0,"vm.go:54",#[⟨2,.data⟩],none⟩ ?_;try simp only[Act.put,aS,aP,aQ]
 refine jT 4 ⟨some 27,.fieldAddr 96 (.tmp 26) 2,0,"vm.go:54",#[⟨3,.data⟩],none⟩ ?_;try simp only[Act.put,aS,aP,aQ]
 refine jT 6 ⟨some 29,.fieldAddr 242 (.tmp 3) 0,0,"vm.go:54",#[],none⟩ ?_;try simp only[Act.put,aS,aP,aQ]
 refine jT 7 ⟨some 30,.fieldAddr 166 (.tmp 29) 3,0,"vm.go:54",#[⟨6,.data⟩],none⟩ ?_;try simp only[Act.put,aS,aP,aQ]
 refine jT 8 ⟨some 31,.load 53 (.tmp 30),53,"vm.go:54",#[⟨7,.data⟩],none⟩ ?_;try simp only[Act.put,aS,aP,aQ]
 refine jT 9 ⟨some 32,.convert 53 3 (.tmp 31),3,"vm.go:54",#[⟨8,.data⟩],none⟩ ?_;try simp only[Act.put,aS,aP,aQ]
 have Ed:=aT (VG HV1.out (aeb wd (.cells #[.int .i64 I] 3) none) (λk e=>by cases e));have Cf:=aT (HV5.out.alloc (.cells #[.int .i64 I] 3));have K4:=aT (ZC tL.out ((aG wd.heap.size wd).alloc (aR _) (.cells #[.int .i64 I] 3)));have yh:=aT (Fl.out.alloc (.cells #[.int .i64 I] 3));have Jf:Hid ((wd.alloc (.cells #[.int .i64 I] 3)).cell? ⟨B1,3,none⟩=some (.int .u32 I)):=yh.out.cell 3;have mN:base<=(wd.alloc (.cells #[.int .i64 I] 3)).heap.size:=by rw[v2];exact Ed.out.size
 have k4:wd.cell? ⟨R,22,none⟩=some lv:=HV5.out.cell 22;have k5:(wd.alloc (.cells #[.int .i64 I] 3)).cell? ⟨R,22,none⟩=some lv:=Cf.out.cell 22;refine aba (rs:=[5,10]) jK jS ?_;refine ae (o:=eZ) rfl (λK' T=> ?aB9) (ae (o:=eY) rfl (λK' T=> ?an5) aae)
 case aB9=>
  go_simp;refine T.out _ _ hHeld (λhHeld=> ?_);clear T K';try simp only[Act.put,aS,aP,aQ]
  refine aba (rs:=[10]) jK jS ?_;refine ae (o:=eY) rfl (λK' T=> ?_) aae;go_simp;clear hHeld;refine T.out _ _ Jf.out (λhHeld=> ?_);clear T K';try simp only[Act.put,aS,aP,aQ]
  refine aba (rs:=[11]) jK jS ?_;refine ae (o:=eX) rfl (λK' T=> ?_) aae;refine X6 _ _ _ 94 jR base 3 i0 (.int .i64 0) 1 8 underlying94 XS RH Vb Tl rfl jD lv n xs jR K4.out ⟨wd.heap.size,0,none⟩ 1 1 [.int .i64 I] jR rfl (YX rfl) (by simp[Value.oneCell']) (by unfold maxLen;omega) jO mN ?_;intro v' w7 D C;obtain⟨g7,q7,rfl,_,_⟩:=World.ownsRow.form D jO;have Od:=aT (VG Ed.out C (λk e=>.inr (by rw[<-v2];exact(K4.out.lt k e).1)));have U:=aT (Cf.out.kept C (λe=>YQ K4.out Cf.out jD e.symm));have HC7:=aT (yh.out.kept C (λe=>YQ K4.out yh.out jD e.symm));have Lz:=aT D;have LA:Hid (w7.cell? ⟨B1,3,none⟩=some (.int .u32 I)):=HC7.out.cell 3;clear D C;clear hHeld;refine T.out _ _ LA.out (λhHeld=> ?_);clear T K';try simp only[Act.put,aS,aP,aQ]
  refine jT 12 eW ?_;try simp only[Act.put,aS,aP,aQ]
  refine jT 13 eV ?_;try simp only[Act.put,aS,aP,aQ]
  refine jT 14 eU ?_;try simp only[Act.put,aS,aP,aQ]
  refine aba (rs:=[15]) jK jS ?_;refine ae (o:=eT) rfl (λK' T=> ?_) aae;have k7:w7.cell? ⟨R,22,none⟩=some lv:=U.out.cell 22;have f7:=U.out.frozen 22;have Eb:Hid ((w7.setCell ⟨R,22,none⟩ (.slice (some ⟨g7,0,none⟩) (n+1) q7)).cell? ⟨B1,3,none⟩=some (.int .u32 I)):=(HC7.out.other (B':=R) hne 22 _).cell 3;have RZ:Hid (VO R base w0 (.slice ad 64 c) 0 p X s (w7.setCell ⟨R,22,none⟩ (.slice (some ⟨g7,0,none⟩) (n+1) q7))):=⟨VG Od.out (Al w7 R 22 _) (λk e=>.inl (aq e).symm),v2,v3,_,n+1,_,jO,U.out.set 22 _,VI Lz.out (λe=>YQ Lz.out U.out jD e)⟩;go_simp;clear hHeld;refine T.out _ _ Eb.out (λhHeld=> ?_);clear T K';refine ana jK ?_ _;refine ase ?_;clear k4 k5 k7 f7;go_wp2_with fail;go_end0;exact⟨rfl,RZ.out⟩
 case an5=>
  go_simp;clear hHeld;refine T.out _ _ Jf.out (λhHeld=> ?_);clear T K';try simp only[Act.put,aS,aP,aQ]
  refine aba (rs:=[5]) jK jS ?_;refine ae (o:=eZ) rfl (λK' T=> ?_) aae;go_simp;refine T.out _ _ hHeld (λhHeld=> ?_);clear T K';try simp only[Act.put,aS,aP,aQ]
  refine aba (rs:=[11]) jK jS ?_;refine ae (o:=eX) rfl (λK' T=> ?_) aae;refine X6 _ _ _ 94 jR base 3 i0 (.int .i64 0) 1 8 underlying94 XS RH Vb Tl rfl jD lv n xs jR K4.out ⟨wd.heap.size,0,none⟩ 1 1 [.int .i64 I] jR rfl (YX rfl) (by simp[Value.oneCell']) (by unfold maxLen;omega) jO mN ?_;intro v' w7 D C;obtain⟨g7,q7,rfl,_,_⟩:=World.ownsRow.form D jO;have Od:=aT (VG Ed.out C (λk e=>.inr (by rw[<-v2];exact(K4.out.lt k e).1)));have U:=aT (Cf.out.kept C (λe=>YQ K4.out Cf.out jD e.symm));have HC7:=aT (yh.out.kept C (λe=>YQ K4.out yh.out jD e.symm));have Lz:=aT D;have LA:Hid (w7.cell? ⟨B1,3,none⟩=some (.int .u32 I)):=HC7.out.cell 3;clear D C;clear hHeld;refine T.out _ _ LA.out (λhHeld=> ?_);clear T K';try simp only[Act.put,aS,aP,aQ]
  refine jT 12 eW ?_;try simp only[Act.put,aS,aP,aQ]
  refine jT 13 eV ?_;try simp only[Act.put,aS,aP,aQ]
  refine jT 14 eU ?_;try simp only[Act.put,aS,aP,aQ]
  refine aba (rs:=[15]) jK jS ?_;refine ae (o:=eT) rfl (λK' T=> ?_) aae;have k7:w7.cell? ⟨R,22,none⟩=some lv:=U.out.cell 22;have f7:=U.out.frozen 22;have Eb:Hid ((w7.setCell ⟨R,22,none⟩ (.slice (some ⟨g7,0,none⟩) (n+1) q7)).cell? ⟨B1,3,none⟩=some (.int .u32 I)):=(HC7.out.other (B':=R) hne 22 _).cell 3;have RZ:Hid (VO R base w0 (.slice ad 64 c) 0 p X s (w7.setCell ⟨R,22,none⟩ (.slice (some ⟨g7,0,none⟩) (n+1) q7))):=⟨VG Od.out (Al w7 R 22 _) (λk e=>.inl (aq e).symm),v2,v3,_,n+1,_,jO,U.out.set 22 _,VI Lz.out (λe=>YQ Lz.out U.out jD e)⟩;go_simp;clear hHeld;refine T.out _ _ Eb.out (λhHeld=> ?_);clear T K';refine ana jK ?_ _;refine ase ?_;clear k4 k5 k7 f7;go_wp2_with fail;go_end0;exact⟨rfl,RZ.out⟩
end
end Go.Proofs.YtclgigmgbebhgaaGreatDoor
