/- TopOther: part 35: TopBld2 Holds TopLw1 ActIdx ActRFrom Shelf ActText ActTxt ActNum ActPlain ActRd ActRead CondNumP. -/
import Derived.Shelf.Strconv.Itoa3
import Derived.Shelf.Small.Strs
import Derived.Shelf.Strings.Search1
import Derived.Shelf.Strings.SlTrimAscii
import Derived.Shelf.Strings.OnBuilder
import Derived.Shelf.Small.Wraps
import Derived.Shelf.Slices.CompactS
import Derived.Lib.ItoaLen
import Derived.Lib.SmallJoins
import Derived.Lib.QuietBelow
import Derived.Lib.Atoi
import Derived.Lib.SlTrimSet
import Derived.Shelf.Strconv.Atoi
import Derived.Lib.ParseIntB
import Derived.Lib.Strings
import Derived.Test.YtclgigmgbebhgaaGreatDoorO34
set_option linter.unusedVariables false
set_option linter.unusedSimpArgs false
set_option maxRecDepth 100000
set_option maxHeartbeats 16000000
namespace Go.Proofs.YtclgigmgbebhgaaGreatDoor
open Tryz
open Go Go.Proofs Go.RowKit
def Says(out:List ZN)(l:List Z4.Z2)(x:Bool)(d:Nat)(pr:List NR):Prop:=∀w:Nat->Nat,GJ w->∀a i,a<5->i<l.length->0<=(l[i]!).num a->w 4=XJ a->w 0=whole a ((l[i]!).num a).toNat->Zi w out 0=some (N3 w x d a pr (l[i]!).name)
theorem iV{pr:List NR}{l:List Z4.Z2}{x:Bool}{dn:List (ByteArray×List Z3)}{q:Ya}{es:Nat->List Xo}{s0 s1:List (Nat×Nat)}{p:YH}{cs:List Nat}{out:List ZN}{at_:Nat->Nat}{ZU far:Nat->Bool}(hf:Vb pr l q.d x dn es s0 s1)(hx:q.x=x)(hi:C7 q es s0 s1 p cs)(A:UY (ZL p cs) out at_ ZU far)(hu:at_ 0=0/\ZU 0=false):Says out l x q.d pr:=λw hw a i ha hl I D hn=>by
 subst hx;obtain⟨C,_⟩:=Mw hf hi.d hi.x hi.p0 hi.p1 hi.p2 hi.p3 hi.p4;have h:Zi w (out.drop (at_ 0)) 0=Wl w (ZL p cs) 0:=Lv (w:=w) (VE hi.c) A (ZL p cs).length (ZL p cs) [] 0 (aR _) rfl hu.2;rw[hu.1,aug] at h;rw[h,tD hw C.ok hi.c,vG hf.tab hf.all (by rw[hi.d];exact hf.uV) C hw ha hl I D hn,hi.d,hi.x]
theorem Ad{q:Ya}{es:Nat->List Xo}{s0 s1:List (Nat×Nat)}{p:YH}{cs:List Nat}{X:Nat}(hi:C7 q es s0 s1 p cs)(hX:∀a,a<5->ZX (ZZ a (es a) s0 s1)<=X)(A:2<=X):(ZL p cs).length<=80+10*X:=by
 have T:=Y7 hi.p0.1;have D:=Y7 hi.p2.1;have h3:=Y7 hi.p3.1;have I:=Y7 hi.p4.1;have Y:=hX 0 jD;have C:=hX 1 jD;have U:=hX 2 jD;have Z:=hX 3 jD;have x4:=hX 4 jD;have J:ZX p.p1<=X:=by
  cases hx:q.x with
  |true=>rw[Y7 (hi.p1.1 hx)];exact C
  |false=>rw[hi.p1.2.1 hx];exact A
 have hl:=hi.len;unfold T4 at hl;omega
def NT(L C:Nat):Nat:=18+17*L+L*(8*C+4)
def o9(C:Int->Prop)(bl:Bool)(L Cm:Nat)(w:World)(e:Ending)(w':World):Prop:=∃z ev:Int,ev≠0/\(C ev\/bl=true\/(ev=3/\4096<3*(80+10*NT L Cm)))/\e=.returned (.tuple #[.agg #[.slice none 0 0,.int .i64 0,.int .i64 z],.int .i64 ev])/\Below w.heap.size w w'
def ed(pr:List NR)(l:List Z4.Z2)(k n:Int)(x:Bool)(w:World)(e:Ending)(w':World):Prop:=∃(out:List ZN) (m gp cp:Nat),e=.returned (.tuple #[.agg #[.slice (some ⟨gp,0,none⟩) (m*8) cp,.int .i64 0,.int .i64 0],.int .i64 0])/\X6 out m/\m*8<=cp/\YQ w'.heap.size w' (some ⟨gp,0,none⟩) (YR out)/\Says out l x (XR k n) pr/\Below w.heap.size w w'
theorem FR{fn:Func}{t u:Tmp}(h:fn.results=#[.cell t G7,.tmp u]){tmps:Array Value}{W:World}{R:Nat}{c0 c1 c2:Value}(hb:Z7 W R G7 #[c0,c1,c2])(ht:tmps.getD t undef=.pointer (some ⟨R,0,none⟩)):(results fn tmps).run prog W=.ok (.tuple #[.agg #[c0,c1,c2],tmps.getD u undef]) W:=by
 obtain⟨⟨e0,e1,e2⟩,_⟩:=X3 hb;rw[aif] at ht;simp[results,h,go_sem,ht,e0,e1,e2]
theorem JV{W:World}{R t:Nat}{c0 c1 c2:Value}(hb:Z7 W R t #[c0,c1,c2])(A C D:Value):Z7 (((W.setCell ⟨R,0,none⟩ A).setCell ⟨R,1,none⟩ C).setCell ⟨R,2,none⟩ D) R t #[A,C,D]:=by
 have J:Z7 _ R t #[A,c1,c2]:=hb.set 0 A;have I:Z7 _ R t #[A,C,c2]:=J.set 1 C;have T:Z7 _ R t #[A,C,D]:=I.set 2 D;exact T
theorem JU{w W:World}{n R:Nat}(hb:Below n w W)(h:n<=R)(C D A:Value):Below n w (((W.setCell ⟨R,0,none⟩ C).setCell ⟨R,1,none⟩ D).setCell ⟨R,2,none⟩ A):=
 ((hb.setCell (p:=⟨R,0,none⟩) h C).setCell (p:=⟨R,1,none⟩) h D).setCell (p:=⟨R,2,none⟩) h A
section
variable (V:Prop) (pr:List NR) (l:List Z4.Z2) (k n:Int) (x:Bool) (s R PO PP PI FB BP BT:Nat) (fc pb tb:Array Value) (w:World)
def Stg(q:Nat)(W:World):Prop:=
 (q=0/\XU s R PO PP PI FB fc w 0 (.slice none 0 0) WQ (.slice none 0 0) W/\Z7 W BP VZ pb/\Z7 W BT 41 tb)\/
 (q=1/\V/\∃Q es s0 s1,ee pr l k n x Q es s0 s1 W/\XU s R PO PP PI FB fc w 0 (.slice none 0 0) (ZA Q) (.slice none 0 0) W)\/
 (q=2/\V/\∃dn Q es s0 s1 p cs B0 ad c,Vb pr l Q.d x dn es s0 s1/\Q.d=XR k n/\Q.x=x/\C7 Q es s0 s1 p cs/\XU s R PO PP PI FB fc w 0 (.slice none 0 0) (ZA Q) (.slice ad (ZL p cs).length c) W/\W.ownsRow B0 Wk 5 (.slice ad (ZL p cs).length c) (ZL p cs).length (XY (ZL p cs)))\/
 (q=3/\V/\∃out m gp cp pc iv B1,X6 out m/\m*8<=cp/\W.ownsRow B1 5 1 (.slice (some ⟨gp,0,none⟩) (m*8) cp) (m*8) (Zn (YR out))/\Says out l x (XR k n) pr/\XU s R PO PP PI FB fc w 0 (.slice (some ⟨gp,0,none⟩) (m*8) cp) pc iv W)
end
theorem uE{V:Prop}{C:Int->Prop}{N L c Cm:Nat}{a:Option Addr}{pr:List NR}{k n:Int}{x:Bool}(sa:Option Addr)(sc:Nat)(l:List Z4.Z2)(hL:V->pr.length=L)(Xl:L<=500)(dZ:NT L Cm<=10000)(w:World)(hQ:V->UI N w a pr)(hN:N<=w.heap.size)(Pb:l.length<=1000000)(hR:Z4.X2 w (.slice sa l.length sc) l)
 (hV:∀W,Below w.heap.size w W->Calls prog 34 #[.agg #[.int .i64 k,.int .i64 n,.bool x,.slice a L c],.slice sa l.length sc] W λe w'=>∃z ev:Int,e=.returned (.tuple #[.int .i64 z,.int .i64 ev])/\C ev/\(ev=0->V)/\Below W.heap.size W w')
 (hT:V->Z4.Zt l) (hall:V->∀r∈pr,0<=Z4.firstIdx (Z4.RI r.nm) l) (hsz:V->∀r∈pr,r.nm.size<=1000/\r.cs.length<=1000/\∀c∈r.cs,c.right) (hcm:V->∀r∈pr,r.cs.length<=Cm) (ao1:Cm<=1000000)
 (Z:V->∀W,Below w.heap.size w W->Calls prog 75 #[.agg #[.int .i64 k,.int .i64 n,.bool x,.slice a L c]] W λe w'=>e=.returned (.bool true)/\Below W.heap.size W w')
 (pH:V->X7.Zc k n=true/\∀r∈pr,X7.Zc r.k r.n=true):
 Calls prog 10 #[.agg #[.int .i64 k,.int .i64 n,.bool x,.slice a L c],.slice sa l.length sc] w λe w'=>o9 C (pr.any (Vg l)) L Cm w e w'\/(V/\ed pr l k n x w e w'):=by
 have HRs:=aT (λW (hb:Below w.heap.size w W)=>Dd (V:=V) (C:=C) (N:=N) (c:=c) (x:=x) sa sc l hL Xl W (λhv=>(hQ hv).below hb hN) (aO hN hb.size) Pb (hR.below hb) (λW' hb'=>hV W' (hb.trans (hb'.mono hb.size))) hT hall hsz (λhv W' hb'=>Z hv W' (hb.trans (hb'.mono hb.size))) pH);have HL:=aT hL;have dW:=aT hcm;have HCo:=aT dZ;clear hQ hV hT hall hsz Z pH hL hcm dZ hR;obtain⟨bl,hbl⟩:∃b,pr.any (Vg l)=b:=⟨_,rfl⟩;have HBl:=aT hbl;rw[hbl] at HRs;clear hbl;obtain⟨w1,Jg⟩:∃z,w.alloc (.cells #[.int .i64 k,.int .i64 n,.bool x,.slice a L c] VZ)=z:=⟨_,rfl⟩;obtain⟨w2,hw2⟩:∃z,w1.alloc (.cells #[.slice sa l.length sc] 41)=z:=⟨_,rfl⟩;obtain⟨w3,hw3⟩:∃z,w2.alloc (.cells #[.slice none 0 0,.int .i64 0,.int .i64 0] G7)=z:=⟨_,rfl⟩;obtain⟨w4,hw4⟩:∃z,w3.alloc (.cells #[.slice none 0 0,.int .i64 0,.int .i64 0] G7)=z:=⟨_,rfl⟩;obtain⟨w5,hw5⟩:∃z,w4.alloc (.cells WQ Xy)=z:=⟨_,rfl⟩;obtain⟨J,cB⟩:∃z,w5.alloc (.cells #[.slice none 0 0] TGi)=z:=⟨_,rfl⟩;have s1:w1.heap.size=w.heap.size+1:=by rw[<-Jg,ah]
 have s2:w2.heap.size=w.heap.size+1+1:=by rw[<-hw2,ah,s1]
 have s3:w3.heap.size=w.heap.size+1+1+1:=by rw[<-hw3,ah,s2]
 have s4:w4.heap.size=w.heap.size+1+1+1+1:=by rw[<-hw4,ah,s3]
 have s5:w5.heap.size=w.heap.size+1+1+1+1+1:=by rw[<-hw5,ah,s4]
 have b6:Below w5.heap.size w5 J:=by rw[<-cB];exact Yl w5 _
 have b5:Below w4.heap.size w4 J:=by
  have:Below w4.heap.size w4 w5:=by rw[<-hw5];exact Yl w4 _
  exact this.trans (b6.mono this.size)
 have b4:Below w3.heap.size w3 J:=by
  have:Below w3.heap.size w3 w4:=by rw[<-hw4];exact Yl w3 _
  exact this.trans (b5.mono this.size)
 have b3:Below w2.heap.size w2 J:=by
  have:Below w2.heap.size w2 w3:=by rw[<-hw3];exact Yl w2 _
  exact this.trans (b4.mono this.size)
 have b2:Below w1.heap.size w1 J:=by
  have:Below w1.heap.size w1 w2:=by rw[<-hw2];exact Yl w1 _
  exact this.trans (b3.mono this.size)
 have b1:Below w.heap.size w J:=by
  have:Below w.heap.size w w1:=by rw[<-Jg];exact Yl w _
  exact this.trans (b2.mono this.size)
 have B0:Z7 J w.heap.size VZ #[.int .i64 k,.int .i64 n,.bool x,.slice a L c]:=(by rw[<-Jg];exact Z7.new w _ _:Z7 w1 w.heap.size VZ #[.int .i64 k,.int .i64 n,.bool x,.slice a L c]).below b2 jO;have B1:Z7 J w1.heap.size 41 #[.slice sa l.length sc]:=(by rw[<-hw2];exact Z7.new w1 _ _:Z7 w2 w1.heap.size 41 #[.slice sa l.length sc]).below b3 jO;have B2:Z7 J w2.heap.size G7 #[.slice none 0 0,.int .i64 0,.int .i64 0]:=(by rw[<-hw3];exact Z7.new w2 _ _:Z7 w3 w2.heap.size G7 #[.slice none 0 0,.int .i64 0,.int .i64 0]).below b4 jO;have B3:Z7 J w3.heap.size G7 #[.slice none 0 0,.int .i64 0,.int .i64 0]:=(by rw[<-hw4];exact Z7.new w3 _ _:Z7 w4 w3.heap.size G7 #[.slice none 0 0,.int .i64 0,.int .i64 0]).below b5 jO;have B4:Z7 J w4.heap.size Xy WQ:=(by rw[<-hw5];exact Z7.new w4 _ _:Z7 w5 w4.heap.size Xy WQ).below b6 jO;have B5:Z7 J w5.heap.size TGi #[.slice none 0 0]:=by rw[<-cB];exact Z7.new w5 _ _
 rw[s1] at B1;rw[s2] at B2;rw[s3] at B3;rw[s4] at B4;rw[s5] at B5;have Cb:=aT B0;have Uy:=aT B1;have Y:Hid (∀FB fc W,Below J.heap.size J W->Z7 W FB 82 fc->XU w.heap.size (w.heap.size+1+1) (w.heap.size+1+1+1) (w.heap.size+1+1+1+1) (w.heap.size+1+1+1+1+1) FB fc w 0 (.slice none 0 0) WQ (.slice none 0 0) W):=λFB fc W hb hf=>
  ⟨b1.trans (hb.mono b1.size),aO b1.size hb.size,B2.below hb B2.lt,B3.below hb B3.lt,B4.below hb B4.lt,B5.below hb B5.lt,hf,⟨jO,jO,jO,jO⟩,jO⟩
 have aC2:=aT b1;have HW:=aT (And.intro Jg (And.intro hw2 (And.intro hw3 (And.intro hw4 (And.intro hw5 cB)))));clear B0 B1 B2 B3 B4 B5 b1 b2 b3 b4 b5 b6 s1 s2 s3 s4 s5 Jg hw2 hw3 hw4 hw5 cB;have gF:∀(fn:Fn) (first cap:Array Value) (w:World),(Instr.makeFunc fn first cap).run prog w=.ok (.func fn first cap) w:=λ_ _ _ _=>rfl
 unfold WQ at HW;go_enter func10,ntmps10;go_upto_region 4 with fail;rw[HW.out.1,HW.out.2.1,HW.out.2.2.1,HW.out.2.2.2.1,HW.out.2.2.2.2.1,HW.out.2.2.2.2.2];clear HW;obtain⟨BT,hBT⟩:∃z,w.heap.size+1=z:=⟨_,rfl⟩;rw[hBT] at Uy Y ⊢;obtain⟨R,hRr⟩:∃z,BT+1=z:=⟨_,rfl⟩;rw[hRr] at Y ⊢;obtain⟨PO,hPO⟩:∃z,R+1=z:=⟨_,rfl⟩;rw[hPO] at Y ⊢;obtain⟨PP,hPP⟩:∃z,PO+1=z:=⟨_,rfl⟩;rw[hPP] at Y ⊢;obtain⟨PI,hPI⟩:∃z,PP+1=z:=⟨_,rfl⟩;rw[hPI] at Y ⊢;clear hBT hRr hPO hPP hPI;have HF7:=aT (Z7.new J 82 #[.func (.func 21) #[] #[.pointer (some ⟨w.heap.size,0,none⟩),.pointer (some ⟨BT,0,none⟩),.pointer (some ⟨PP,0,none⟩),.pointer (some ⟨PO,0,none⟩)],.func (.func 23) #[] #[.pointer (some ⟨PP,0,none⟩),.pointer (some ⟨PI,0,none⟩)],.func (.func 25) #[] #[.pointer (some ⟨PI,0,none⟩),.pointer (some ⟨PO,0,none⟩)]]);have Sm:=Yl J (.cells #[.func (.func 21) #[] #[.pointer (some ⟨w.heap.size,0,none⟩),.pointer (some ⟨BT,0,none⟩),.pointer (some ⟨PP,0,none⟩),.pointer (some ⟨PO,0,none⟩)],.func (.func 23) #[] #[.pointer (some ⟨PP,0,none⟩),.pointer (some ⟨PI,0,none⟩)],.func (.func 25) #[] #[.pointer (some ⟨PI,0,none⟩),.pointer (some ⟨PO,0,none⟩)]] 82);have Ov:=aT Sm;clear Sm;go_upto_region 8 with fail;clear gF;generalize J.alloc (.cells #[.func (.func 21) #[] #[.pointer (some ⟨w.heap.size,0,none⟩),.pointer (some ⟨BT,0,none⟩),.pointer (some ⟨PP,0,none⟩),.pointer (some ⟨PO,0,none⟩)],.func (.func 23) #[] #[.pointer (some ⟨PP,0,none⟩),.pointer (some ⟨PI,0,none⟩)],.func (.func 25) #[] #[.pointer (some ⟨PI,0,none⟩),.pointer (some ⟨PO,0,none⟩)]] 82)=w7 at*;obtain⟨FB,hFB⟩:∃z,J.heap.size=z:=⟨_,rfl⟩;rw[hFB] at HF7 Ov ⊢;have HM7:=aT (Y.out FB _ w7 (by rw[hFB];exact Ov.out) HF7.out);have HP7:=aT (Cb.out.below Ov.out (by rw[<-hFB];exact Cb.out.lt));have HT7:=aT (Uy.out.below Ov.out (by rw[<-hFB];exact Uy.out.lt));clear Y Cb Uy HF7 hFB Ov aC2;obtain⟨fc,hfc⟩:∃z:Array Value,#[.func (.func 21) #[] #[.pointer (some ⟨w.heap.size,0,none⟩),.pointer (some ⟨BT,0,none⟩),.pointer (some ⟨PP,0,none⟩),.pointer (some ⟨PO,0,none⟩)],.func (.func 23) #[] #[.pointer (some ⟨PP,0,none⟩),.pointer (some ⟨PI,0,none⟩)],.func (.func 25) #[] #[.pointer (some ⟨PI,0,none⟩),.pointer (some ⟨PO,0,none⟩)]]=z:=⟨_,rfl⟩;rw[hfc] at HM7;have HFC:Hid (fc[0]? =some (.func (.func 21) #[] #[.pointer (some ⟨w.heap.size,0,none⟩),.pointer (some ⟨BT,0,none⟩),.pointer (some ⟨PP,0,none⟩),.pointer (some ⟨PO,0,none⟩)])/\fc[1]? =some (.func (.func 23) #[] #[.pointer (some ⟨PP,0,none⟩),.pointer (some ⟨PI,0,none⟩)])/\fc[2]? =some (.func (.func 25) #[] #[.pointer (some ⟨PI,0,none⟩),.pointer (some ⟨PO,0,none⟩)])):=by rw[<-hfc];exact⟨rfl,rfl,rfl⟩
 clear hfc;go_loopg [23] 4 (λgg s23 wr=>∃q:Nat,q<=3/\3-q<gg/\s23=.int .i64 (q:Int)/\Hid (Stg V pr l k n x w.heap.size R PO PP PI FB w.heap.size BT fc #[.int .i64 k,.int .i64 n,.bool x,.slice a L c] #[.slice sa l.length sc] w q wr));case atStart=>exact⟨0,jD,jD,rfl,.inl ⟨rfl,HM7.out,HP7.out,HT7.out⟩⟩
 case round=>
  obtain⟨q,hq3,VP,rfl,HS⟩:=hrel;clear HM7 HP7 HT7;rcases HS.out with⟨rfl,A,hP,hT⟩|⟨rfl,hv,Q,es,s0,s1,hD,A⟩|⟨rfl,hv,dn,Q,es,s0,s1,p,cs,B0,ad,ic,hF,kJ,hQx,U,A,D⟩|⟨rfl,hv,out,m,gp,cp,pc,iv,B1,hpg,hcp,hby,ao2,A⟩
  ·have zl:=aT (uH wr A hP hT (HRs.out wr A.Zs));have HM:=aT A;have z0:=(A.fb.cell 0).trans HFC.out.1;clear A hP hT HS;go_wp2_with fail;refine zl.out.mono ?_;rintro e w8 ⟨ev,rfl,C6⟩;have my:=aT C6;clear C6 zl z0 HM;by_cases h0:ev=0
   ·subst h0
    have Nt:Hid (Stg V pr l k n x w.heap.size R PO PP PI FB w.heap.size BT fc #[.int .i64 k,.int .i64 n,.bool x,.slice a L c] #[.slice sa l.length sc] w 1 w8):=by
     rcases my.out with⟨h,_⟩|⟨_,hv,Q,es,s0,s1,hD,A⟩;·exact absurd rfl h
     ·exact .inr (.inl ⟨rfl,hv,Q,es,s0,s1,hD,A⟩)
    clear my;go_wp2_with fail;go_roundg (3-0);case measure=>omega
    case rel=>exact⟨1,jD,jD,rfl,Nt⟩
   ·have lQ:(ev != 0)=true:=by simpa using h0
    have HEr:Hid (∃z,(C ev\/bl=true)/\XU w.heap.size R PO PP PI FB fc w z (.slice none 0 0) WQ (.slice none 0 0) w8):=by
     rcases my.out with⟨_,h2,z,h3⟩|⟨h,_⟩;·exact⟨z,h2,h3⟩
     ·exact absurd h h0
    have H0:=aT h0;clear my h0;obtain⟨z,hc,A⟩:=HEr.out;have HC:=aT hc;have HM:=aT A;obtain⟨⟨o0,o1,o2⟩,_⟩:=X3 A.ob;obtain⟨⟨r0,r1,r2⟩,f0,f1,f2⟩:=X3 A.rb;clear hc A HEr;go_wp2_with fail;refine aag (FR rfl (JV HM.out.rb _ _ _) rfl) rfl ?_;exact .inl ⟨z,ev,H0.out,(by rw[HBl.out];exact HC.out.imp id .inl),rfl,JU HM.out.Zs HM.out.lo.1 _ _ _⟩
  ·obtain⟨dn,hf⟩:=hD.f;have hlen:=HL.out hv
   have hk:∀a,a<5->ZX (ZZ a (es a) s0 s1)<=NT L Cm:=λa ha=>by have h:=hf.cost (dW.out hv) ha;rw[hlen] at h;exact h
   obtain⟨lo,hr⟩:=hD.r;have T:Uq wr.heap.size wr Q es s0 s1:=hf.ok jO (dW.out hv) ao1 rfl (λa ha=>F3 (hr.O3 a ha)) (Hi (hr.subs 0 jD)) (Hi (hr.subs 1 jD));have nk:=aT (uG wr A T (λa ha=>aO (hk a ha) HCo.out));have jg:=aT (And.intro hf (And.intro hD.hd hD.hx));have z1:=(A.fb.cell 1).trans HFC.out.2.1;clear hf hlen hk hr T A hD HS;go_wp2_with fail;refine nk.out.mono ?_;rintro e w8 ⟨rfl,v,p,cs,U,I,D⟩;obtain⟨ad,ic,rfl⟩:=Z1 D;have Nt:Hid (Stg V pr l k n x w.heap.size R PO PP PI FB w.heap.size BT fc #[.int .i64 k,.int .i64 n,.bool x,.slice a L c] #[.slice sa l.length sc] w 2 w8):=.inr (.inr (.inl ⟨rfl,hv,dn,Q,es,s0,s1,p,cs,_,ad,ic,jg.out.1,jg.out.2.1,jg.out.2.2,U,I,D⟩));clear U I D nk z1 jg;go_wp2_with fail;go_roundg (3-1);case measure=>omega
   case rel=>exact⟨2,jD,jD,rfl,Nt⟩
  ·have HV:=aT hv;have hlen:=HL.out hv
   have hk:∀a,a<5->ZX (ZZ a (es a) s0 s1)<=NT L Cm:=λa ha=>by have h:=hF.cost (dW.out hv) ha;rw[hlen] at h;exact h
   have hres:=Mw hF U.d (U.x.trans hQx) U.p0 (by rw[<-hQx];exact U.p1) U.p2 U.p3 U.p4;have hIt:=Dt U.c hres.2 U.c32 U.max;have hKc:(Z6 (ZL p cs)).length<=80+10*NT L Cm:=aO hIt.pos.2 (Ad U hk (by unfold NT;omega));have HKc:=aT hKc;have HSy:Hid (∀out at_ ZU far,UY (ZL p cs) out at_ ZU far->(at_ 0=0/\ZU 0=false)->Says out l x (XR k n) pr):=λout at_ ZU far T hu=>by rw[<-kJ];exact iV hF hQx U T hu
   have HC3:=aT (uF wr A hIt D);have z2:=(A.fb.cell 2).trans HFC.out.2.2;clear hlen hk hres hIt hKc A D U hF kJ hQx HS;generalize (Z6 (ZL p cs)).length=KI at*;go_wp2_with fail;refine HC3.out.mono ?_;rintro e w8 ⟨v,out,at_,ZU,far,T,hu,I,(⟨rfl,h4⟩|⟨rfl,m,hpg,gp,cp,B1,rfl,hcp,hby⟩)⟩
   ·have H4:Hid (4096<3*(80+10*NT L Cm)):=by
     have:=HKc.out;show _<_;omega
    have HM8:=aT I;obtain⟨⟨o0,o1,o2⟩,_⟩:=X3 I.ob;obtain⟨⟨r0,r1,r2⟩,f0,f1,f2⟩:=X3 I.rb;clear T hu I h4 HC3 z2 o0;go_wp2_with fail;refine aag (FR rfl (JV HM8.out.rb _ _ _) rfl) rfl ?_;exact .inl ⟨0,3,jD,.inr (.inr ⟨rfl,H4.out⟩),rfl,JU HM8.out.Zs HM8.out.lo.1 _ _ _⟩
   ·have Nt:Hid (Stg V pr l k n x w.heap.size R PO PP PI FB w.heap.size BT fc #[.int .i64 k,.int .i64 n,.bool x,.slice a L c] #[.slice sa l.length sc] w 3 w8):=.inr (.inr (.inr ⟨rfl,HV.out,out,m,gp,cp,_,_,B1,hpg,hcp,hby,HSy.out out at_ ZU far T hu,I⟩));clear T hu I hpg hcp hby HC3 z2;go_wp2_with fail;go_roundg (3-2);case measure=>omega
    case rel=>exact⟨3,jD,jD,rfl,Nt⟩
  ·have HM:=aT A;have HPg:=aT (And.intro hpg (And.intro hcp (And.intro hby ao2)));obtain⟨⟨o0,o1,o2⟩,_⟩:=X3 A.ob;obtain⟨⟨r0,r1,r2⟩,f0,f1,f2⟩:=X3 A.rb;clear A hpg hcp hby ao2 HS;go_wp2_with fail;refine aag (FR rfl (JV HM.out.rb _ _ _) rfl) rfl ?_;have b0:Z7 (wr.setCell ⟨R,0,none⟩ (.slice (some ⟨gp,0,none⟩) (m*8) cp)) R G7 _:=HM.out.rb.set 0 _;have b1:=b0.set 1 (.int .i64 0);have aC3:=ZV (ZV (ZV HPg.out.2.2.1 HM.out.rb jD 0 (.slice (some ⟨gp,0,none⟩) (m*8) cp)) b0 jD 1 (.int .i64 0)) b1 jD 2 (.int .i64 0);exact .inr ⟨hv,out,m,gp,cp,rfl,HPg.out.1,HPg.out.2.1,OX (by rw[N1,HPg.out.1.len]) aC3,HPg.out.2.2.2,JU HM.out.Zs HM.out.lo.1 _ _ _⟩
end Go.Proofs.YtclgigmgbebhgaaGreatDoor
namespace Go.Proofs.YtclgigmgbebhgaaGreatDoor.Zh
open Tryz
open Go Go.Proofs Go.RowKit
theorem JT{w wx:World}{a:Addr}{v:Value}(hb:Below w.heap.size w wx)(h:w.cell? a=some v):wx.cell? a=some v:=(hb.cell (afe _ _ h)).trans h
theorem Px{P:Program}{md:Region.Mode}{ops:Array Oper}{Q:Exit->Act->World->Prop}{S S':World->Prop}(hs:∀w,S' w->S w):
 ∀(fuel:Nat) (listed:Array Bool) (a:Act) (w:World),wpAnyH P md ops Q S' fuel listed a w->wpAnyH P md ops Q S fuel listed a w
 |0,_,_,_,h=>h
 |fuel+1,_,_,_,h=>⟨h.1,λi hi=>wpOp_mono (λa' w' A=>⟨hs w' A.1,Px hs fuel _ a' w' A.2⟩) (h.2 i hi)⟩
end Go.Proofs.YtclgigmgbebhgaaGreatDoor.Zh
namespace Go.Proofs.YtclgigmgbebhgaaGreatDoor
open Tryz
open Go Go.Proofs Go.RowKit
theorem uD(w:World):Calls prog 7 #[] w λe w'=>e=.returned (.bool true)/\w'=w:=by
 go_enter func7,ntmps7
 go_wp2_with (go_at_call 20;refine(Pe 4294967298 jD _).mono ?_;rintro e A ⟨rfl,rfl⟩)
 go_ret;exact⟨rfl,rfl⟩
theorem M5{fn:Func}{t:Tmp}{T:Nat}(h:fn.results=#[.cell t T]){tmps:Array Value}{W:World}{R T2:Nat}{c0 c1 c2 c3:Value}(A:T=TC\/T=TR\/T=VZ)(hb:Z7 W R T2 #[c0,c1,c2,c3])(ht:tmps.getD t undef=.pointer (some ⟨R,0,none⟩)):(results fn tmps).run prog W=.ok (.agg #[c0,c1,c2,c3]) W:=by
 obtain⟨⟨e0,e1,e2,e3⟩,_⟩:=Z8 hb;rw[aif] at ht;rcases A with rfl|rfl|rfl<;>simp[results,h,go_sem,ht,e0,e1,e2,e3]
theorem Ac(a o m v:Int)(w:World):Calls prog 19 #[.agg #[.int .i64 a,.int .i64 o,.int .u64 m,.int .u64 v]] w λe w'=>e=.returned (.agg #[.int .i64 a,.int .i64 o,.int .u64 m,.int .u64 v])/\Below w.heap.size w w':=by
 have J:=aT (KM w (.cells #[.int .i64 a,.int .i64 o,.int .u64 m,.int .u64 v] 27) (.cells #[.int .i64 0,.int .i64 0,.int .u64 0,.int .u64 0] TC));have I:=aT ((Z7.new w 27 #[.int .i64 a,.int .i64 o,.int .u64 m,.int .u64 v]).alloc (.cells #[.int .i64 0,.int .i64 0,.int .u64 0,.int .u64 0] TC));have A:Hid (Z7 ((w.alloc (.cells #[.int .i64 a,.int .i64 o,.int .u64 m,.int .u64 v] 27)).alloc (.cells #[.int .i64 0,.int .i64 0,.int .u64 0,.int .u64 0] TC)) (w.heap.size+1) TC #[.int .i64 0,.int .i64 0,.int .u64 0,.int .u64 0]):=Z7.O9 w _ TC _;go_enter func19,ntmps19;go_upto_region 1 with fail;generalize (w.alloc (.cells #[.int .i64 a,.int .i64 o,.int .u64 m,.int .u64 v] 27)).alloc (.cells #[.int .i64 0,.int .i64 0,.int .u64 0,.int .u64 0] TC)=w1 at*;obtain⟨R,D⟩:=jX (w.heap.size+1);rw[D] at A ⊢;have C:w.heap.size<=R:=jO;clear D;obtain⟨⟨z0,z1,Y,z3⟩,_⟩:=Z8 I;obtain⟨⟨r0,r1,r2,r3⟩,T,f1,U,Z⟩:=Z8 A;go_wp2_with fail;refine aag (M5 rfl (.inl rfl) (ZG A _ _ _ _) rfl) rfl ?_;exact⟨rfl,ZF J C _ _ _ _⟩
end Go.Proofs.YtclgigmgbebhgaaGreatDoor
namespace Go.Proofs.YtclgigmgbebhgaaGreatDoor.X7
open Tryz
open Go Go.Proofs Go.RowKit
def O6(p:Nat->Bool):Int:=if p 0=true then 0 else if p 1=true then 1 else if p 2=true then 2 else if p 3=true then 3 else if p 4=true then 4 else if p 5=true then 5 else if p 6=true then 6 else if p 7=true then 7 else -1
def dV(c k:Int):Prop:=YY k<=c/\c<=YY k+YF k
instance (c k:Int):Decidable (dV c k):=by unfold dV;infer_instance
theorem oZ{W W':World}{B:Nat}{t:TypeId}{cs:Array Value}(h:Hid (Z7 W B t cs))(hb:Below W.heap.size W W'):Hid (Z7 W' B t cs):=h.below hb h.lt
theorem ao3{a W W':World}(h:Hid (Below a.heap.size a W))(hb:Below W.heap.size W W'):Hid (Below a.heap.size a W'):=h.trans (hb.mono h.size)
end Go.Proofs.YtclgigmgbebhgaaGreatDoor.X7
namespace Go.Proofs
open Tryz
open Go.Shelf
def Tryz.iT:Go.Shelf.Ren:=⟨fun|171=>210|243=>271|246=>332|283=>353|284=>354|285=>355|286=>356|129=>155|317=>363|318=>364|319=>365|320=>366|337=>367|338=>368|n=>n,fun|3=>3|9=>9|2=>2|4=>4|171=>420|0=>0|53=>23|37=>42|5=>5|173=>422|212=>433|51=>53|20=>20|213=>434|46=>107|232=>435|233=>436|n=>n,fun|17=>3|18=>4|19=>5|n=>n⟩
def Tryz.C5:Go.Shelf.Ren:=⟨fun|137=>207|217=>269|266=>331|n=>n,fun|9=>9|5=>5|3=>3|n=>n,fun|n=>n⟩
theorem Tryz.iR:Go.Proofs.Lays.n137 prog Tryz.C5:={
 mixed:=by kernel_rfl
 f137:=func207.trans (congrArg some (by kernel_rfl))
 f217:=func269.trans (congrArg some (by kernel_rfl))
 f266:=func331.trans (congrArg some (by kernel_rfl))
 t3:=underlying3
 a3:=isAgg3
 z3:=sizeOf3
 v3:=zeroValue3
 t5:=underlying5
 a5:=isAgg5
 z5:=sizeOf5
 v5:=zeroValue5
 t9:=underlying9
 a9:=isAgg9
 z9:=sizeOf9
 v9:=zeroValue9}
def Tryz.C4:Go.Shelf.Ren:=⟨fun|160=>206|232=>263|231=>262|227=>264|234=>266|233=>265|236=>268|235=>267|228=>327|271=>330|151=>329|197=>328|120=>352|152=>351|260=>350|137=>207|119=>360|224=>361|225=>362|217=>269|266=>331|n=>n,fun|9=>9|4=>4|3=>3|5=>5|117=>363|116=>362|0=>0|124=>366|21=>21|105=>403|46=>107|119=>427|139=>430|138=>429|n=>n,fun|3=>1|4=>2|n=>n⟩
theorem Tryz.iQ:Go.Proofs.Lays.n160 prog Tryz.C4:={
 mixed:=by kernel_rfl
 f119:=func360.trans (congrArg some (by kernel_rfl))
 f120:=func352.trans (congrArg some (by kernel_rfl))
 f137:=func207.trans (congrArg some (by kernel_rfl))
 f151:=func329.trans (congrArg some (by kernel_rfl))
 f152:=func351.trans (congrArg some (by kernel_rfl))
 f160:=func206.trans (congrArg some (by kernel_rfl))
 f197:=func328.trans (congrArg some (by kernel_rfl))
 f217:=func269.trans (congrArg some (by kernel_rfl))
 f224:=func361.trans (congrArg some (by kernel_rfl))
 f225:=func362.trans (congrArg some (by kernel_rfl))
 f227:=func264.trans (congrArg some (by kernel_rfl))
 f228:=func327.trans (congrArg some (by kernel_rfl))
 f231:=func262.trans (congrArg some (by kernel_rfl))
 f232:=func263.trans (congrArg some (by kernel_rfl))
 f233:=func265.trans (congrArg some (by kernel_rfl))
 f234:=func266.trans (congrArg some (by kernel_rfl))
 f235:=func267.trans (congrArg some (by kernel_rfl))
 f236:=func268.trans (congrArg some (by kernel_rfl))
 f260:=func350.trans (congrArg some (by kernel_rfl))
 f266:=func331.trans (congrArg some (by kernel_rfl))
 f271:=func330.trans (congrArg some (by kernel_rfl))
 t0:=underlying0
 a0:=isAgg0
 z0:=sizeOf0
 v0:=zeroValue0
 t3:=underlying3
 a3:=isAgg3
 z3:=sizeOf3
 v3:=zeroValue3
 t4:=underlying4
 a4:=isAgg4
 z4:=sizeOf4
 v4:=zeroValue4
 t5:=underlying5
 a5:=isAgg5
 z5:=sizeOf5
 v5:=zeroValue5
 t9:=underlying9
 a9:=isAgg9
 z9:=sizeOf9
 v9:=zeroValue9
 t21:=underlying21
 a21:=isAgg21
 z21:=sizeOf21
 v21:=zeroValue21
 t46:=underlying107
 a46:=isAgg107
 z46:=sizeOf107
 v46:=zeroValue107
 t105:=underlying403
 a105:=isAgg403
 z105:=sizeOf403
 v105:=zeroValue403
 t116:=underlying362
 a116:=isAgg362
 z116:=sizeOf362
 t117:=underlying363
 a117:=isAgg363
 z117:=sizeOf363
 v117:=zeroValue363
 t119:=underlying427
 a119:=isAgg427
 z119:=sizeOf427
 t124:=underlying366
 a124:=isAgg366
 z124:=sizeOf366
 v124:=zeroValue366
 t138:=underlying429
 a138:=isAgg429
 z138:=sizeOf429
 v138:=zeroValue429
 t139:=underlying430
 a139:=isAgg430
 z139:=sizeOf430
 v139:=zeroValue430
 g3:=by kernel_rfl
 g4:=by kernel_rfl}
def Tryz.C3:Go.Shelf.Ren:=⟨fun|171=>210|243=>271|246=>332|283=>353|284=>354|285=>355|286=>356|129=>155|317=>363|318=>364|319=>365|320=>366|337=>367|338=>368|n=>n,fun|3=>3|9=>9|2=>2|4=>4|171=>420|0=>0|53=>23|37=>42|5=>5|173=>422|212=>433|51=>53|20=>20|213=>434|46=>107|232=>435|233=>436|n=>n,fun|17=>3|18=>4|19=>5|n=>n⟩
theorem Tryz.iO:Go.Proofs.Lays.n171 prog Tryz.C3:={
 mixed:=by kernel_rfl
 f129:=func155.trans (congrArg some (by kernel_rfl))
 f171:=func210.trans (congrArg some (by kernel_rfl))
 f243:=func271.trans (congrArg some (by kernel_rfl))
 f246:=func332.trans (congrArg some (by kernel_rfl))
 f283:=func353.trans (congrArg some (by kernel_rfl))
 f284:=func354.trans (congrArg some (by kernel_rfl))
 f285:=func355.trans (congrArg some (by kernel_rfl))
 f286:=func356.trans (congrArg some (by kernel_rfl))
 f317:=func363.trans (congrArg some (by kernel_rfl))
 f318:=func364.trans (congrArg some (by kernel_rfl))
 f319:=func365.trans (congrArg some (by kernel_rfl))
 f320:=func366.trans (congrArg some (by kernel_rfl))
 f337:=func367.trans (congrArg some (by kernel_rfl))
 f338:=func368.trans (congrArg some (by kernel_rfl))
 t0:=underlying0
 a0:=isAgg0
 z0:=sizeOf0
 v0:=zeroValue0
 t2:=underlying2
 a2:=isAgg2
 z2:=sizeOf2
 v2:=zeroValue2
 t3:=underlying3
 a3:=isAgg3
 z3:=sizeOf3
 v3:=zeroValue3
 t4:=underlying4
 a4:=isAgg4
 z4:=sizeOf4
 v4:=zeroValue4
 t5:=underlying5
 a5:=isAgg5
 z5:=sizeOf5
 v5:=zeroValue5
 t9:=underlying9
 a9:=isAgg9
 z9:=sizeOf9
 v9:=zeroValue9
 t20:=underlying20
 a20:=isAgg20
 z20:=sizeOf20
 v20:=zeroValue20
 t37:=underlying42
 a37:=isAgg42
 z37:=sizeOf42
 v37:=zeroValue42
 t46:=underlying107
 a46:=isAgg107
 z46:=sizeOf107
 v46:=zeroValue107
 t51:=underlying53
 a51:=isAgg53
 z51:=sizeOf53
 v51:=zeroValue53
 t53:=underlying23
 a53:=isAgg23
 z53:=sizeOf23
 v53:=zeroValue23
 t171:=underlying420
 a171:=isAgg420
 z171:=sizeOf420
 v171:=zeroValue420
 t173:=underlying422
 a173:=isAgg422
 z173:=sizeOf422
 v173:=zeroValue422
 t212:=underlying433
 a212:=isAgg433
 z212:=sizeOf433
 v212:=zeroValue433
 t213:=underlying434
 a213:=isAgg434
 z213:=sizeOf434
 t232:=underlying435
 a232:=isAgg435
 z232:=sizeOf435
 v232:=zeroValue435
 t233:=underlying436
 a233:=isAgg436
 z233:=sizeOf436
 v233:=zeroValue436
 g17:=by kernel_rfl
 g18:=by kernel_rfl
 g19:=by kernel_rfl}
def Tryz.C2:Go.Shelf.Ren:=⟨fun|283=>353|n=>n,fun|3=>3|9=>9|4=>4|n=>n,fun|n=>n⟩
theorem Tryz.iN:Go.Proofs.Lays.n283 prog Tryz.C2:={
 mixed:=by kernel_rfl
 f283:=func353.trans (congrArg some (by kernel_rfl))
 t3:=underlying3
 a3:=isAgg3
 z3:=sizeOf3
 v3:=zeroValue3
 t4:=underlying4
 a4:=isAgg4
 z4:=sizeOf4
 v4:=zeroValue4
 t9:=underlying9
 a9:=isAgg9
 z9:=sizeOf9
 v9:=zeroValue9}
def Tryz.FQ:Go.Shelf.Ren:=⟨fun|284=>354|129=>155|317=>363|318=>364|n=>n,fun|53=>23|3=>3|212=>433|0=>0|4=>4|46=>107|5=>5|9=>9|n=>n,fun|17=>3|n=>n⟩
theorem Tryz.oY:Go.Proofs.LaysM.n284 prog Tryz.FQ:={
 mixed:=by kernel_rfl
 f129:=func155.trans (congrArg some (by kernel_rfl))
 f284:=func354.trans (congrArg some (by kernel_rfl))
 f317:=func363.trans (congrArg some (by kernel_rfl))
 f318:=func364.trans (congrArg some (by kernel_rfl))
 t0:=underlying0
 a0:=isAgg0
 z0:=sizeOf0
 v0:=zeroValue0
 t3:=underlying3
 a3:=isAgg3
 z3:=sizeOf3
 v3:=zeroValue3
 t4:=underlying4
 a4:=isAgg4
 z4:=sizeOf4
 v4:=zeroValue4
 t5:=underlying5
 a5:=isAgg5
 z5:=sizeOf5
 v5:=zeroValue5
 t9:=underlying9
 a9:=isAgg9
 z9:=sizeOf9
 v9:=zeroValue9
 t46:=underlying107
 a46:=isAgg107
 z46:=sizeOf107
 v46:=zeroValue107
 t53:=underlying23
 a53:=isAgg23
 z53:=sizeOf23
 v53:=zeroValue23
 t212:=underlying433
 a212:=isAgg433
 z212:=sizeOf433
 v212:=zeroValue433
 g17:=by kernel_rfl
 i0:=by kernel_rfl
 i3:=by kernel_rfl
 i4:=by kernel_rfl
 i5:=by kernel_rfl
 i9:=by kernel_rfl
 i46:=by kernel_rfl
 i53:=by kernel_rfl
 i212:=by kernel_rfl
 m17:=by kernel_rfl}
def Tryz.C1:Go.Shelf.Ren:=⟨fun|285=>355|n=>n,fun|37=>42|53=>23|3=>3|4=>4|51=>53|9=>9|5=>5|0=>0|n=>n,fun|n=>n⟩
theorem Tryz.iM:Go.Proofs.Lays.n285 prog Tryz.C1:={
 mixed:=by kernel_rfl
 f285:=func355.trans (congrArg some (by kernel_rfl))
 t0:=underlying0
 a0:=isAgg0
 z0:=sizeOf0
 v0:=zeroValue0
 t3:=underlying3
 a3:=isAgg3
 z3:=sizeOf3
 v3:=zeroValue3
 t4:=underlying4
 a4:=isAgg4
 z4:=sizeOf4
 v4:=zeroValue4
 t5:=underlying5
 a5:=isAgg5
 z5:=sizeOf5
 v5:=zeroValue5
 t9:=underlying9
 a9:=isAgg9
 z9:=sizeOf9
 v9:=zeroValue9
 t37:=underlying42
 a37:=isAgg42
 z37:=sizeOf42
 v37:=zeroValue42
 t51:=underlying53
 a51:=isAgg53
 z51:=sizeOf53
 v51:=zeroValue53
 t53:=underlying23
 a53:=isAgg23
 z53:=sizeOf23
 v53:=zeroValue23}
def Tryz.LY:Go.Shelf.Ren:=⟨fun|156=>133|165=>213|166=>214|169=>215|240=>282|241=>283|276=>338|277=>339|n=>n,fun|31=>195|9=>9|3=>3|4=>4|0=>0|20=>20|72=>318|76=>321|70=>316|37=>42|75=>320|127=>375|164=>409|5=>5|80=>323|n=>n,fun|n=>n⟩
theorem Tryz.x6:Go.Proofs.Lays.n156 prog Tryz.LY:={
 mixed:=by kernel_rfl
 f156:=func133.trans (congrArg some (by kernel_rfl))
 f165:=func213.trans (congrArg some (by kernel_rfl))
 f166:=func214.trans (congrArg some (by kernel_rfl))
 f169:=func215.trans (congrArg some (by kernel_rfl))
 f240:=func282.trans (congrArg some (by kernel_rfl))
 f241:=func283.trans (congrArg some (by kernel_rfl))
 f276:=func338.trans (congrArg some (by kernel_rfl))
 f277:=func339.trans (congrArg some (by kernel_rfl))
 t0:=underlying0
 a0:=isAgg0
 z0:=sizeOf0
 v0:=zeroValue0
 t3:=underlying3
 a3:=isAgg3
 z3:=sizeOf3
 v3:=zeroValue3
 t4:=underlying4
 a4:=isAgg4
 z4:=sizeOf4
 v4:=zeroValue4
 t9:=underlying9
 a9:=isAgg9
 z9:=sizeOf9
 v9:=zeroValue9
 t20:=underlying20
 a20:=isAgg20
 z20:=sizeOf20
 v20:=zeroValue20
 t31:=underlying195
 a31:=isAgg195
 z31:=sizeOf195
 v31:=zeroValue195
 t37:=underlying42
 a37:=isAgg42
 z37:=sizeOf42
 v37:=zeroValue42
 t70:=underlying316
 a70:=isAgg316
 z70:=sizeOf316
 v70:=zeroValue316
 t72:=underlying318
 a72:=isAgg318
 z72:=sizeOf318
 v72:=zeroValue318
 t75:=underlying320
 a75:=isAgg320
 z75:=sizeOf320
 v75:=zeroValue320
 t76:=underlying321
 a76:=isAgg321
 z76:=sizeOf321
 v76:=zeroValue321
 t127:=underlying375
 a127:=isAgg375
 z127:=sizeOf375
 v127:=zeroValue375
 t164:=underlying409
 a164:=isAgg409
 z164:=sizeOf409
 v164:=zeroValue409}
def Tryz.CZ:Go.Shelf.Ren:=⟨fun|194=>134|n=>n,fun|31=>195|9=>9|3=>3|4=>4|0=>0|n=>n,fun|n=>n⟩
theorem Tryz.xZ:Go.Proofs.Lays.n194 prog Tryz.CZ:={
 mixed:=by kernel_rfl
 f194:=func134.trans (congrArg some (by kernel_rfl))
 t0:=underlying0
 a0:=isAgg0
 z0:=sizeOf0
 v0:=zeroValue0
 t3:=underlying3
 a3:=isAgg3
 z3:=sizeOf3
 v3:=zeroValue3
 t4:=underlying4
 a4:=isAgg4
 z4:=sizeOf4
 v4:=zeroValue4
 t9:=underlying9
 a9:=isAgg9
 z9:=sizeOf9
 v9:=zeroValue9
 t31:=underlying195
 a31:=isAgg195
 z31:=sizeOf195
 v31:=zeroValue195}
end Go.Proofs
namespace Go.Proofs.YtclgigmgbebhgaaGreatDoor.X7
open Tryz
open Go Go.Proofs Go.RowKit
def YE(n:Nat):ByteArray:=⟨(Lib.decDigits n).toArray⟩
theorem M4(n:Nat)(h:n<18446744073709551616):(YE n).size<=20:=by
 have A:=Lib.nDigits_le20 n h;rw[<-Lib.decDigits_length] at A;exact A
def Xb(W:World):Prop:=Lib.TabIs prog W "internal/strconv.uint64pow10" .u64 Lib.pow10Tab
theorem Xb.below{W W':World}(h:Xb W)(hb:Below W.heap.size W W'):Xb W':=by
 cases A:prog.globalNamed "internal/strconv.uint64pow10" with
 |none=>unfold Xb Lib.TabIs World.var? at h;rw[A] at h;cases h
 |some g=>exact Go.Joins.tab_stays A h hb (aR _)
def ac8(s:ByteArray):Option Nat:=
 if s.size=0\/9<s.size\/(s.data.toList.head? =some 48/\1<s.size) then none else Lib.decFrom 0 s.data.toList
end Go.Proofs.YtclgigmgbebhgaaGreatDoor.X7
namespace Go.Proofs.YtclgigmgbebhgaaGreatDoor.X7
open Tryz
open Go Go.Proofs Go.RowKit Go.Shelf Go.Lib
theorem dropWhile_nil{p:UInt8->Bool}:∀l:List UInt8,l.dropWhile p=[]↔∀b∈l,p b=true
 |[]=>jS
 |x::r=>by
  have A:=dropWhile_nil (p:=p) r;by_cases h:p x=true;·simp[h,A]
  ·simp[h]
theorem Yo{p:UInt8->Bool}:∀l:List UInt8,(∀b∈l.dropWhile p,p b=true)->∀b∈l,p b=true
 |[],_=>jS
 |x::r,h=>by
  by_cases hx:p x=true
  ·have A:=Yo (p:=p) r (by simpa [aqb,hx] using h);intro b hb;rcases abf.1 hb with rfl|hb;·exact hx
   ·exact A b hb
  ·exact absurd (h x (by simp[hx])) hx
theorem QR(l cs:List UInt8):trimS l cs=[]↔∀b∈l,cs.contains b=true:=by
 unfold trimS trimLeftS;rw[dropWhile_nil];constructor
 ·intro h;have A:∀b∈l.reverse.dropWhile (cs.contains ·),cs.contains b=true:=λb hb=>h b (by unfold trimRightS;simpa using hb)
  have:=Yo l.reverse A;intro b hb;exact this b (by simpa using hb)
 ·intro h b hb;unfold trimRightS at hb;have:=(awd (l:=l.reverse) (cs.contains ·)).subset (by simpa using hb:b∈_);exact h b (by simpa using this)
end Go.Proofs.YtclgigmgbebhgaaGreatDoor.X7
namespace Go.Proofs.YtclgigmgbebhgaaGreatDoor.X7
open Tryz
open Go Go.Proofs Go.RowKit
def CY(s:ByteArray)(j:Nat):Bool:=(Xp (j+1)).toList == s.toList
def JS(K:Int):List ByteArray->Int×Int×Int×Int
 |[]=>(0,0,0,13)
 |t::_=>
  match ac8 t with
  |none=>(0,0,0,13)
  |some n=>if YF K<(n:Int) then(0,0,0,16) else(K,(n:Int),2,0)
def UB:List ByteArray->Int×Int×Int×Int
 |[]=>(0,0,0,4)
 |s::r=>
  if O6 (CY s)= -1 then(0,0,0,14)
  else if ¬(O6 (CY s)+1=4\/O6 (CY s)+1=6) then(O6 (CY s)+1,0,1,0)
  else JS (O6 (CY s)+1) r
end Go.Proofs.YtclgigmgbebhgaaGreatDoor.X7
namespace Go.Proofs.YtclgigmgbebhgaaGreatDoor.Zh
open Tryz
open Go Go.Proofs Go.Lib
def aC4(c:UInt8):Option Nat:=if 48<=c.toNat/\c.toNat<=57 then some (c.toNat-48) else if 97<=c.toNat/\c.toNat<=102 then some (c.toNat-87) else none
def xY(B acc:Nat):List UInt8->Option Nat
 |[]=>some acc
 |c::r=>match aC4 c with
  |some d=>if d<B/\acc*B+d<18446744073709551616 then xY B (acc*B+d) r else none
  |none=>none
def xX(B:Nat)(l:List UInt8):Option Nat:=if l=[]\/(l.head? =some 48/\l≠[48]) then none else xY B 0 l
def numOf(l:List UInt8):Option Nat:=if hasPrefix l [48,120]=true then xX 16 (trimPrefix l [48,120]) else xX 10 l
theorem dropWhile_nil{p:UInt8->Bool}:∀l:List UInt8,l.dropWhile p=[]↔∀b∈l,p b=true
 |[]=>jS
 |x::r=>by
  have A:=dropWhile_nil (p:=p) r;by_cases h:p x=true;·simp[h,A]
  ·simp[h]
theorem Yo{p:UInt8->Bool}:∀l:List UInt8,(∀b∈l.dropWhile p,p b=true)->∀b∈l,p b=true
 |[],_=>jS
 |x::r,h=>by
  by_cases hx:p x=true
  ·have A:=Yo (p:=p) r (by simpa [aqb,hx] using h);intro b hb;rcases abf.1 hb with rfl|hb;·exact hx
   ·exact A b hb
  ·exact absurd (h x (by simp[hx])) hx
theorem QR(l cs:List UInt8):trimS l cs=[]↔∀b∈l,cs.contains b=true:=by
 unfold trimS trimLeftS;rw[dropWhile_nil];constructor
 ·intro h;have A:∀b∈l.reverse.dropWhile (cs.contains ·),cs.contains b=true:=λb hb=>h b (by unfold trimRightS;simpa using hb)
  have:=Yo l.reverse A;intro b hb;exact this b (by simpa using hb)
 ·intro h b hb;unfold trimRightS at hb;have:=(awd (l:=l.reverse) (cs.contains ·)).subset (by simpa using hb:b∈_);exact h b (by simpa using this)
end Go.Proofs.YtclgigmgbebhgaaGreatDoor.Zh
