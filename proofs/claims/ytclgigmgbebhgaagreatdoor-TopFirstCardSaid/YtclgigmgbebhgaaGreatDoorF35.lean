/- TopFirst: part 35: TopBld2 Holds TopLw1 ActIdx ActRFrom Shelf ActText ActTxt ActNum ActPlain ActRd ActRead CondNumP. -/
import Derived.Shelf.Strconv.Itoa3
import Derived.Shelf.Small.Strs
import Derived.Shelf.Strings.Search1
import Derived.Shelf.Strings.SlTrimAscii
import Derived.Shelf.Strings.OnBuilder
import Derived.Shelf.Small.Wraps
import Derived.Shelf.Slices.CompactS
import Derived.Lib.ItoaLen
import Derived.Lib.SmallJoins
import Derived.Lib.QuietBelow
import Derived.Lib.Atoi
import Derived.Lib.SlTrimSet
import Derived.Shelf.Strconv.Atoi
import Derived.Lib.ParseIntB
import Derived.Lib.Strings
import Derived.Test.YtclgigmgbebhgaaGreatDoorF34
set_option linter.unusedVariables false
set_option linter.unusedSimpArgs false
set_option maxRecDepth 100000
set_option maxHeartbeats 16000000
namespace Go.Proofs.YtclgigmgbebhgaaGreatDoor
open Tryz
open Go Go.Proofs Go.RowKit
def Says(out:List ZN)(l:List Z4.Z1)(x:Bool)(d:Nat)(pr:List NR):Prop:=∀w:Nat->Nat,GG w->∀a i,a<5->i<l.length->0<=(l[i]!).num a->w 4=Zb a->w 0=whole a ((l[i]!).num a).toNat->Zh w out 0=some (Mr w x d a pr (l[i]!).name)
theorem jl{pr:List NR}{l:List Z4.Z1}{x:Bool}{dn:List (ByteArray×List Z3)}{q:X5}{es:Nat->List Xk}{s0 s1:List (Nat×Nat)}{p:YE}{cs:List Nat}{out:List ZN}{at_:Nat->Nat}{ZU far:Nat->Bool}(hf:U1 pr l q.d x dn es s0 s1)(hx:q.x=x)(hi:C5 q es s0 s1 p cs)(C:UK (ZL p cs) out at_ ZU far)(hu:at_ 0=0/\ZU 0=false):Says out l x q.d pr:=λw hw a i ha hl J I hn=>by
 subst hx;obtain⟨D,_⟩:=Mk hf hi.d hi.x hi.p0 hi.p1 hi.p2 hi.p3 hi.p4;have h:Zh w (out.drop (at_ 0)) 0=Wd w (ZL p cs) 0:=Lk (w:=w) (Vt hi.c) C (ZL p cs).length (ZL p cs) [] 0 (aR _) rfl hu.2;rw[hu.1,auf] at h;rw[h,sZ hw D.ok hi.c,vy hf.tab hf.all (by rw[hi.d];exact hf.uP) D hw ha hl J I hn,hi.d,hi.x]
theorem Af{q:X5}{es:Nat->List Xk}{s0 s1:List (Nat×Nat)}{p:YE}{cs:List Nat}{X:Nat}(hi:C5 q es s0 s1 p cs)(hX:∀a,a<5->ZW (ZZ a (es a) s0 s1)<=X)(D:2<=X):(ZL p cs).length<=80+10*X:=by
 have h0:=Y2 hi.p0.1;have C:=Y2 hi.p2.1;have J:=Y2 hi.p3.1;have Z:=Y2 hi.p4.1;have x0:=hX 0 jD;have I:=hX 1 jD;have T:=hX 2 jD;have Y:=hX 3 jD;have U:=hX 4 jD;have h1:ZW p.p1<=X:=by
  cases hx:q.x with
  |true=>rw[Y2 (hi.p1.1 hx)];exact I
  |false=>rw[hi.p1.2.1 hx];exact D
 have hl:=hi.len;unfold TP at hl;omega
def Tx(L C:Nat):Nat:=18+17*L+L*(8*C+4)
def JM(C:Int->Prop)(bl:Bool)(L Cm:Nat)(w:World)(e:Ending)(w':World):Prop:=∃z ev:Int,ev≠0/\(C ev\/bl=true\/(ev=3/\4096<3*(80+10*Tx L Cm)))/\e=.returned (.tuple #[.agg #[.slice none 0 0,.int .i64 0,.int .i64 z],.int .i64 ev])/\Below w.heap.size w w'
def JL(pr:List NR)(l:List Z4.Z1)(k n:Int)(x:Bool)(w:World)(e:Ending)(w':World):Prop:=∃(out:List ZN) (m gp cp:Nat),e=.returned (.tuple #[.agg #[.slice (some ⟨gp,0,none⟩) (m*8) cp,.int .i64 0,.int .i64 0],.int .i64 0])/\XP out m/\m*8<=cp/\Yi w'.heap.size w' (some ⟨gp,0,none⟩) (Yz out)/\Says out l x (YM k n) pr/\Below w.heap.size w w'
theorem FO{fn:Func}{t u:Tmp}(h:fn.results=#[.cell t G0,.tmp u]){tmps:Array Value}{W:World}{R:Nat}{c0 c1 c2:Value}(hb:Z7 W R G0 #[c0,c1,c2])(ht:tmps.getD t undef=.pointer (some ⟨R,0,none⟩)):(results fn tmps).run prog W=.ok (.tuple #[.agg #[c0,c1,c2],tmps.getD u undef]) W:=by
 obtain⟨⟨e0,e1,e2⟩,_⟩:=XY hb;rw[ajb] at ht;simp[results,h,go_sem,ht,e0,e1,e2]
theorem JK{W:World}{R t:Nat}{c0 c1 c2:Value}(hb:Z7 W R t #[c0,c1,c2])(C D I:Value):Z7 (((W.setCell ⟨R,0,none⟩ C).setCell ⟨R,1,none⟩ D).setCell ⟨R,2,none⟩ I) R t #[C,D,I]:=by
 have U:Z7 _ R t #[C,c1,c2]:=hb.set 0 C;have J:Z7 _ R t #[C,D,c2]:=U.set 1 D;have T:Z7 _ R t #[C,D,I]:=J.set 2 I;exact T
theorem JJ{w W:World}{n R:Nat}(hb:Below n w W)(h:n<=R)(C D I:Value):Below n w (((W.setCell ⟨R,0,none⟩ C).setCell ⟨R,1,none⟩ D).setCell ⟨R,2,none⟩ I):=
 ((hb.setCell (p:=⟨R,0,none⟩) h C).setCell (p:=⟨R,1,none⟩) h D).setCell (p:=⟨R,2,none⟩) h I
section
variable (V:Prop) (pr:List NR) (l:List Z4.Z1) (k n:Int) (x:Bool) (s R PO PP PI FB BP BT:Nat) (fc pb tb:Array Value) (w:World)
def Stg(q:Nat)(W:World):Prop:=
 (q=0/\XO s R PO PP PI FB fc w 0 (.slice none 0 0) WN (.slice none 0 0) W/\Z7 W BP VQ pb/\Z7 W BT 41 tb)\/
 (q=1/\V/\∃Q es s0 s1,eK pr l k n x Q es s0 s1 W/\XO s R PO PP PI FB fc w 0 (.slice none 0 0) (Zy Q) (.slice none 0 0) W)\/
 (q=2/\V/\∃dn Q es s0 s1 p cs B0 ad c,U1 pr l Q.d x dn es s0 s1/\Q.d=YM k n/\Q.x=x/\C5 Q es s0 s1 p cs/\XO s R PO PP PI FB fc w 0 (.slice none 0 0) (Zy Q) (.slice ad (ZL p cs).length c) W/\W.ownsRow B0 Wc 5 (.slice ad (ZL p cs).length c) (ZL p cs).length (XT (ZL p cs)))\/
 (q=3/\V/\∃out m gp cp pc iv B1,XP out m/\m*8<=cp/\W.ownsRow B1 5 1 (.slice (some ⟨gp,0,none⟩) (m*8) cp) (m*8) (Zl (Yz out))/\Says out l x (YM k n) pr/\XO s R PO PP PI FB fc w 0 (.slice (some ⟨gp,0,none⟩) (m*8) cp) pc iv W)
end
theorem GZ{V:Prop}{C:Int->Prop}{N L c Cm:Nat}{a:Option Addr}{pr:List NR}{k n:Int}{x:Bool}(sa:Option Addr)(sc:Nat)(l:List Z4.Z1)(hL:V->pr.length=L)(Xo:L<=500)(eJ:Tx L Cm<=10000)(w:World)(hQ:V->Uv N w a pr)(hN:N<=w.heap.size)(KH:l.length<=1000000)(hR:Z4.Xv w (.slice sa l.length sc) l)
 (hV:∀W,Below w.heap.size w W->Calls prog 34 #[.agg #[.int .i64 k,.int .i64 n,.bool x,.slice a L c],.slice sa l.length sc] W λe w'=>∃z ev:Int,e=.returned (.tuple #[.int .i64 z,.int .i64 ev])/\C ev/\(ev=0->V)/\Below W.heap.size W w')
 (hT:V->Z4.ZA l) (hall:V->∀r∈pr,0<=Z4.firstIdx (Z4.UO r.nm) l) (hsz:V->∀r∈pr,r.nm.size<=1000/\r.cs.length<=1000/\∀c∈r.cs,c.right) (hcm:V->∀r∈pr,r.cs.length<=Cm) (ac3:Cm<=1000000)
 (U6:V->∀W,Below w.heap.size w W->Calls prog 75 #[.agg #[.int .i64 k,.int .i64 n,.bool x,.slice a L c]] W λe w'=>e=.returned (.bool true)/\Below W.heap.size W w')
 (po:V->Yk.Zu k n=true/\∀r∈pr,Yk.Zu r.k r.n=true):
 Calls prog 10 #[.agg #[.int .i64 k,.int .i64 n,.bool x,.slice a L c],.slice sa l.length sc] w λe w'=>JM C (pr.any (Xf l)) L Cm w e w'\/(V/\JL pr l k n x w e w'):=by
 have HRs:=aT (λW (hb:Below w.heap.size w W)=>C9 (V:=V) (C:=C) (N:=N) (c:=c) (x:=x) sa sc l hL Xo W (λhv=>(hQ hv).below hb hN) (aO hN hb.size) KH (hR.below hb) (λW' hb'=>hV W' (hb.trans (hb'.mono hb.size))) hT hall hsz (λhv W' hb'=>U6 hv W' (hb.trans (hb'.mono hb.size))) po);have HL:=aT hL;have eI:=aT hcm;have cG:=aT eJ;clear hQ hV hT hall hsz U6 po hL hcm eJ hR;obtain⟨bl,hbl⟩:∃b,pr.any (Xf l)=b:=⟨_,rfl⟩;have HBl:=aT hbl;rw[hbl] at HRs;clear hbl;obtain⟨w1,I1⟩:∃z,w.alloc (.cells #[.int .i64 k,.int .i64 n,.bool x,.slice a L c] VQ)=z:=⟨_,rfl⟩;obtain⟨w2,hw2⟩:∃z,w1.alloc (.cells #[.slice sa l.length sc] 41)=z:=⟨_,rfl⟩;obtain⟨w3,hw3⟩:∃z,w2.alloc (.cells #[.slice none 0 0,.int .i64 0,.int .i64 0] G0)=z:=⟨_,rfl⟩;obtain⟨w4,hw4⟩:∃z,w3.alloc (.cells #[.slice none 0 0,.int .i64 0,.int .i64 0] G0)=z:=⟨_,rfl⟩;obtain⟨w5,hw5⟩:∃z,w4.alloc (.cells WN Xw)=z:=⟨_,rfl⟩;obtain⟨T,cU⟩:∃z,w5.alloc (.cells #[.slice none 0 0] TGi)=z:=⟨_,rfl⟩;have s1:w1.heap.size=w.heap.size+1:=by rw[<-I1,aj]
 have s2:w2.heap.size=w.heap.size+1+1:=by rw[<-hw2,aj,s1]
 have s3:w3.heap.size=w.heap.size+1+1+1:=by rw[<-hw3,aj,s2]
 have s4:w4.heap.size=w.heap.size+1+1+1+1:=by rw[<-hw4,aj,s3]
 have s5:w5.heap.size=w.heap.size+1+1+1+1+1:=by rw[<-hw5,aj,s4]
 have b6:Below w5.heap.size w5 T:=by rw[<-cU];exact Yx w5 _
 have b5:Below w4.heap.size w4 T:=by
  have:Below w4.heap.size w4 w5:=by rw[<-hw5];exact Yx w4 _
  exact this.trans (b6.mono this.size)
 have b4:Below w3.heap.size w3 T:=by
  have:Below w3.heap.size w3 w4:=by rw[<-hw4];exact Yx w3 _
  exact this.trans (b5.mono this.size)
 have b3:Below w2.heap.size w2 T:=by
  have:Below w2.heap.size w2 w3:=by rw[<-hw3];exact Yx w2 _
  exact this.trans (b4.mono this.size)
 have b2:Below w1.heap.size w1 T:=by
  have:Below w1.heap.size w1 w2:=by rw[<-hw2];exact Yx w1 _
  exact this.trans (b3.mono this.size)
 have b1:Below w.heap.size w T:=by
  have:Below w.heap.size w w1:=by rw[<-I1];exact Yx w _
  exact this.trans (b2.mono this.size)
 have B0:Z7 T w.heap.size VQ #[.int .i64 k,.int .i64 n,.bool x,.slice a L c]:=(by rw[<-I1];exact Z7.new w _ _:Z7 w1 w.heap.size VQ #[.int .i64 k,.int .i64 n,.bool x,.slice a L c]).below b2 jO;have B1:Z7 T w1.heap.size 41 #[.slice sa l.length sc]:=(by rw[<-hw2];exact Z7.new w1 _ _:Z7 w2 w1.heap.size 41 #[.slice sa l.length sc]).below b3 jO;have B2:Z7 T w2.heap.size G0 #[.slice none 0 0,.int .i64 0,.int .i64 0]:=(by rw[<-hw3];exact Z7.new w2 _ _:Z7 w3 w2.heap.size G0 #[.slice none 0 0,.int .i64 0,.int .i64 0]).below b4 jO;have B3:Z7 T w3.heap.size G0 #[.slice none 0 0,.int .i64 0,.int .i64 0]:=(by rw[<-hw4];exact Z7.new w3 _ _:Z7 w4 w3.heap.size G0 #[.slice none 0 0,.int .i64 0,.int .i64 0]).below b5 jO;have B4:Z7 T w4.heap.size Xw WN:=(by rw[<-hw5];exact Z7.new w4 _ _:Z7 w5 w4.heap.size Xw WN).below b6 jO;have B5:Z7 T w5.heap.size TGi #[.slice none 0 0]:=by rw[<-cU];exact Z7.new w5 _ _
 rw[s1] at B1;rw[s2] at B2;rw[s3] at B3;rw[s4] at B4;rw[s5] at B5;have Ae:=aT B0;have VE:=aT B1;have Z:Hid (∀FB fc W,Below T.heap.size T W->Z7 W FB 82 fc->XO w.heap.size (w.heap.size+1+1) (w.heap.size+1+1+1) (w.heap.size+1+1+1+1) (w.heap.size+1+1+1+1+1) FB fc w 0 (.slice none 0 0) WN (.slice none 0 0) W):=λFB fc W hb hf=>
  ⟨b1.trans (hb.mono b1.size),aO b1.size hb.size,B2.below hb B2.lt,B3.below hb B3.lt,B4.below hb B4.lt,B5.below hb B5.lt,hf,⟨jO,jO,jO,jO⟩,jO⟩
 have aC1:=aT b1;have HW:=aT (And.intro I1 (And.intro hw2 (And.intro hw3 (And.intro hw4 (And.intro hw5 cU)))));clear B0 B1 B2 B3 B4 B5 b1 b2 b3 b4 b5 b6 s1 s2 s3 s4 s5 I1 hw2 hw3 hw4 hw5 cU;have gZ:∀(fn:Fn) (first cap:Array Value) (w:World),(Instr.makeFunc fn first cap).run prog w=.ok (.func fn first cap) w:=λ_ _ _ _=>rfl
 unfold WN at HW;go_enter func10,ntmps10;go_upto_region 4 with fail;rw[HW.out.1,HW.out.2.1,HW.out.2.2.1,HW.out.2.2.2.1,HW.out.2.2.2.2.1,HW.out.2.2.2.2.2];clear HW;obtain⟨BT,hBT⟩:∃z,w.heap.size+1=z:=⟨_,rfl⟩;rw[hBT] at VE Z ⊢;obtain⟨R,hRr⟩:∃z,BT+1=z:=⟨_,rfl⟩;rw[hRr] at Z ⊢;obtain⟨PO,hPO⟩:∃z,R+1=z:=⟨_,rfl⟩;rw[hPO] at Z ⊢;obtain⟨PP,hPP⟩:∃z,PO+1=z:=⟨_,rfl⟩;rw[hPP] at Z ⊢;obtain⟨PI,hPI⟩:∃z,PP+1=z:=⟨_,rfl⟩;rw[hPI] at Z ⊢;clear hBT hRr hPO hPP hPI;have HF7:=aT (Z7.new T 82 #[.func (.func 21) #[] #[.pointer (some ⟨w.heap.size,0,none⟩),.pointer (some ⟨BT,0,none⟩),.pointer (some ⟨PP,0,none⟩),.pointer (some ⟨PO,0,none⟩)],.func (.func 23) #[] #[.pointer (some ⟨PP,0,none⟩),.pointer (some ⟨PI,0,none⟩)],.func (.func 25) #[] #[.pointer (some ⟨PI,0,none⟩),.pointer (some ⟨PO,0,none⟩)]]);have TH:=Yx T (.cells #[.func (.func 21) #[] #[.pointer (some ⟨w.heap.size,0,none⟩),.pointer (some ⟨BT,0,none⟩),.pointer (some ⟨PP,0,none⟩),.pointer (some ⟨PO,0,none⟩)],.func (.func 23) #[] #[.pointer (some ⟨PP,0,none⟩),.pointer (some ⟨PI,0,none⟩)],.func (.func 25) #[] #[.pointer (some ⟨PI,0,none⟩),.pointer (some ⟨PO,0,none⟩)]] 82);have Od:=aT TH;clear TH;go_upto_region 8 with fail;clear gZ;generalize T.alloc (.cells #[.func (.func 21) #[] #[.pointer (some ⟨w.heap.size,0,none⟩),.pointer (some ⟨BT,0,none⟩),.pointer (some ⟨PP,0,none⟩),.pointer (some ⟨PO,0,none⟩)],.func (.func 23) #[] #[.pointer (some ⟨PP,0,none⟩),.pointer (some ⟨PI,0,none⟩)],.func (.func 25) #[] #[.pointer (some ⟨PI,0,none⟩),.pointer (some ⟨PO,0,none⟩)]] 82)=w7 at*;obtain⟨FB,hFB⟩:∃z,T.heap.size=z:=⟨_,rfl⟩;rw[hFB] at HF7 Od ⊢;have HM7:=aT (Z.out FB _ w7 (by rw[hFB];exact Od.out) HF7.out);have HP7:=aT (Ae.out.below Od.out (by rw[<-hFB];exact Ae.out.lt));have HT7:=aT (VE.out.below Od.out (by rw[<-hFB];exact VE.out.lt));clear Z Ae VE HF7 hFB Od aC1;obtain⟨fc,hfc⟩:∃z:Array Value,#[.func (.func 21) #[] #[.pointer (some ⟨w.heap.size,0,none⟩),.pointer (some ⟨BT,0,none⟩),.pointer (some ⟨PP,0,none⟩),.pointer (some ⟨PO,0,none⟩)],.func (.func 23) #[] #[.pointer (some ⟨PP,0,none⟩),.pointer (some ⟨PI,0,none⟩)],.func (.func 25) #[] #[.pointer (some ⟨PI,0,none⟩),.pointer (some ⟨PO,0,none⟩)]]=z:=⟨_,rfl⟩;rw[hfc] at HM7;have HFC:Hid (fc[0]? =some (.func (.func 21) #[] #[.pointer (some ⟨w.heap.size,0,none⟩),.pointer (some ⟨BT,0,none⟩),.pointer (some ⟨PP,0,none⟩),.pointer (some ⟨PO,0,none⟩)])/\fc[1]? =some (.func (.func 23) #[] #[.pointer (some ⟨PP,0,none⟩),.pointer (some ⟨PI,0,none⟩)])/\fc[2]? =some (.func (.func 25) #[] #[.pointer (some ⟨PI,0,none⟩),.pointer (some ⟨PO,0,none⟩)])):=by rw[<-hfc];exact⟨rfl,rfl,rfl⟩
 clear hfc;go_loopg [23] 4 (λgg s23 wr=>∃q:Nat,q<=3/\3-q<gg/\s23=.int .i64 (q:Int)/\Hid (Stg V pr l k n x w.heap.size R PO PP PI FB w.heap.size BT fc #[.int .i64 k,.int .i64 n,.bool x,.slice a L c] #[.slice sa l.length sc] w q wr));case atStart=>exact⟨0,jD,jD,rfl,.inl ⟨rfl,HM7.out,HP7.out,HT7.out⟩⟩
 case round=>
  obtain⟨q,hq3,Vs,rfl,HS⟩:=hrel;clear HM7 HP7 HT7;rcases HS.out with⟨rfl,D,hP,hT⟩|⟨rfl,hv,Q,es,s0,s1,hD,D⟩|⟨rfl,hv,dn,Q,es,s0,s1,p,cs,B0,ad,ic,hF,kW,hQx,Y,D,I⟩|⟨rfl,hv,out,m,gp,cp,pc,iv,B1,hpg,tE,hby,C4,D⟩
  ·have zm:=aT (uC wr D hP hT (HRs.out wr D.Zr));have HM:=aT D;have z0:=(D.fb.cell 0).trans HFC.out.1;clear D hP hT HS;go_wp2_with fail;refine zm.out.mono ?_;rintro e w8 ⟨ev,rfl,eH⟩;have mJ:=aT eH;clear eH zm z0 HM;by_cases h0:ev=0
   ·subst h0
    have Jn:Hid (Stg V pr l k n x w.heap.size R PO PP PI FB w.heap.size BT fc #[.int .i64 k,.int .i64 n,.bool x,.slice a L c] #[.slice sa l.length sc] w 1 w8):=by
     rcases mJ.out with⟨h,_⟩|⟨_,hv,Q,es,s0,s1,hD,D⟩;·exact absurd rfl h
     ·exact .inr (.inl ⟨rfl,hv,Q,es,s0,s1,hD,D⟩)
    clear mJ;go_wp2_with fail;go_roundg (3-0);case measure=>omega
    case rel=>exact⟨1,jD,jD,rfl,Jn⟩
   ·have mi:(ev != 0)=true:=by simpa using h0
    have HEr:Hid (∃z,(C ev\/bl=true)/\XO w.heap.size R PO PP PI FB fc w z (.slice none 0 0) WN (.slice none 0 0) w8):=by
     rcases mJ.out with⟨_,h2,z,h3⟩|⟨h,_⟩;·exact⟨z,h2,h3⟩
     ·exact absurd h h0
    have H0:=aT h0;clear mJ h0;obtain⟨z,hc,D⟩:=HEr.out;have HC:=aT hc;have HM:=aT D;obtain⟨⟨o0,o1,o2⟩,_⟩:=XY D.ob;obtain⟨⟨r0,r1,r2⟩,f0,f1,f2⟩:=XY D.rb;clear hc D HEr;go_wp2_with fail;refine aaf (FO rfl (JK HM.out.rb _ _ _) rfl) rfl ?_;exact .inl ⟨z,ev,H0.out,(by rw[HBl.out];exact HC.out.imp id .inl),rfl,JJ HM.out.Zr HM.out.lo.1 _ _ _⟩
  ·obtain⟨dn,hf⟩:=hD.f;have hlen:=HL.out hv
   have hk:∀a,a<5->ZW (ZZ a (es a) s0 s1)<=Tx L Cm:=λa ha=>by have h:=hf.cost (eI.out hv) ha;rw[hlen] at h;exact h
   obtain⟨lo,hr⟩:=hD.r;have U:Ug wr.heap.size wr Q es s0 s1:=hf.ok jO (eI.out hv) ac3 rfl (λa ha=>FX (hr.OT a ha)) (G8 (hr.subs 0 jD)) (G8 (hr.subs 1 jD));have ny:=aT (uB wr D U (λa ha=>aO (hk a ha) cG.out));have jy:=aT (And.intro hf (And.intro hD.hd hD.hx));have z1:=(D.fb.cell 1).trans HFC.out.2.1;clear hf hlen hk hr U D hD HS;go_wp2_with fail;refine ny.out.mono ?_;rintro e w8 ⟨rfl,v,p,cs,Y,J,I⟩;obtain⟨ad,ic,rfl⟩:=Z0 I;have Jn:Hid (Stg V pr l k n x w.heap.size R PO PP PI FB w.heap.size BT fc #[.int .i64 k,.int .i64 n,.bool x,.slice a L c] #[.slice sa l.length sc] w 2 w8):=.inr (.inr (.inl ⟨rfl,hv,dn,Q,es,s0,s1,p,cs,_,ad,ic,jy.out.1,jy.out.2.1,jy.out.2.2,Y,J,I⟩));clear Y J I ny z1 jy;go_wp2_with fail;go_roundg (3-1);case measure=>omega
   case rel=>exact⟨2,jD,jD,rfl,Jn⟩
  ·have HV:=aT hv;have hlen:=HL.out hv
   have hk:∀a,a<5->ZW (ZZ a (es a) s0 s1)<=Tx L Cm:=λa ha=>by have h:=hF.cost (eI.out hv) ha;rw[hlen] at h;exact h
   have hres:=Mk hF Y.d (Y.x.trans hQx) Y.p0 (by rw[<-hQx];exact Y.p1) Y.p2 Y.p3 Y.p4;have hIt:=Dq Y.c hres.2 Y.c32 Y.max;have hKc:(Z6 (ZL p cs)).length<=80+10*Tx L Cm:=aO hIt.pos.2 (Af Y hk (by unfold Tx;omega));have HKc:=aT hKc;have HSy:Hid (∀out at_ ZU far,UK (ZL p cs) out at_ ZU far->(at_ 0=0/\ZU 0=false)->Says out l x (YM k n) pr):=λout at_ ZU far U hu=>by rw[<-kW];exact jl hF hQx Y U hu
   have HC3:=aT (uA wr D hIt I);have z2:=(D.fb.cell 2).trans HFC.out.2.2;clear hlen hk hres hIt hKc D I Y hF kW hQx HS;generalize (Z6 (ZL p cs)).length=KI at*;go_wp2_with fail;refine HC3.out.mono ?_;rintro e w8 ⟨v,out,at_,ZU,far,U,hu,J,(⟨rfl,h4⟩|⟨rfl,m,hpg,gp,cp,B1,rfl,tE,hby⟩)⟩
   ·have H4:Hid (4096<3*(80+10*Tx L Cm)):=by
     have:=HKc.out;show _<_;omega
    have HM8:=aT J;obtain⟨⟨o0,o1,o2⟩,_⟩:=XY J.ob;obtain⟨⟨r0,r1,r2⟩,f0,f1,f2⟩:=XY J.rb;clear U hu J h4 HC3 z2 o0;go_wp2_with fail;refine aaf (FO rfl (JK HM8.out.rb _ _ _) rfl) rfl ?_;exact .inl ⟨0,3,jD,.inr (.inr ⟨rfl,H4.out⟩),rfl,JJ HM8.out.Zr HM8.out.lo.1 _ _ _⟩
   ·have Jn:Hid (Stg V pr l k n x w.heap.size R PO PP PI FB w.heap.size BT fc #[.int .i64 k,.int .i64 n,.bool x,.slice a L c] #[.slice sa l.length sc] w 3 w8):=.inr (.inr (.inr ⟨rfl,HV.out,out,m,gp,cp,_,_,B1,hpg,tE,hby,HSy.out out at_ ZU far U hu,J⟩));clear U hu J hpg tE hby HC3 z2;go_wp2_with fail;go_roundg (3-2);case measure=>omega
    case rel=>exact⟨3,jD,jD,rfl,Jn⟩
  ·have HM:=aT D;have HPg:=aT (And.intro hpg (And.intro tE (And.intro hby C4)));obtain⟨⟨o0,o1,o2⟩,_⟩:=XY D.ob;obtain⟨⟨r0,r1,r2⟩,f0,f1,f2⟩:=XY D.rb;clear D hpg tE hby C4 HS;go_wp2_with fail;refine aaf (FO rfl (JK HM.out.rb _ _ _) rfl) rfl ?_;have b0:Z7 (wr.setCell ⟨R,0,none⟩ (.slice (some ⟨gp,0,none⟩) (m*8) cp)) R G0 _:=HM.out.rb.set 0 _;have b1:=b0.set 1 (.int .i64 0);have aC2:=ZV (ZV (ZV HPg.out.2.2.1 HM.out.rb jD 0 (.slice (some ⟨gp,0,none⟩) (m*8) cp)) b0 jD 1 (.int .i64 0)) b1 jD 2 (.int .i64 0);exact .inr ⟨hv,out,m,gp,cp,rfl,HPg.out.1,HPg.out.2.1,OL (by rw[NP,HPg.out.1.len]) aC2,HPg.out.2.2.2,JJ HM.out.Zr HM.out.lo.1 _ _ _⟩
end Go.Proofs.YtclgigmgbebhgaaGreatDoor
namespace Go.Proofs.YtclgigmgbebhgaaGreatDoor.ZJ
open Tryz
open Go Go.Proofs Go.RowKit
theorem Xs{w wx:World}{a:Addr}{v:Value}(hb:Below w.heap.size w wx)(h:w.cell? a=some v):wx.cell? a=some v:=(hb.cell (afg _ _ h)).trans h
theorem Ua{P:Program}{md:Region.Mode}{ops:Array Oper}{Q:Exit->Act->World->Prop}{S S':World->Prop}(hs:∀w,S' w->S w):
 ∀(fuel:Nat) (listed:Array Bool) (a:Act) (w:World),wpAnyH P md ops Q S' fuel listed a w->wpAnyH P md ops Q S fuel listed a w
 |0,_,_,_,h=>h
 |fuel+1,_,_,_,h=>⟨h.1,λi hi=>wpOp_mono (λa' w' C=>⟨hs w' C.1,Ua hs fuel _ a' w' C.2⟩) (h.2 i hi)⟩
theorem Sq{n FN:Nat}{o:Int}(ho:o=(n:Int)+1)(hn:n<7)(hO:Og[n*2+1]? =some (.func (.func FN) #[] #[]))(hF:∀(v:Array Value) (w:World),Sem.run prog (callFunc FN v) w=.ok (.enter FN v) w)
 (hC:∀(a b m v x:Int) (w:World),Calls prog FN #[.int .u64 x,.agg #[.int .i64 a,.int .i64 b,.int .u64 m,.int .u64 v]] w λe w'=>e=.returned (.bool (Ww o m v x))/\Below w.heap.size w w')
 (j:Nat) (hj:j<=5) (m v x0 x1 J U Z x5 xv:Int) (hx:[x0,x1,J,U,Z,x5][j]? =some xv) (hr:Yf j o m=true) (w:World):Calls prog 18 #[.agg #[.int .i64 j,.int .i64 o,.int .u64 m,.int .u64 v],.agg #[.int .u64 x0,.int .u64 x1,.int .u64 J,.int .u64 U,.int .u64 Z,.int .u64 x5]] w λe w'=>e=.returned (.bool (Ww o m v xv))/\Below w.heap.size w w':=by
 have hA:=(Z7.new w 68 #[.int .i64 j,.int .i64 o,.int .u64 m,.int .u64 v]).alloc (.cells #[.int .u64 x0,.int .u64 x1,.int .u64 J,.int .u64 U,.int .u64 Z,.int .u64 x5] 24);have hX:=Z7.new (w.alloc (.cells #[.int .i64 j,.int .i64 o,.int .u64 m,.int .u64 v] 68)) 24 #[.int .u64 x0,.int .u64 x1,.int .u64 J,.int .u64 U,.int .u64 Z,.int .u64 x5];have hb:=((aG w.heap.size w).alloc (aR _) (.cells #[.int .i64 j,.int .i64 o,.int .u64 m,.int .u64 v] 68)).alloc jS (.cells #[.int .u64 x0,.int .u64 x1,.int .u64 J,.int .u64 U,.int .u64 Z,.int .u64 x5] 24);simp only[aj] at hX;have c0:=hA.cell 0;have c1:=hA.cell 1;have c2:=hA.cell 2;have c3:=hA.cell 3;have cx:=hX.cell j;have ex:(#[.int .u64 x0,.int .u64 x1,.int .u64 J,.int .u64 U,.int .u64 Z,.int .u64 x5]:Array Value)[j]? =some (.int .u64 xv):=by
  match j,hj,hx with
  |0,_,hx=>simp at hx;subst hx;rfl
  |1,_,hx=>simp at hx;subst hx;rfl
  |2,_,hx=>simp at hx;subst hx;rfl
  |3,_,hx=>simp at hx;subst hx;rfl
  |4,_,hx=>simp at hx;subst hx;rfl
  |5,_,hx=>simp at hx;subst hx;rfl
 rw[ex] at cx;simp only[au,aM,aH] at c0 c1 c2 c3;have HB:=aT hb;have HR:=aT (λW=>X0 j o m v W);rw[hr] at HR;have j0:=jZ j;have j6:(j:Int)<6:=jO;have wk:IntKind.i64.wrap (o-1)=(n:Int):=by rw[aJ _ jO];omega
 have n0:=jZ n;have n7:(n:Int)<7:=jO;have HF:=aT hF;have HC:=aT hC;have HO:=aT hO;clear hA hX hb hr hx ex hF hC hO ho;go_enter func18,ntmps18;go_upto_region 1 with fail;generalize (w.alloc (.cells #[.int .i64 j,.int .i64 o,.int .u64 m,.int .u64 v] 68)).alloc (.cells #[.int .u64 x0,.int .u64 x1,.int .u64 J,.int .u64 U,.int .u64 Z,.int .u64 x5] 24)=W at*;refine aua ?_;refine akg (S:=λw'=>(w'.cell? ⟨w.heap.size,0,none⟩=some (.int .i64 j)/\w'.cell? ⟨w.heap.size,1,none⟩=some (.int .i64 o)/\w'.cell? ⟨w.heap.size,2,none⟩=some (.int .u64 m)/\w'.cell? ⟨w.heap.size,3,none⟩=some (.int .u64 v))/\w'.cell? ⟨w.heap.size+1,j,none⟩=some (.int .u64 xv)/\Below W.heap.size W w') jK (by first|exact⟨⟨c0,c1,c2,c3⟩,cx,(aG _ W).drew⟩|go_keep) (λhHeld=> ?_);refine jT 0 ⟨some 5,.load 68 (.tmp 2),68,"cond.go:49",#[],none⟩ ?_;try simp only[Act.put,aS,aP,aQ]
 refine aba (rs:=[1]) jK jS ?_;refine ae (o:=⟨some 6,.call {callee:=.value (.func 32),args:=#[.tmp 5],argTypes:=#[68]},4,"cond.go:49",#[⟨0,.data⟩],none⟩) rfl (λK' I=> ?_) aae;go_simp;refine(HR _).mono ?_;rintro e Y ⟨rfl,C⟩;refine I _ _ (⟨⟨Xs C hHeld.1.1,Xs C hHeld.1.2.1,Xs C hHeld.1.2.2.1,Xs C hHeld.1.2.2.2⟩,Xs C hHeld.2.1,hHeld.2.2.trans (C.mono hHeld.2.2.size)⟩) (λhHeld=> ?_);clear I K';try simp only[Act.put,aS,aP,aQ]
 refine jT 2 ⟨some 7,.move (.tmp 6),4,"cond.go:49",#[⟨1,.data⟩,⟨1,.chain⟩],none⟩ ?_;try simp only[Act.put,aS,aP,aQ]
 refine jT 4 ⟨some 9,.fieldAddr 68 (.tmp 2) 1,0,"cond.go:49",#[⟨2,.guard⟩],some (2,true)⟩ ?_;try simp only[Act.put,aS,aP,aQ]
 refine jT 5 ⟨some 10,.load 3 (.tmp 9),3,"cond.go:49",#[⟨4,.data⟩,⟨2,.guard⟩],some (2,true)⟩ ?_;try simp only[Act.put,aS,aP,aQ]
 refine jT 6 ⟨some 11,.binOp .sub 3 (.tmp 10) (.const (.int .i64 1)) 3,3,"cond.go:49",#[⟨5,.data⟩,⟨2,.guard⟩],some (2,true)⟩ ?_;try simp only[Act.put,aS,aP,aQ]
 refine jT 10 ⟨some 15,.fieldAddr 68 (.tmp 2) 0,0,"cond.go:49",#[⟨2,.guard⟩],some (2,true)⟩ ?_;try simp only[Act.put,aS,aP,aQ]
 refine jT 11 ⟨some 16,.load 3 (.tmp 15),3,"cond.go:49",#[⟨10,.data⟩,⟨2,.guard⟩],some (2,true)⟩ ?_;try simp only[Act.put,aS,aP,aQ]
 refine jT 12 ⟨some 17,.indexAddr 24 (.tmp 3) (.tmp 16),0,"cond.go:49",#[⟨11,.data⟩,⟨2,.guard⟩],some (2,true)⟩ ?_;try simp only[Act.put,aS,aP,aQ]
 refine jT 13 ⟨some 18,.load 23 (.tmp 17),23,"cond.go:49",#[⟨12,.data⟩,⟨2,.guard⟩],some (2,true)⟩ ?_;try simp only[Act.put,aS,aP,aQ]
 refine jT 14 ⟨some 19,.load 68 (.tmp 2),68,"cond.go:49",#[⟨2,.guard⟩],some (2,true)⟩ ?_;try simp only[Act.put,aS,aP,aQ]
 refine aba (rs:=[3]) jK jS ?_;refine ae (o:=⟨some 8,.call {callee:=.value (.func 33),args:=#[],argTypes:=#[]},105,"cond.go:49",#[⟨2,.chain⟩,⟨2,.guard⟩],some (2,true)⟩) rfl (λK' I=> ?_) aae;go_simp;refine(yX _).mono ?_;rintro e wy ⟨rfl,T⟩;have C:Below Y.heap.size Y wy:=by rw[<-T];exact(aG _ Y).alloc (aR _) _
 have hop:wy.cell? ⟨Y.heap.size,n*2+1,none⟩=some (.func (.func FN) #[] #[]):=by rw[<-T];exact((Z7.new Y 104 Og).cell (n*2+1)).trans HO
 refine I _ _ (⟨⟨Xs C hHeld.1.1,Xs C hHeld.1.2.1,Xs C hHeld.1.2.2.1,Xs C hHeld.1.2.2.2⟩,Xs C hHeld.2.1,hHeld.2.2.trans (C.mono hHeld.2.2.size)⟩) (λhHeld=> ?_);clear I K';try simp only[Act.put,aS,aP,aQ]
 refine Ua (S':=λw'=>((w'.cell? ⟨w.heap.size,0,none⟩=some (.int .i64 j)/\w'.cell? ⟨w.heap.size,1,none⟩=some (.int .i64 o)/\w'.cell? ⟨w.heap.size,2,none⟩=some (.int .u64 m)/\w'.cell? ⟨w.heap.size,3,none⟩=some (.int .u64 v))/\w'.cell? ⟨w.heap.size+1,j,none⟩=some (.int .u64 xv)/\Below W.heap.size W w')/\w'.cell? ⟨Y.heap.size,n*2+1,none⟩=some (.func (.func FN) #[] #[])) (λ_ h=>h.1) _ _ _ _ ?_;have D:(λw':World=>((w'.cell? ⟨w.heap.size,0,none⟩=some (.int .i64 j)/\w'.cell? ⟨w.heap.size,1,none⟩=some (.int .i64 o)/\w'.cell? ⟨w.heap.size,2,none⟩=some (.int .u64 m)/\w'.cell? ⟨w.heap.size,3,none⟩=some (.int .u64 v))/\w'.cell? ⟨w.heap.size+1,j,none⟩=some (.int .u64 xv)/\Below W.heap.size W w')/\w'.cell? ⟨Y.heap.size,n*2+1,none⟩=some (.func (.func FN) #[] #[])) wy:=⟨hHeld,hop⟩;clear hHeld C hop T;refine jT 7 ⟨some 12,.indexAddr 105 (.tmp 8) (.tmp 11),0,"cond.go:49",#[⟨3,.data⟩,⟨6,.data⟩,⟨2,.guard⟩],some (2,true)⟩ ?_;try simp only[Act.put,aS,aP,aQ]
 refine jT 8 ⟨some 13,.fieldAddr 104 (.tmp 12) 1,0,"cond.go:49",#[⟨7,.data⟩,⟨2,.guard⟩],some (2,true)⟩ ?_;try simp only[Act.put,aS,aP,aQ]
 refine jT 9 ⟨some 14,.load 102 (.tmp 13),102,"cond.go:49",#[⟨8,.data⟩,⟨2,.guard⟩],some (2,true)⟩ ?_;try simp only[Act.put,aS,aP,aQ]
 refine aba (rs:=[15]) jK jS ?_;refine ae (o:=⟨some 20,.call {callee:=.value (.tmp 14),args:=#[.tmp 18,.tmp 19],argTypes:=#[23,68]},4,"cond.go:49",#[⟨9,.data⟩,⟨13,.data⟩,⟨14,.data⟩,⟨3,.chain⟩,⟨2,.guard⟩],some (2,true)⟩) rfl (λK' I=> ?_) aae;go_simp;rw[HF.out];refine(HC _ _ _ _ _ _).mono ?_;rintro e wz ⟨rfl,C⟩;refine I _ _ (⟨⟨⟨Xs C D.1.1.1,Xs C D.1.1.2.1,Xs C D.1.1.2.2.1,Xs C D.1.1.2.2.2⟩,Xs C D.1.2.1,D.1.2.2.trans (C.mono D.1.2.2.size)⟩,Xs C D.2⟩) (λhHeld=> ?_);clear I K';try simp only[Act.put,aS,aP,aQ]
 refine jT 16 ⟨some 21,.pick (.tmp 7) (.tmp 20) (.const (.bool false)),4,"cond.go:49",#[⟨2,.data⟩,⟨15,.data⟩],none⟩ ?_;try simp only[Act.put,aS,aP,aQ]
 refine jT 17 ⟨some 4,.assign (.tmp 21),4,"cond.go:49",#[⟨16,.data⟩,⟨15,.chain⟩,⟨0,.phase⟩,⟨1,.phase⟩,⟨2,.phase⟩,⟨3,.phase⟩,⟨4,.phase⟩,⟨5,.phase⟩,⟨6,.phase⟩,⟨7,.phase⟩,⟨8,.phase⟩,⟨9,.phase⟩,⟨10,.phase⟩,⟨11,.phase⟩,⟨12,.phase⟩,⟨13,.phase⟩,⟨14,.phase⟩,⟨15,.phase⟩,⟨16,.phase⟩],none⟩ ?_;try simp only[Act.put,aS,aP,aQ]
 refine ana jK ?_ _;refine ase ?_;have Ji:=hHeld.1.2.2;go_wp2;go_ret;exact⟨rfl,HB.trans (Ji.mono HB.size)⟩
end Go.Proofs.YtclgigmgbebhgaaGreatDoor.ZJ
namespace Go.Proofs.YtclgigmgbebhgaaGreatDoor
open Tryz
open Go Go.Proofs Go.RowKit
theorem uz(w:World):Calls prog 7 #[] w λe w'=>e=.returned (.bool true)/\w'=w:=by
 go_enter func7,ntmps7
 go_wp2_with (go_at_call 20;refine(O2 4294967298 jD _).mono ?_;rintro e C ⟨rfl,rfl⟩)
 go_ret;exact⟨rfl,rfl⟩
def VA(a o m:Int):Bool:=decide (0<=a/\a<=5/\1<=o/\o<=7/\(m=0\/o=7))
theorem FM(a o m v:Int)(w:World):Calls prog 6 #[.agg #[.int .i64 a,.int .i64 o,.int .u64 m,.int .u64 v]] w λe w'=>e=.returned (.bool (VA a o m))/\Below w.heap.size w w':=by
 have C:=aT ((aG _ w).alloc (aR _) (.cells #[.int .i64 a,.int .i64 o,.int .u64 m,.int .u64 v] 27));have HX:=aT (Z7.new w 27 #[.int .i64 a,.int .i64 o,.int .u64 m,.int .u64 v]);go_enter func6,ntmps6;go_upto_region 1 with fail;generalize w.alloc (.cells #[.int .i64 a,.int .i64 o,.int .u64 m,.int .u64 v] 27)=w1 at*;obtain⟨⟨z0,z1,z2,z3⟩,_⟩:=Z8 HX;by_cases T:0<=a
 ·by_cases J:a<=5
  ·by_cases U:1<=o
   ·by_cases Y:o<=7
    ·by_cases I:m=0;·subst I;go_wp2_with fail;go_ret;exact⟨by simp[VA,T,J,U,Y],C⟩
     ·have h5b:(m == 0)=false:=by rw[af];exact I
      have Z:=aT I;clear I;by_cases D:o=7;·subst D;go_wp2_with fail;go_ret;exact⟨by simp[VA,T,J],C⟩
      ·have h6b:(o == 7)=false:=by rw[af];exact D
       have H6:=aT D;clear D;go_wp2_with fail;go_ret;exact⟨by simp[VA,Z.out,H6.out],C⟩
    ·have H4:=aT Y;go_wp2_with fail;go_ret;exact⟨by simp[VA];intros;have:=H4.out;omega,C⟩
   ·have H3:=aT U;go_wp2_with fail;go_ret;exact⟨by simp[VA];intros;have:=H3.out;omega,C⟩
  ·have H2:=aT J;go_wp2_with fail;go_ret;exact⟨by simp[VA];intros;have:=H2.out;omega,C⟩
 ·have H1:=aT T;go_wp2_with fail;go_ret;exact⟨by simp[VA];intros;have:=H1.out;omega,C⟩
theorem Ad(a:Nat)(x:Nat)(hx:x<YN)(w:World):Calls prog 9 #[.int .i64 a,.int .u64 x] w λe w'=>e=.returned (.int .u64 ((if a=2 then x%4294967296 else x:Nat):Int))/\w'=w:=by
 unfold YN at hx;by_cases ha:a=2;·subst ha;go_enter func9,ntmps9;go_wp2_with fail;go_ret;exact⟨jS,rfl⟩
 ·have hz:¬(a:Int)=2:=by omega
  have D:((a:Int) == 2)=false:=by rw[af];exact hz
  have C:=aT ha;clear ha;go_enter func9,ntmps9;go_wp2_with fail;go_ret;refine⟨?_,rfl⟩
  first
   |rfl
   |(show Ending.returned (Value.int .u64 x)=_;rw[aN C.out])
theorem MS{fn:Func}{t:Tmp}{T:Nat}(h:fn.results=#[.cell t T]){tmps:Array Value}{W:World}{R T2:Nat}{c0 c1 c2 c3:Value}(C:T=TC\/T=TR\/T=VQ)(hb:Z7 W R T2 #[c0,c1,c2,c3])(ht:tmps.getD t undef=.pointer (some ⟨R,0,none⟩)):(results fn tmps).run prog W=.ok (.agg #[c0,c1,c2,c3]) W:=by
 obtain⟨⟨e0,e1,e2,e3⟩,_⟩:=Z8 hb;rw[ajb] at ht;rcases C with rfl|rfl|rfl<;>simp[results,h,go_sem,ht,e0,e1,e2,e3]
theorem JI(a o m v:Int)(w:World):Calls prog 19 #[.agg #[.int .i64 a,.int .i64 o,.int .u64 m,.int .u64 v]] w λe w'=>e=.returned (.agg #[.int .i64 a,.int .i64 o,.int .u64 m,.int .u64 v])/\Below w.heap.size w w':=by
 have J:=aT (Kz w (.cells #[.int .i64 a,.int .i64 o,.int .u64 m,.int .u64 v] 27) (.cells #[.int .i64 0,.int .i64 0,.int .u64 0,.int .u64 0] TC));have T:=aT ((Z7.new w 27 #[.int .i64 a,.int .i64 o,.int .u64 m,.int .u64 v]).alloc (.cells #[.int .i64 0,.int .i64 0,.int .u64 0,.int .u64 0] TC));have C:Hid (Z7 ((w.alloc (.cells #[.int .i64 a,.int .i64 o,.int .u64 m,.int .u64 v] 27)).alloc (.cells #[.int .i64 0,.int .i64 0,.int .u64 0,.int .u64 0] TC)) (w.heap.size+1) TC #[.int .i64 0,.int .i64 0,.int .u64 0,.int .u64 0]):=Z7.OY w _ TC _;go_enter func19,ntmps19;go_upto_region 1 with fail;generalize (w.alloc (.cells #[.int .i64 a,.int .i64 o,.int .u64 m,.int .u64 v] 27)).alloc (.cells #[.int .i64 0,.int .i64 0,.int .u64 0,.int .u64 0] TC)=w1 at*;obtain⟨R,I⟩:=jX (w.heap.size+1);rw[I] at C ⊢;have D:w.heap.size<=R:=jO;clear I;obtain⟨⟨z0,z1,Z,z3⟩,_⟩:=Z8 T;obtain⟨⟨r0,r1,r2,r3⟩,f0,f1,Y,U⟩:=Z8 C;go_wp2_with fail;refine aaf (MS rfl (.inl rfl) (ZF C _ _ _ _) rfl) rfl ?_;exact⟨rfl,ZE J D _ _ _ _⟩
end Go.Proofs.YtclgigmgbebhgaaGreatDoor
namespace Go.Proofs.YtclgigmgbebhgaaGreatDoor.Yk
open Tryz
open Go Go.Proofs Go.RowKit
def OV(p:Nat->Bool):Int:=if p 0=true then 0 else if p 1=true then 1 else if p 2=true then 2 else if p 3=true then 3 else if p 4=true then 4 else if p 5=true then 5 else if p 6=true then 6 else if p 7=true then 7 else -1
def eG(c k:Int):Prop:=YU k<=c/\c<=YU k+YA k
instance (c k:Int):Decidable (eG c k):=by unfold eG;infer_instance
theorem oL{W W':World}{B:Nat}{t:TypeId}{cs:Array Value}(h:Hid (Z7 W B t cs))(hb:Below W.heap.size W W'):Hid (Z7 W' B t cs):=h.below hb h.lt
theorem an9{a W W':World}(h:Hid (Below a.heap.size a W))(hb:Below W.heap.size W W'):Hid (Below a.heap.size a W'):=h.trans (hb.mono h.size)
end Go.Proofs.YtclgigmgbebhgaaGreatDoor.Yk
namespace Go.Proofs
open Tryz
open Go.Shelf
def Tryz.jk:Go.Shelf.Ren:=⟨fun|171=>210|243=>271|246=>332|283=>353|284=>354|285=>355|286=>356|129=>155|317=>363|318=>364|319=>365|320=>366|337=>367|338=>368|n=>n,fun|3=>3|9=>9|2=>2|4=>4|171=>420|0=>0|53=>23|37=>42|5=>5|173=>422|212=>433|51=>53|20=>20|213=>434|46=>107|232=>435|233=>436|n=>n,fun|17=>3|18=>4|19=>5|n=>n⟩
def Tryz.C3:Go.Shelf.Ren:=⟨fun|137=>207|217=>269|266=>331|n=>n,fun|9=>9|5=>5|3=>3|n=>n,fun|n=>n⟩
theorem Tryz.ji:Go.Proofs.Lays.n137 prog Tryz.C3:={
 mixed:=by kernel_rfl
 f137:=func207.trans (congrArg some (by kernel_rfl))
 f217:=func269.trans (congrArg some (by kernel_rfl))
 f266:=func331.trans (congrArg some (by kernel_rfl))
 t3:=underlying3
 a3:=isAgg3
 z3:=sizeOf3
 v3:=zeroValue3
 t5:=underlying5
 a5:=isAgg5
 z5:=sizeOf5
 v5:=zeroValue5
 t9:=underlying9
 a9:=isAgg9
 z9:=sizeOf9
 v9:=zeroValue9}
def Tryz.C2:Go.Shelf.Ren:=⟨fun|160=>206|232=>263|231=>262|227=>264|234=>266|233=>265|236=>268|235=>267|228=>327|271=>330|151=>329|197=>328|120=>352|152=>351|260=>350|137=>207|119=>360|224=>361|225=>362|217=>269|266=>331|n=>n,fun|9=>9|4=>4|3=>3|5=>5|117=>363|116=>362|0=>0|124=>366|21=>21|105=>403|46=>107|119=>427|139=>430|138=>429|n=>n,fun|3=>1|4=>2|n=>n⟩
theorem Tryz.jh:Go.Proofs.Lays.n160 prog Tryz.C2:={
 mixed:=by kernel_rfl
 f119:=func360.trans (congrArg some (by kernel_rfl))
 f120:=func352.trans (congrArg some (by kernel_rfl))
 f137:=func207.trans (congrArg some (by kernel_rfl))
 f151:=func329.trans (congrArg some (by kernel_rfl))
 f152:=func351.trans (congrArg some (by kernel_rfl))
 f160:=func206.trans (congrArg some (by kernel_rfl))
 f197:=func328.trans (congrArg some (by kernel_rfl))
 f217:=func269.trans (congrArg some (by kernel_rfl))
 f224:=func361.trans (congrArg some (by kernel_rfl))
 f225:=func362.trans (congrArg some (by kernel_rfl))
 f227:=func264.trans (congrArg some (by kernel_rfl))
 f228:=func327.trans (congrArg some (by kernel_rfl))
 f231:=func262.trans (congrArg some (by kernel_rfl))
 f232:=func263.trans (congrArg some (by kernel_rfl))
 f233:=func265.trans (congrArg some (by kernel_rfl))
 f234:=func266.trans (congrArg some (by kernel_rfl))
 f235:=func267.trans (congrArg some (by kernel_rfl))
 f236:=func268.trans (congrArg some (by kernel_rfl))
 f260:=func350.trans (congrArg some (by kernel_rfl))
 f266:=func331.trans (congrArg some (by kernel_rfl))
 f271:=func330.trans (congrArg some (by kernel_rfl))
 t0:=underlying0
 a0:=isAgg0
 z0:=sizeOf0
 v0:=zeroValue0
 t3:=underlying3
 a3:=isAgg3
 z3:=sizeOf3
 v3:=zeroValue3
 t4:=underlying4
 a4:=isAgg4
 z4:=sizeOf4
 v4:=zeroValue4
 t5:=underlying5
 a5:=isAgg5
 z5:=sizeOf5
 v5:=zeroValue5
 t9:=underlying9
 a9:=isAgg9
 z9:=sizeOf9
 v9:=zeroValue9
 t21:=underlying21
 a21:=isAgg21
 z21:=sizeOf21
 v21:=zeroValue21
 t46:=underlying107
 a46:=isAgg107
 z46:=sizeOf107
 v46:=zeroValue107
 t105:=underlying403
 a105:=isAgg403
 z105:=sizeOf403
 v105:=zeroValue403
 t116:=underlying362
 a116:=isAgg362
 z116:=sizeOf362
 t117:=underlying363
 a117:=isAgg363
 z117:=sizeOf363
 v117:=zeroValue363
 t119:=underlying427
 a119:=isAgg427
 z119:=sizeOf427
 t124:=underlying366
 a124:=isAgg366
 z124:=sizeOf366
 v124:=zeroValue366
 t138:=underlying429
 a138:=isAgg429
 z138:=sizeOf429
 v138:=zeroValue429
 t139:=underlying430
 a139:=isAgg430
 z139:=sizeOf430
 v139:=zeroValue430
 g3:=by kernel_rfl
 g4:=by kernel_rfl}
def Tryz.C1:Go.Shelf.Ren:=⟨fun|171=>210|243=>271|246=>332|283=>353|284=>354|285=>355|286=>356|129=>155|317=>363|318=>364|319=>365|320=>366|337=>367|338=>368|n=>n,fun|3=>3|9=>9|2=>2|4=>4|171=>420|0=>0|53=>23|37=>42|5=>5|173=>422|212=>433|51=>53|20=>20|213=>434|46=>107|232=>435|233=>436|n=>n,fun|17=>3|18=>4|19=>5|n=>n⟩
theorem Tryz.jg:Go.Proofs.Lays.n171 prog Tryz.C1:={
 mixed:=by kernel_rfl
 f129:=func155.trans (congrArg some (by kernel_rfl))
 f171:=func210.trans (congrArg some (by kernel_rfl))
 f243:=func271.trans (congrArg some (by kernel_rfl))
 f246:=func332.trans (congrArg some (by kernel_rfl))
 f283:=func353.trans (congrArg some (by kernel_rfl))
 f284:=func354.trans (congrArg some (by kernel_rfl))
 f285:=func355.trans (congrArg some (by kernel_rfl))
 f286:=func356.trans (congrArg some (by kernel_rfl))
 f317:=func363.trans (congrArg some (by kernel_rfl))
 f318:=func364.trans (congrArg some (by kernel_rfl))
 f319:=func365.trans (congrArg some (by kernel_rfl))
 f320:=func366.trans (congrArg some (by kernel_rfl))
 f337:=func367.trans (congrArg some (by kernel_rfl))
 f338:=func368.trans (congrArg some (by kernel_rfl))
 t0:=underlying0
 a0:=isAgg0
 z0:=sizeOf0
 v0:=zeroValue0
 t2:=underlying2
 a2:=isAgg2
 z2:=sizeOf2
 v2:=zeroValue2
 t3:=underlying3
 a3:=isAgg3
 z3:=sizeOf3
 v3:=zeroValue3
 t4:=underlying4
 a4:=isAgg4
 z4:=sizeOf4
 v4:=zeroValue4
 t5:=underlying5
 a5:=isAgg5
 z5:=sizeOf5
 v5:=zeroValue5
 t9:=underlying9
 a9:=isAgg9
 z9:=sizeOf9
 v9:=zeroValue9
 t20:=underlying20
 a20:=isAgg20
 z20:=sizeOf20
 v20:=zeroValue20
 t37:=underlying42
 a37:=isAgg42
 z37:=sizeOf42
 v37:=zeroValue42
 t46:=underlying107
 a46:=isAgg107
 z46:=sizeOf107
 v46:=zeroValue107
 t51:=underlying53
 a51:=isAgg53
 z51:=sizeOf53
 v51:=zeroValue53
 t53:=underlying23
 a53:=isAgg23
 z53:=sizeOf23
 v53:=zeroValue23
 t171:=underlying420
 a171:=isAgg420
 z171:=sizeOf420
 v171:=zeroValue420
 t173:=underlying422
 a173:=isAgg422
 z173:=sizeOf422
 v173:=zeroValue422
 t212:=underlying433
 a212:=isAgg433
 z212:=sizeOf433
 v212:=zeroValue433
 t213:=underlying434
 a213:=isAgg434
 z213:=sizeOf434
 t232:=underlying435
 a232:=isAgg435
 z232:=sizeOf435
 v232:=zeroValue435
 t233:=underlying436
 a233:=isAgg436
 z233:=sizeOf436
 v233:=zeroValue436
 g17:=by kernel_rfl
 g18:=by kernel_rfl
 g19:=by kernel_rfl}
def Tryz.CZ:Go.Shelf.Ren:=⟨fun|283=>353|n=>n,fun|3=>3|9=>9|4=>4|n=>n,fun|n=>n⟩
theorem Tryz.je:Go.Proofs.Lays.n283 prog Tryz.CZ:={
 mixed:=by kernel_rfl
 f283:=func353.trans (congrArg some (by kernel_rfl))
 t3:=underlying3
 a3:=isAgg3
 z3:=sizeOf3
 v3:=zeroValue3
 t4:=underlying4
 a4:=isAgg4
 z4:=sizeOf4
 v4:=zeroValue4
 t9:=underlying9
 a9:=isAgg9
 z9:=sizeOf9
 v9:=zeroValue9}
def Tryz.FL:Go.Shelf.Ren:=⟨fun|284=>354|129=>155|317=>363|318=>364|n=>n,fun|53=>23|3=>3|212=>433|0=>0|4=>4|46=>107|5=>5|9=>9|n=>n,fun|17=>3|n=>n⟩
theorem Tryz.oK:Go.Proofs.LaysM.n284 prog Tryz.FL:={
 mixed:=by kernel_rfl
 f129:=func155.trans (congrArg some (by kernel_rfl))
 f284:=func354.trans (congrArg some (by kernel_rfl))
 f317:=func363.trans (congrArg some (by kernel_rfl))
 f318:=func364.trans (congrArg some (by kernel_rfl))
 t0:=underlying0
 a0:=isAgg0
 z0:=sizeOf0
 v0:=zeroValue0
 t3:=underlying3
 a3:=isAgg3
 z3:=sizeOf3
 v3:=zeroValue3
 t4:=underlying4
 a4:=isAgg4
 z4:=sizeOf4
 v4:=zeroValue4
 t5:=underlying5
 a5:=isAgg5
 z5:=sizeOf5
 v5:=zeroValue5
 t9:=underlying9
 a9:=isAgg9
 z9:=sizeOf9
 v9:=zeroValue9
 t46:=underlying107
 a46:=isAgg107
 z46:=sizeOf107
 v46:=zeroValue107
 t53:=underlying23
 a53:=isAgg23
 z53:=sizeOf23
 v53:=zeroValue23
 t212:=underlying433
 a212:=isAgg433
 z212:=sizeOf433
 v212:=zeroValue433
 g17:=by kernel_rfl
 i0:=by kernel_rfl
 i3:=by kernel_rfl
 i4:=by kernel_rfl
 i5:=by kernel_rfl
 i9:=by kernel_rfl
 i46:=by kernel_rfl
 i53:=by kernel_rfl
 i212:=by kernel_rfl
 m17:=by kernel_rfl}
def Tryz.CY:Go.Shelf.Ren:=⟨fun|285=>355|n=>n,fun|37=>42|53=>23|3=>3|4=>4|51=>53|9=>9|5=>5|0=>0|n=>n,fun|n=>n⟩
theorem Tryz.jd:Go.Proofs.Lays.n285 prog Tryz.CY:={
 mixed:=by kernel_rfl
 f285:=func355.trans (congrArg some (by kernel_rfl))
 t0:=underlying0
 a0:=isAgg0
 z0:=sizeOf0
 v0:=zeroValue0
 t3:=underlying3
 a3:=isAgg3
 z3:=sizeOf3
 v3:=zeroValue3
 t4:=underlying4
 a4:=isAgg4
 z4:=sizeOf4
 v4:=zeroValue4
 t5:=underlying5
 a5:=isAgg5
 z5:=sizeOf5
 v5:=zeroValue5
 t9:=underlying9
 a9:=isAgg9
 z9:=sizeOf9
 v9:=zeroValue9
 t37:=underlying42
 a37:=isAgg42
 z37:=sizeOf42
 v37:=zeroValue42
 t51:=underlying53
 a51:=isAgg53
 z51:=sizeOf53
 v51:=zeroValue53
 t53:=underlying23
 a53:=isAgg23
 z53:=sizeOf23
 v53:=zeroValue23}
def Tryz.LJ:Go.Shelf.Ren:=⟨fun|156=>133|165=>213|166=>214|169=>215|240=>282|241=>283|276=>338|277=>339|n=>n,fun|31=>195|9=>9|3=>3|4=>4|0=>0|20=>20|72=>318|76=>321|70=>316|37=>42|75=>320|127=>375|164=>409|5=>5|80=>323|n=>n,fun|n=>n⟩
theorem Tryz.yg:Go.Proofs.Lays.n156 prog Tryz.LJ:={
 mixed:=by kernel_rfl
 f156:=func133.trans (congrArg some (by kernel_rfl))
 f165:=func213.trans (congrArg some (by kernel_rfl))
 f166:=func214.trans (congrArg some (by kernel_rfl))
 f169:=func215.trans (congrArg some (by kernel_rfl))
 f240:=func282.trans (congrArg some (by kernel_rfl))
 f241:=func283.trans (congrArg some (by kernel_rfl))
 f276:=func338.trans (congrArg some (by kernel_rfl))
 f277:=func339.trans (congrArg some (by kernel_rfl))
 t0:=underlying0
 a0:=isAgg0
 z0:=sizeOf0
 v0:=zeroValue0
 t3:=underlying3
 a3:=isAgg3
 z3:=sizeOf3
 v3:=zeroValue3
 t4:=underlying4
 a4:=isAgg4
 z4:=sizeOf4
 v4:=zeroValue4
 t9:=underlying9
 a9:=isAgg9
 z9:=sizeOf9
 v9:=zeroValue9
 t20:=underlying20
 a20:=isAgg20
 z20:=sizeOf20
 v20:=zeroValue20
 t31:=underlying195
 a31:=isAgg195
 z31:=sizeOf195
 v31:=zeroValue195
 t37:=underlying42
 a37:=isAgg42
 z37:=sizeOf42
 v37:=zeroValue42
 t70:=underlying316
 a70:=isAgg316
 z70:=sizeOf316
 v70:=zeroValue316
 t72:=underlying318
 a72:=isAgg318
 z72:=sizeOf318
 v72:=zeroValue318
 t75:=underlying320
 a75:=isAgg320
 z75:=sizeOf320
 v75:=zeroValue320
 t76:=underlying321
 a76:=isAgg321
 z76:=sizeOf321
 v76:=zeroValue321
 t127:=underlying375
 a127:=isAgg375
 z127:=sizeOf375
 v127:=zeroValue375
 t164:=underlying409
 a164:=isAgg409
 z164:=sizeOf409
 v164:=zeroValue409}
def Tryz.CX:Go.Shelf.Ren:=⟨fun|194=>134|n=>n,fun|31=>195|9=>9|3=>3|4=>4|0=>0|n=>n,fun|n=>n⟩
theorem Tryz.yb:Go.Proofs.Lays.n194 prog Tryz.CX:={
 mixed:=by kernel_rfl
 f194:=func134.trans (congrArg some (by kernel_rfl))
 t0:=underlying0
 a0:=isAgg0
 z0:=sizeOf0
 v0:=zeroValue0
 t3:=underlying3
 a3:=isAgg3
 z3:=sizeOf3
 v3:=zeroValue3
 t4:=underlying4
 a4:=isAgg4
 z4:=sizeOf4
 v4:=zeroValue4
 t9:=underlying9
 a9:=isAgg9
 z9:=sizeOf9
 v9:=zeroValue9
 t31:=underlying195
 a31:=isAgg195
 z31:=sizeOf195
 v31:=zeroValue195}
end Go.Proofs
namespace Go.Proofs.YtclgigmgbebhgaaGreatDoor.Yk
open Tryz
open Go Go.Proofs Go.RowKit
def Yy(n:Nat):ByteArray:=⟨(Lib.decDigits n).toArray⟩
theorem MR(n:Nat)(h:n<18446744073709551616):(Yy n).size<=20:=by
 have C:=Lib.nDigits_le20 n h;rw[<-Lib.decDigits_length] at C;exact C
def Xr(W:World):Prop:=Lib.TabIs prog W "internal/strconv.uint64pow10" .u64 Lib.pow10Tab
theorem Xr.below{W W':World}(h:Xr W)(hb:Below W.heap.size W W'):Xr W':=by
 cases C:prog.globalNamed "internal/strconv.uint64pow10" with
 |none=>unfold Xr Lib.TabIs World.var? at h;rw[C] at h;cases h
 |some g=>exact Go.Joins.tab_stays C h hb (aR _)
def ac4(s:ByteArray):Option Nat:=
 if s.size=0\/9<s.size\/(s.data.toList.head? =some 48/\1<s.size) then none else Lib.decFrom 0 s.data.toList
end Go.Proofs.YtclgigmgbebhgaaGreatDoor.Yk
namespace Go.Proofs.YtclgigmgbebhgaaGreatDoor.Yk
open Tryz
open Go Go.Proofs Go.RowKit Go.Shelf Go.Lib
theorem dropWhile_nil{p:UInt8->Bool}:∀l:List UInt8,l.dropWhile p=[]↔∀b∈l,p b=true
 |[]=>jS
 |x::r=>by
  have C:=dropWhile_nil (p:=p) r;by_cases h:p x=true;·simp[h,C]
  ·simp[h]
theorem Yh{p:UInt8->Bool}:∀l:List UInt8,(∀b∈l.dropWhile p,p b=true)->∀b∈l,p b=true
 |[],_=>jS
 |x::r,h=>by
  by_cases hx:p x=true
  ·have C:=Yh (p:=p) r (by simpa [apf,hx] using h);intro b hb;rcases abb.1 hb with rfl|hb;·exact hx
   ·exact C b hb
  ·exact absurd (h x (by simp[hx])) hx
theorem QC(l cs:List UInt8):trimS l cs=[]↔∀b∈l,cs.contains b=true:=by
 unfold trimS trimLeftS;rw[dropWhile_nil];constructor
 ·intro h;have C:∀b∈l.reverse.dropWhile (cs.contains ·),cs.contains b=true:=λb hb=>h b (by unfold trimRightS;simpa using hb)
  have:=Yh l.reverse C;intro b hb;exact this b (by simpa using hb)
 ·intro h b hb;unfold trimRightS at hb;have:=(awb (l:=l.reverse) (cs.contains ·)).subset (by simpa using hb:b∈_);exact h b (by simpa using this)
end Go.Proofs.YtclgigmgbebhgaaGreatDoor.Yk
namespace Go.Proofs.YtclgigmgbebhgaaGreatDoor.Yk
open Tryz
open Go Go.Proofs Go.RowKit
def CW(s:ByteArray)(j:Nat):Bool:=(Xl (j+1)).toList == s.toList
def JH(K:Int):List ByteArray->Int×Int×Int×Int
 |[]=>(0,0,0,13)
 |t::_=>
  match ac4 t with
  |none=>(0,0,0,13)
  |some n=>if YA K<(n:Int) then(0,0,0,16) else(K,(n:Int),2,0)
def Up:List ByteArray->Int×Int×Int×Int
 |[]=>(0,0,0,4)
 |s::r=>
  if OV (CW s)= -1 then(0,0,0,14)
  else if ¬(OV (CW s)+1=4\/OV (CW s)+1=6) then(OV (CW s)+1,0,1,0)
  else JH (OV (CW s)+1) r
end Go.Proofs.YtclgigmgbebhgaaGreatDoor.Yk
namespace Go.Proofs.YtclgigmgbebhgaaGreatDoor.ZJ
open Tryz
open Go Go.Proofs Go.Lib
def aC3(c:UInt8):Option Nat:=if 48<=c.toNat/\c.toNat<=57 then some (c.toNat-48) else if 97<=c.toNat/\c.toNat<=102 then some (c.toNat-87) else none
def x9(B acc:Nat):List UInt8->Option Nat
 |[]=>some acc
 |c::r=>match aC3 c with
  |some d=>if d<B/\acc*B+d<18446744073709551616 then x9 B (acc*B+d) r else none
  |none=>none
def x6(B:Nat)(l:List UInt8):Option Nat:=if l=[]\/(l.head? =some 48/\l≠[48]) then none else x9 B 0 l
def numOf(l:List UInt8):Option Nat:=if hasPrefix l [48,120]=true then x6 16 (trimPrefix l [48,120]) else x6 10 l
theorem dropWhile_nil{p:UInt8->Bool}:∀l:List UInt8,l.dropWhile p=[]↔∀b∈l,p b=true
 |[]=>jS
 |x::r=>by
  have C:=dropWhile_nil (p:=p) r;by_cases h:p x=true;·simp[h,C]
  ·simp[h]
theorem Yh{p:UInt8->Bool}:∀l:List UInt8,(∀b∈l.dropWhile p,p b=true)->∀b∈l,p b=true
 |[],_=>jS
 |x::r,h=>by
  by_cases hx:p x=true
  ·have C:=Yh (p:=p) r (by simpa [apf,hx] using h);intro b hb;rcases abb.1 hb with rfl|hb;·exact hx
   ·exact C b hb
  ·exact absurd (h x (by simp[hx])) hx
theorem QC(l cs:List UInt8):trimS l cs=[]↔∀b∈l,cs.contains b=true:=by
 unfold trimS trimLeftS;rw[dropWhile_nil];constructor
 ·intro h;have C:∀b∈l.reverse.dropWhile (cs.contains ·),cs.contains b=true:=λb hb=>h b (by unfold trimRightS;simpa using hb)
  have:=Yh l.reverse C;intro b hb;exact this b (by simpa using hb)
 ·intro h b hb;unfold trimRightS at hb;have:=(awb (l:=l.reverse) (cs.contains ·)).subset (by simpa using hb:b∈_);exact h b (by simpa using this)
end Go.Proofs.YtclgigmgbebhgaaGreatDoor.ZJ
