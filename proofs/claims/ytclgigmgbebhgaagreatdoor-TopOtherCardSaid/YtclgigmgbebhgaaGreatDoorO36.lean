/- TopOther: part 36: CondNum CondIdx CondRead SysNamed MapB SysRanged LexP LexR PolP CondDig CondBackP PolTextP PolNm PolR PolRule PolLine PolParse. -/
import Derived.Shelf.Pu.Lower
import Derived.Shelf.Pu.ToErrorRange
import Derived.Shelf.Pu.ParseUintPublic10
import Derived.Lib.ConvBytes
import Derived.Lib.AtoiAllMem
import Derived.Lib.AtoiErrMem
import Derived.Lib.ParseIntBMem
import Derived.BigCall
import Derived.BigGuard
import Derived.WideKeyPair
import Derived.Lib.FieldsP
import Derived.Lib.IndexMore
import Derived.Lib.RuneCountTail
import Derived.Lib.OthersKept
import Derived.Sort.LoopGhostIn
import Derived.Sort.QuietIn
import Derived.RegionIn
import Derived.Maps.AppendAt
import Derived.Lib.ItoaNum
import Derived.Deep.RegionWith
import Derived.Test.YtclgigmgbebhgaaGreatDoorO35
set_option linter.unusedVariables false
set_option linter.unusedSimpArgs false
set_option maxRecDepth 100000
set_option maxHeartbeats 16000000
namespace Go.Proofs.YtclgigmgbebhgaaGreatDoor.Zh
open Tryz
open Go Go.Proofs Go.RowKit Go.Shelf Go.Lib
def aC5:List UInt8:=[48,49,50,51,52,53,54,55,56,57]
def oX(l:List UInt8):Nat×Nat:=
 if hasPrefix l [97]=false\/trimPrefix l [97]=[]\/¬(∀b∈trimPrefix l [97],aC5.contains b=true) then(0,13)
 else if 1<(trimPrefix l [97]).length\/53<((trimPrefix l [97]).getD 0 0).toNat then(0,16) else(((trimPrefix l [97]).getD 0 0).toNat-48,0)
end Go.Proofs.YtclgigmgbebhgaaGreatDoor.Zh
namespace Go.Proofs.YtclgigmgbebhgaaGreatDoor.Zh
open Tryz
open Go Go.Proofs Go.RowKit
def aC6(k:Int):Nat:=if k=1 then 68 else if k=2 then 69 else if k=3 then 70 else if k=4 then 71 else if k=5 then 72 else if k=6 then 73 else 74
theorem ac9{W:World}{g:Nat}(h:Z7 W g 104 Gj)(j:Nat)(A:j<7):
 W.cell? ⟨g,j*2,none⟩=some (.string (X8 (j+1)))/\W.cell? ⟨g,j*2+1,none⟩=some (.func (.func (aC6 (j+1))) #[] #[]):=by
 match j,A with
 |0,_=>exact⟨(h.cell 0).trans rfl,(h.cell 1).trans rfl⟩
 |1,_=>exact⟨(h.cell 2).trans rfl,(h.cell 3).trans rfl⟩
 |2,_=>exact⟨(h.cell 4).trans rfl,(h.cell 5).trans rfl⟩
 |3,_=>exact⟨(h.cell 6).trans rfl,(h.cell 7).trans rfl⟩
 |4,_=>exact⟨(h.cell 8).trans rfl,(h.cell 9).trans rfl⟩
 |5,_=>exact⟨(h.cell 10).trans rfl,(h.cell 11).trans rfl⟩
 |6,_=>exact⟨(h.cell 12).trans rfl,(h.cell 13).trans rfl⟩
def Zy(p:Nat->Bool):Int:=if p 0=true then 0 else if p 1=true then 1 else if p 2=true then 2 else if p 3=true then 3 else if p 4=true then 4 else if p 5=true then 5 else if p 6=true then 6 else -1
theorem oZ{W W':World}{B:Nat}{t:TypeId}{cs:Array Value}(h:Hid (Z7 W B t cs))(hb:Below W.heap.size W W'):Hid (Z7 W' B t cs):=h.below hb h.lt
theorem ao3{a W W':World}(h:Hid (Below a.heap.size a W))(hb:Below W.heap.size W W'):Hid (Below a.heap.size a W'):=h.trans (hb.mono h.size)
def opB(s:ByteArray)(j:Nat):Bool:=(X8 (j+1)).toList == s.toList
structure ad0 where
 (a o m v n e:Int)
def oW(a m:Nat):List ByteArray->ad0
 |s3::s4::_=>if (s3.toList == [61,61])=true then(match numOf s4.data.toList with|some v=>⟨a,7,m,v,5,0⟩|none=>⟨0,0,0,0,0,13⟩) else⟨0,0,0,0,0,13⟩
 |_=>⟨0,0,0,0,0,13⟩
def JS(a:Nat):List ByteArray->ad0
 |s1::s2::r=>
  if Zy (opB s1)= -1 then⟨0,0,0,0,0,13⟩
  else match numOf s2.data.toList with
   |none=>⟨0,0,0,0,0,13⟩
   |some u=>if Zy (opB s1)=6 then oW a u r else⟨a,Zy (opB s1)+1,0,u,3,0⟩
 |_=>⟨0,0,0,0,0,13⟩
def UB:List ByteArray->ad0
 |[]=>⟨0,0,0,0,0,4⟩
 |s::r=>if (oX s.data.toList).2=0 then JS (oX s.data.toList).1 r else⟨0,0,0,0,0,(oX s.data.toList).2⟩
theorem oV(w:World):Calls prog 33 #[] w λe w'=>∃g,e=.returned (.slice (some ⟨g,0,none⟩) 7 7)/\Z7 w' g 104 Gj/\Below w.heap.size w w':=
 (lg w).mono (by rintro e w' ⟨rfl,rfl⟩;exact⟨_,rfl,Z7.new w _ _,(aH w.heap.size w).alloc (aR _) _⟩)
end Go.Proofs.YtclgigmgbebhgaaGreatDoor.Zh
namespace Go.Proofs.YtclgigmgbebhgaaGreatDoor.Z4
open Tryz
open Go Go.Proofs Go.RowKit Go.Shelf Go.Lib
theorem dropWhile_nil{p:UInt8->Bool}:∀l:List UInt8,l.dropWhile p=[]↔∀b∈l,p b=true
 |[]=>jS
 |x::r=>by
  have A:=dropWhile_nil (p:=p) r;by_cases h:p x=true;·simp[h,A]
  ·simp[h]
theorem Yo{p:UInt8->Bool}:∀l:List UInt8,(∀b∈l.dropWhile p,p b=true)->∀b∈l,p b=true
 |[],_=>jS
 |x::r,h=>by
  by_cases hx:p x=true
  ·have A:=Yo (p:=p) r (by simpa [aqb,hx] using h);intro b hb;rcases abf.1 hb with rfl|hb;·exact hx
   ·exact A b hb
  ·exact absurd (h x (by simp[hx])) hx
theorem QR(l cs:List UInt8):trimS l cs=[]↔∀b∈l,cs.contains b=true:=by
 unfold trimS trimLeftS;rw[dropWhile_nil];constructor
 ·intro h;have A:∀b∈l.reverse.dropWhile (cs.contains ·),cs.contains b=true:=λb hb=>h b (by unfold trimRightS;simpa using hb)
  have:=Yo l.reverse A;intro b hb;exact this b (by simpa using hb)
 ·intro h b hb;unfold trimRightS at hb;have:=(awd (l:=l.reverse) (cs.contains ·)).subset (by simpa using hb:b∈_);exact h b (by simpa using this)
def Jd:List UInt8:=[97,98,99,100,101,102,103,104,105,106,107,108,109,110,111,112,113,114,115,116,117,118,119,120,121,122,48,49,50,51,52,53,54,55,56,57,95]
def Rj:List UInt8:=[97,98,99,100,101,102,103,104,105,106,107,108,109,110,111,112,113,114,115,116,117,118,119,120,121,122]
theorem iL:∀n,n<256->Jd.contains (UInt8.ofNat n)=decide ((97<=n/\n<=122)\/(48<=n/\n<=57)\/n=95):=by decide+kernel
theorem oU(b:UInt8):Jd.contains b=true↔bR b.toNat:=by
 have h:=iL b.toNat b.toNat_lt;rw[UInt8.ofNat_toNat] at h;rw[h];simp[bR]
theorem iK:∀n,n<256->decide (0<=indexByte Rj (UInt8.ofNat n))=decide (97<=n/\n<=122):=by decide+kernel
def G6(s:ByteArray)(w:World)(e:Ending)(w':World):Prop:=∃v:Bool,e=.returned (.bool v)/\(v=true↔Yj s)/\Below w.heap.size w w'
theorem TM{s:ByteArray}{w w':World}(h:¬Yj s)(hb:Below w.heap.size w w'):G6 s w (.returned (.bool false)) w':=⟨false,rfl,⟨λe=>by simp at e,λe=>absurd e h⟩,hb⟩
theorem xW(s:ByteArray):(∀b∈s.data.toList,Jd.contains b=true)↔∀j (h:j<s.size),bR (s[j]'h).toNat:=by
 constructor;·intro h j A;rw[<-oU];exact h _ (by simp[Array.mem_toList_iff];exact Array.getElem_mem (xs:=s.data) A)
 ·intro h b hb;obtain⟨j,A,rfl⟩:=agb.1 hb;rw[oU];exact h j (by simpa using A)
theorem G5(s:ByteArray)(w:World)(hs:s.size<=9223372036854775807):Calls prog 127 #[.string s] w (G6 s w):=by
 by_cases h0:s.size=0
 ·have e0:s.toList=[]:=by rw[aga];exact akc (by simpa using h0)
  have e1:s.toList.isEmpty=true:=by rw[e0];rfl
  go_enter func127,ntmps127;go_wp2;go_ret;exact TM (λh=>by obtain⟨h,_⟩:=h.2.1;omega) (aH _ _)
 have h00:0<s.size:=jO;have e0:¬s.toList=[]:=by rw[aga];intro h;have:=aq List.length h;simp at this;exact h0 (by rw[this];rfl)
 have e1:s.toList.isEmpty=false:=by simpa using e0
 by_cases a3:s.toList=[100,101,102,97,117,108,116]
 ·have b3:(s.toList == [100,101,102,97,117,108,116])=true:=by simpa using a3
  go_enter func127,ntmps127;go_wp2;go_ret;exact TM (λh=>h.2.2.1 a3) (aH _ _)
 have b3:(s.toList == [100,101,102,97,117,108,116])=false:=by simpa using a3
 by_cases a4:s.toList=[120,51,50]
 ·have b4:(s.toList == [120,51,50])=true:=by simpa using a4
  go_enter func127,ntmps127;go_wp2;go_ret;exact TM (λh=>h.2.2.2.1 a4) (aH _ _)
 have b4:(s.toList == [120,51,50])=false:=by simpa using a4
 by_cases a5:s.size<=30
 case neg=>
  have b5:decide ((s.size:Int)<=30)=false:=aee jO;go_enter func127,ntmps127;go_wp2;go_ret;exact TM (λh=>a5 h.1) (aH _ _)
 have b5:decide ((s.size:Int)<=30)=true:=adb jO;have C:=λW=>Any.strings_Trim_laid Tryz.iQ jK s ⟨Jd.toArray⟩ W hs jD (ascii_of_all jD)
 have Z:Hid (s.size<=30/\¬s.toList=[100,101,102,97,117,108,116]/\¬s.toList=[120,51,50]):=⟨a5,a3,a4⟩;clear a3 a4 a5;by_cases A:∀b∈s.data.toList,Jd.contains b=true
 case neg=>
  have U:¬trimS s.data.toList Jd=[]:=λh=>A ((QR _ _).1 h)
  have I:∀W,∃r:ByteArray,r.toList.isEmpty=false/\Calls prog 206 #[.string s,.string ⟨Jd.toArray⟩] W λe w'=>e=.returned (.string r)/\Below W.heap.size W w':=λW=>⟨_,by rw[aga];simpa using U,C W⟩
  obtain⟨r,hr,hc⟩:=I w;have hr2:¬r.toList=[]:=by simpa using hr
  have Y:=aT hc;have HN:Hid (¬Yj s):=λh=>A ((xW s).2 h.2.2.2.2)
  clear C I hc U A;go_enter func127,ntmps127
  go_wp2_with (go_at_call 206;refine Y.mono ?_;rintro e w1 ⟨rfl,D⟩)
  go_ret;exact TM HN D
 have hc:Calls prog 206 #[.string s,.string ⟨Jd.toArray⟩] w λe w'=>e=.returned (.string ⟨#[]⟩)/\Below w.heap.size w w':=by have:=C w;rw[show(⟨Jd.toArray⟩:ByteArray).data.toList=Jd from rfl,(QR _ _).2 A] at this;exact this
 have Y:=aT hc;have HA:=aT ((xW s).1 A);clear C hc A;have hi:=iK (s[0]'h00).toNat (s[0]'h00).toNat_lt;rw[UInt8.ofNat_toNat] at hi;have J:∀W,Calls prog 207 #[.string ⟨Rj.toArray⟩,.int .u8 ((s[0]'h00).toNat:Int)] W λe w'=>e=.returned (.int .i64 (indexByte Rj (s[0]'h00)))/\w'=W:=λW=>by have:=Any.strings_IndexByte Tryz.iR ⟨Rj.toArray⟩ ((s[0]'h00).toNat:Int) W;rw[Int.toNat_natCast,show(s[0]'h00).toNat.toUInt8=s[0]'h00 from UInt8.ofNat_toNat] at this;exact this
 generalize indexByte Rj (s[0]'h00)=ix at hi J;have T:=aT J;clear J;have h01:(0:Int)<(s.size:Int):=jO;by_cases a1:97<=(s[0]'h00).toNat/\(s[0]'h00).toNat<=122
 ·rw[adb a1] at hi;have HV:Hid (Yj s):=⟨Z.1,⟨h00,a1⟩,Z.2.1,Z.2.2,HA⟩;clear a1;go_enter func127,ntmps127
  go_wp2_with (first|(go_at_call 206;refine Y.mono ?_;rintro e w1 ⟨rfl,D⟩)|(go_at_call 207;refine(T _).mono ?_;rintro e w2 ⟨rfl,rfl⟩))
  go_ret;exact⟨true,rfl,⟨λ_=>HV,λ_=>rfl⟩,D⟩
 ·rw[aee a1] at hi;have HV:Hid (¬Yj s):=λh=>a1 (by obtain⟨h',h1,h2⟩:=h.2.1;exact⟨h1,h2⟩)
  clear a1;go_enter func127,ntmps127
  go_wp2_with (first|(go_at_call 206;refine Y.mono ?_;rintro e w1 ⟨rfl,D⟩)|(go_at_call 207;refine(T _).mono ?_;rintro e w2 ⟨rfl,rfl⟩))
  go_ret;exact TM HV D
end Go.Proofs.YtclgigmgbebhgaaGreatDoor.Z4
namespace Go.Proofs.YtclgigmgbebhgaaGreatDoor.Z4
open Tryz
open Go Go.Proofs Go.RowKit Go.Maps Go.WideMaps Go.ChangeMaps
variable {p:Int×Int} {W W':World}
theorem ao4:ArrKey prog 312 3 2:=⟨underlying312,jK,jK,jK⟩
theorem szK:∃m,prog.types.size=m+1:=⟨prog.types.size-1,by
 have:0<prog.types.size:=by decide+kernel
 omega⟩
theorem OV:Keyed prog 312:=Keyed.of_law ao4.law
def PV(p:Int×Int):Value:=.agg #[.int .i64 p.1,.int .i64 p.2]
def In64(p:Int×Int):Prop:=(Lit.int .i64 p.1).wf=true/\(Lit.int .i64 p.2).wf=true
theorem Li (h:In64 p):∃l,keyOf prog 312 (PV p)=some l:=⟨_,keyOf_pair ao4 underlying3 szK h.1 h.2⟩
theorem CX{q:Int×Int}(h:PV p=PV q):p=q:=by
 obtain⟨a,b⟩:=p;obtain⟨c,d⟩:=q;simp[PV] at h;simp[h.1,h.2]
def XT(W:World)(B:Nat)(S:List (Int×Int)):Prop:=
 ∃es clock,W.heap[B]? =some (.map es clock)/\es.toList.map (λe=>(e.key,e.val))=S.map (λp=>(PV p,Value.bool true))/\∀p∈S,In64 p
theorem XT.lt {B:Nat}{S:List (Int×Int)}(h:XT W B S):B<W.heap.size:=by
 obtain⟨es,c,h,_⟩:=h;exact(aaa.1 h).1
theorem XT.kept {row:Option Nat}{B:Nat}{S:List (Int×Int)}(h:XT W B S)(D:W.grownBy W' row)(A:some B≠row):XT W' B S:=by
 have hl:=h.lt;obtain⟨es,c,h,C,I⟩:=h;exact⟨es,c,(D.block B hl A).trans h,C,I⟩
theorem XT.below{n:Nat} {B:Nat}{S:List (Int×Int)}(h:XT W B S)(hb:Below n W W')(A:B<n):XT W' B S:=by
 obtain⟨es,c,h,D,C⟩:=h;exact⟨es,c,(hb.block B A).trans h,D,C⟩
theorem XT.alloc {B:Nat}{S:List (Int×Int)}(h:XT W B S)(o:Obj):XT (W.alloc o) B S:=h.kept (aea W o none) jS
theorem XT.made(W:World):XT (W.alloc (.map #[] 0)) W.heap.size []:=⟨#[],0,ard W _,rfl,jS⟩
theorem NS{es:Array MapEntry}{S:List (Int×Int)}(C:es.toList.map (λe=>(e.key,e.val))=S.map (λp=>(PV p,Value.bool true))):(∀e∈es.toList,∃p∈S,e.key=PV p/\e.val=.bool true)/\∀p∈S,∃e∈es.toList,e.key=PV p:=by
 constructor;·intro e A;have:(e.key,e.val)∈es.toList.map (λe=>(e.key,e.val)):=ai.2 ⟨e,A,rfl⟩;rw[C] at this;obtain⟨p,hp,e1⟩:=ai.1 this;simp only[asb] at e1;exact⟨p,hp,e1.1.symm,e1.2.symm⟩
 ·intro p hp;have:(PV p,Value.bool true)∈S.map (λp=>(PV p,Value.bool true)):=ai.2 ⟨p,hp,rfl⟩;rw[<-C] at this;obtain⟨e,A,e1⟩:=ai.1 this;simp only[asb] at e1;exact⟨e,A,e1.1⟩
theorem uC {B:Nat}{S:List (Int×Int)}(h:XT W B S)(p:Int×Int)(hp:In64 p):
 (Instr.lookup 251 (.map (some B)) (PV p) false).run prog W=.ok (.bool (decide (p∈S))) W:=by
 obtain⟨es,clock,hb,h2,Y⟩:=h;obtain⟨U,k2⟩:=NS h2;obtain⟨kl,A⟩:=Li hp;have hz:∀W,(zeroValue 4).run prog W=.ok (.bool false) W:=λ_=>jK
 rcases OV.find W A es.toList (λe T=>by obtain⟨q,J,e1,_⟩:=U e T;rw[e1];exact Li (Y q J)) with⟨I,D⟩|⟨j,e0,I,D,Z⟩
 ·have hn:¬p∈S:=λhm=>by
   obtain⟨e,T,e1⟩:=k2 p hm;exact D e T e1
  simp[Instr.lookup,ajb underlying251,aic hb,OV.check W _ A,I,hz,Result.andThen,hn]
 ·have C:e0∈es.toList:=af D;obtain⟨q,J,e1,e2⟩:=U e0 C;have hy:p∈S:=by rw[CX (Z.symm.trans e1)];exact J
  simp[Instr.lookup,ajb underlying251,aic hb,OV.check W _ A,I,Result.andThen,hy,e2]
def JR(S:List (Int×Int))(p:Int×Int):List (Int×Int):=if p∈S then S else S++[p]
theorem oT {B:Nat}{S:List (Int×Int)}(h:XT W B S)(p:Int×Int)(hp:In64 p):
 ∃W',(Instr.mapUpdate 251 (.map (some B)) (PV p) (.bool true)).run prog W=.ok () W'/\XT W' B (JR S p)/\W.grownBy W' (some B):=by
 obtain⟨es,clock,hb,h2,T⟩:=h;obtain⟨k1,k2⟩:=NS h2;obtain⟨kl,A⟩:=Li hp;rcases OV.find W A es.toList (λe U=>by obtain⟨q,I,e1,_⟩:=k1 e U;rw[e1];exact Li (T q I)) with⟨h4,J⟩|⟨j,e0,h4,J,h6⟩
 ·have hn:¬p∈S:=λhm=>by
   obtain⟨e,U,e1⟩:=k2 p hm;exact J e U e1
  refine⟨setBlock W B (.map (es.push ⟨PV p,.bool true,clock⟩) (clock+1)),?_,⟨_,_,heap_setBlock_same hb _,?_,?_⟩,⟨rfl,rfl,rfl,by simp[setBlock],λi _ hi=>heap_setBlock_other hb _ (λe=>hi (by rw[e]))⟩⟩;·simp[Instr.mapUpdate,ajb underlying251,aic hb,OV.check W false A,h4,awc _ hb,Result.andThen,setBlock]
  ·rw[JR,aN hn];simp[h2]
  ·rw[JR,aN hn];intro q I;rcases abe.1 I with h|h;·exact T q h
   ·rw[aac.1 h];exact hp
 ·have Z:e0∈es.toList:=af J;obtain⟨q,I,e1,e2⟩:=k1 e0 Z;have hy:p∈S:=by rw[CX (h6.symm.trans e1)];exact I
  have D:es[j]? =some e0:=by simpa using J
  have Y:=OV.stays W A;refine⟨setBlock W B (.map (es.modify j λe=>{e with key:=PV p,val:=.bool true}) clock),?_,⟨_,_,heap_setBlock_same hb _,?_,?_⟩,⟨rfl,rfl,rfl,by simp[setBlock],λi _ hi=>heap_setBlock_other hb _ (λe=>hi (by rw[e]))⟩⟩;·simp[Instr.mapUpdate,ajb underlying251,aic hb,OV.check W false A,h4,awc _ hb,Result.andThen,setBlock,D,h6,Y]
  ·rw[JR,aG hy,<-h2]
   have C:(es.modify j λe=>{e with key:=PV p,val:=.bool true})=es:=by
    apply Array.ext_getElem?;intro i;rw[ake];by_cases hi:j=i;·subst hi;rw[aG rfl,D];simp only[avf,akf];rw[<-h6,<-e2]
    ·rw[aN hi]
   rw[C]
  ·rw[JR,aG hy];exact T
end Go.Proofs.YtclgigmgbebhgaaGreatDoor.Z4
namespace Go.Proofs.YtclgigmgbebhgaaGreatDoor.Z4
open Tryz
open Go Go.Proofs Go.RowKit
def M0(x:Int):Bool:=decide (x < -1) || decide (1073741823<x)
theorem Ab(x:Int):M0 x=true↔¬Oo x:=by
 unfold M0 Oo;simp;omega
theorem oQ(x:Int)(w:World):Calls prog 209 #[.int .i64 x] w λe w'=>e=.returned (.bool (M0 x))/\w=w':=by
 by_cases C:x < -1;·have A:decide (x < -1)=true:=adb C;go_enter func209,ntmps209;go_wp2;go_ret;exact⟨GD (by unfold M0;rw[A];rfl),rfl⟩
 ·have A:decide (x < -1)=false:=aee C;go_enter func209,ntmps209;go_wp2;go_ret;exact⟨GD (by unfold M0;rw[A];rfl),rfl⟩
def oP(y:Z2)(w:World)(e:Ending)(w':World):Prop:=∃i:Int,e=.returned (.int .i64 i)/\(0<=i↔∃a,a<5/\¬Oo (y.num a))/\w=w'
theorem oO(b:Nat)(y:Z2)(w:World)(hc:∀a,a<5->w.cell? ⟨b,1+a,none⟩=some (.int .i64 (y.num a))):
 Calls prog 270 #[.slice (some ⟨b,1,none⟩) 5 5,.func (.func 209) #[] #[]] w (oP y w):=by
 have Hc:=aT hc;clear hc;go_enter func270,ntmps270;go_wp2;go_loopg [5,8] 5 (λgg _ s8 wr=>w=wr/\∃I:Nat,I<=5/\5-I<=gg/\s8=.int .i64 I/\Hid (∀a,a<I->Oo (y.num a)));case atStart=>exact⟨rfl,0,jO,jO,rfl,λa ha=>absurd ha (ajd _)⟩
 case round=>
  obtain⟨rfl,I,hkk,hg,rfl,A⟩:=hrel;by_cases T:I<5
  ·have U:(I:Int)<(5:Int):=by omega
   have c:=Hc I T;have C:=oQ (y.num I);have D:=Ab (y.num I);generalize hx:y.num I=x at c C D;have Z:=aT hx;clear hx;cases hb:M0 x with
   |true=>
    rw[hb] at C D;have J:=aT C;have Y:Hid (¬Oo x):=D.1 rfl;clear C D hb;go_wp2_with fail;refine(J _).mono ?_;rintro e w' ⟨rfl,rfl⟩;go_wp2;go_ret;exact⟨(I:Int),rfl,⟨λ_=>⟨I,T,by rw[Z.out];exact Y⟩,λ_=>jO⟩,rfl⟩
   |false=>
    have Y:Hid (Oo x):=by
     by_cases h:Oo x;·exact h
     ·rw[D.2 h] at hb;cases hb
    rw[hb] at C;have J:=aT C;clear C D hb;go_wp2_with fail;refine(J _).mono ?_;rintro e w' ⟨rfl,rfl⟩;go_wp2;go_roundg (5-(I+1));case measure=>omega
    case rel=>
     refine⟨rfl,I+1,jO,jO,by go_num,(show Hid _ from λa ha=> ?_)⟩;by_cases e:a=I;·subst e;rw[Z.out];exact Y
     ·exact A a jO
  ·have U:¬(I:Int)<(5:Int):=by omega
   obtain rfl:I=5:=jO;go_wp2;go_ret;exact⟨-1,rfl,⟨λh=>jO,λ⟨a,ha,hn⟩=>absurd (A a ha) hn⟩,rfl⟩
def uB(y:Z2)(w:World)(e:Ending)(w':World):Prop:=∃v:Bool,e=.returned (.bool v)/\(v=true↔∃a,a<5/\¬Oo (y.num a))/\w=w'
theorem uA(b:Nat)(y:Z2)(w:World)(hc:∀a,a<5->w.cell? ⟨b,1+a,none⟩=some (.int .i64 (y.num a))):
 Calls prog 208 #[.slice (some ⟨b,1,none⟩) 5 5,.func (.func 209) #[] #[]] w (uB y w):=by
 have C:=aT (oO b y w hc);clear hc;go_enter func208,ntmps208;go_wp2_with fail;refine C.mono ?_;rintro e w' ⟨i,rfl,hi,rfl⟩;have A:=aT hi;clear hi C;go_wp2;go_ret;exact⟨_,rfl,⟨λh=>A.1 (by simpa using h),λh=>by simpa using A.out.2 h⟩,rfl⟩
def JQ(y:Z2)(w:World)(e:Ending)(w':World):Prop:=∃v:Bool,e=.returned (.bool v)/\(v=true↔Om y)/\Below w.heap.size w w'
theorem SJ(y:Z2)(w:World):
 Calls prog 128 #[.agg #[.string y.name,.int .i64 y.n0,.int .i64 y.n1,.int .i64 y.n2,.int .i64 y.n3,.int .i64 y.n4,.int .i64 y.Yv,.int .i64 y.sub]] w (JQ y w):=by
 have bY:=Z7.new w 40 #[.string y.name,.int .i64 y.n0,.int .i64 y.n1,.int .i64 y.n2,.int .i64 y.n3,.int .i64 y.n4,.int .i64 y.Yv,.int .i64 y.sub];have C:=uA w.heap.size y _ (λa ha=>by
  have:=bY.cell (1+a);rw[this]
  match a,ha with
  |0,_=>rfl
  |1,_=>rfl
  |2,_=>rfl
  |3,_=>rfl
  |4,_=>rfl)
 have Hc:=aT C;clear C bY;go_enter func128,ntmps128;go_wp2_with fail;refine Hc.mono ?_;rintro e w' ⟨v,rfl,hv,rfl⟩;have U:=aT hv;have Y:=aT ((aH _ w).alloc (aR _) (.cells #[.string y.name,.int .i64 y.n0,.int .i64 y.n1,.int .i64 y.n2,.int .i64 y.n3,.int .i64 y.n4,.int .i64 y.Yv,.int .i64 y.sub] 40));clear hv Hc;cases v with
 |true=>
  go_wp2;go_ret;exact⟨false,rfl,⟨λh=>(by cases h),λh=>by obtain⟨a,ha,hn⟩:=U.1 jS;exact absurd (h.1 a ha) hn⟩,Y⟩
 |false=>
  have HA:Hid (∀a,a<5->Oo (y.num a)):=by
   intro a ha;by_cases h:Oo (y.num a);·exact h
   ·exact absurd (U.2 ⟨a,ha,h⟩) jS
  clear U
  have J:∀v:Bool,(v=true↔PH y)->JQ y w (.returned (.bool v)) (w.alloc (.cells #[.string y.name,.int .i64 y.n0,.int .i64 y.n1,.int .i64 y.n2,.int .i64 y.n3,.int .i64 y.n4,.int .i64 y.Yv,.int .i64 y.sub] 40)):=
   λv h=>⟨v,rfl,⟨λT=>⟨HA,h.1 T⟩,λT=>h.2 T.2⟩,Y⟩
  have A:=aT J;clear J HA Y;by_cases m0:y.Yv=0
  ·have e0:(y.Yv == 0)=true:=by simpa using m0
   have D:=aT m0;clear m0;go_wp2;go_ret;exact A _ (by have:=D.out;unfold PH;simp;omega)
  ·have e0:(y.Yv == 0)=false:=by simpa using m0
   by_cases m1:y.Yv=1
   ·have e1:(y.Yv == 1)=true:=by simpa using m1
    have D:=aT m1;clear m1;by_cases s1:1<=y.sub;·have Z:decide (1<=y.sub)=true:=adb s1;go_wp2;go_ret;exact A _ (by have:=D.out;unfold PH;simp;omega)
    ·have Z:decide (1<=y.sub)=false:=aee s1;go_wp2;go_ret;exact A _ (by have:=D.out;unfold PH;simp;omega)
   ·have e1:(y.Yv == 1)=false:=by simpa using m1
    by_cases I:y.Yv=2
    ·have e2:(y.Yv == 2)=true:=by simpa using I
     have D:=aT I;clear I m1;by_cases s1:1<=y.sub;·have Z:decide (1<=y.sub)=true:=adb s1;go_wp2;go_ret;exact A _ (by have:=D.out;unfold PH;simp;omega)
     ·have Z:decide (1<=y.sub)=false:=aee s1;go_wp2;go_ret;exact A _ (by have:=D.out;unfold PH;simp;omega)
    ·have e2:(y.Yv == 2)=false:=by simpa using I
     have D:Hid (¬y.Yv=0/\¬y.Yv=1/\¬y.Yv=2):=⟨m0,m1,I⟩;clear m0 m1 I;go_wp2;go_ret;exact A _ (by have:=D.out;unfold PH;simp;omega)
def FP(B:Nat)(S:List (Int×Int))(p:Int×Int)(w:World)(e:Ending)(w':World):Prop:=
 e=.returned (.bool (decide (p∈S)))/\XT w' B (JR S p)/\w.heap.size<=w'.heap.size/\w.os=w'.os/\w.tape=w'.tape/\w.output=w'.output/\∀b,b<w.heap.size->b≠B->w'.heap[b]? =w.heap[b]?
theorem QQ(B:Nat)(S:List (Int×Int))(p:Int×Int)(w:World)(h:XT w B S)(hp:In64 p):
 Calls prog 129 #[.map (some B),.int .i64 p.1,.int .i64 p.2] w (FP B S p w):=by
 have C:=h.alloc (.cells #[.int .i64 p.1,.int .i64 p.2] 312);have hl:=uC C p hp;obtain⟨W',hu,J,I⟩:=oT C p hp;unfold PV at hl hu;have T:=aT J;have A:=aT I;clear h C J I;go_enter func129,ntmps129;go_wp2;go_ret;refine⟨rfl,T,?_,?_,?_,?_,?_⟩;·have:=A.size;simp at this;omega
 ·exact A.os.symm
 ·exact A.tape.symm
 ·exact A.output.symm
 ·intro b hb D;exact(A.block b (by simp;omega) (by simpa using D)).trans ((aea w _ none).block b hb jS)
end Go.Proofs.YtclgigmgbebhgaaGreatDoor.Z4
namespace Go.Proofs.YtclgigmgbebhgaaGreatDoor
open Tryz
open Go Go.Proofs
def oZ(c:UInt8):Bool:=c == 32 || c == 9 || c == 13
def okB(c:UInt8):Bool:=oZ c || (32<=c&&c<=126)
end Go.Proofs.YtclgigmgbebhgaaGreatDoor
namespace Go.Proofs.YtclgigmgbebhgaaGreatDoor
open Tryz
open Go Go.Proofs Go.RowKit Go.Shelf
theorem Aa{W:World}{B B' e e' s s' n n' g:Nat}{v v':Value}{xs xs':List Value}(h:W.ownsRow B e s v n xs)(Y:W.ownsRow B' e' s' v' n' xs')(U:e≠e')(A:v'.ownBlock=some g):v.ownBlock≠some g:=by
 intro hv;rcases h.2 with⟨rfl,_⟩|⟨Z,cap,T,rfl,_,J,_⟩;·simp[Value.ownBlock] at hv
 ·rcases Y.2 with⟨rfl,_⟩|⟨g2,D,I,rfl,_,C,_⟩;·simp[Value.ownBlock] at A
  ·simp only[Value.ownBlock,akf] at hv A;subst hv;subst A;rw[J] at C;simp only[akf,ayf] at C;exact U C.2.1
end Go.Proofs.YtclgigmgbebhgaaGreatDoor
namespace Go.Proofs.YtclgigmgbebhgaaGreatDoor.Z0
open Tryz
open Go Go.Proofs Go.RowKit
structure YK where
 (a o m v:Int)
structure ZJ where
 name:ByteArray
 (k n:Int)
 conds:List YK
structure PSt where
 (k n:Int)
 x:Bool
 rules:List ZJ
def iJ(c:UInt8):Bool:=(decide (97<=c.toNat)&&decide (c.toNat<=122)) || (decide (48<=c.toNat)&&decide (c.toNat<=57)) || c.toNat == 95
def Pw(s:ByteArray):Bool:=
 decide (s.size<=30)&&(match s.data.toList with|[]=>false|c::_=>decide (97<=c.toNat)&&decide (c.toNat<=122)) && !(s.toList == [100,101,102,97,117,108,116]) && !(s.toList == [120,51,50])&&s.data.toList.all iJ
theorem CW(c:UInt8):iJ c=true↔Z4.bR c.toNat:=by
 unfold iJ Z4.bR;simp only[atb,agc,aed,ahd];constructor
 ·rintro((h|h)|h);·exact .inl h
  ·exact .inr (.inl h)
  ·exact .inr (.inr h)
 ·rintro(h|h|h);·exact .inl (.inl h)
  ·exact .inl (.inr h)
  ·exact .inr h
theorem uz(s:ByteArray):Pw s=true↔Z4.Yj s:=by
 have hl:s.data.toList.length=s.size:=ang;have A:(s.data.toList.all iJ=true)↔∀j (h:j<s.size),Z4.bR (s[j]'h).toNat:=by
  rw[apa];constructor;·intro h j T;exact(CW _).1 (h _ (List.getElem_mem (by rw[hl];exact T)))
  ·intro h c hc;obtain⟨j,T,rfl⟩:=agb.1 hc;exact(CW _).2 (h j (by rw[<-hl];exact T))
 have D:(match s.data.toList with|[]=>false|c::_=>decide (97<=c.toNat)&&decide (c.toNat<=122))=true↔∃h:0<s.size,97<=(s[0]'h).toNat/\(s[0]'h).toNat<=122:=by
  constructor
  ·intro h
   have h0:0<s.size:=by
    rw[<-hl];cases Z:s.data.toList with
    |nil=>rw[Z] at h;cases h
    |cons c r=>simp
   have e:s.data.toList=s[0]'h0::s.data.toList.drop 1:=by
    conv=>lhs;rw[<-aug (l:=s.data.toList)]
    rw[aud (by rw[hl];exact h0)];rfl
   rw[e] at h;refine⟨h0,?_⟩;simpa using h
  ·rintro⟨h0,h⟩
   have e:s.data.toList=s[0]'h0::s.data.toList.drop 1:=by
    conv=>lhs;rw[<-aug (l:=s.data.toList)]
    rw[aud (by rw[hl];exact h0)];rfl
   rw[e];simpa using h
 unfold Pw Z4.Yj;simp only[agc,aed,Bool.not_eq_true',ae,ne_eq,A,D];constructor;·rintro⟨⟨⟨⟨C,Y⟩,J⟩,U⟩,I⟩;exact⟨C,Y,J,U,I⟩
 ·rintro⟨C,Y,J,U,I⟩;exact⟨⟨⟨⟨C,Y⟩,J⟩,U⟩,I⟩
def ao5(e:Int):Int:=if e=4 then 13 else e
def ifB:List UInt8:=[105,102]
def aC7:List UInt8:=[97,110,100]
def ao6(acc:List YK):List UInt8:=if acc.length=0 then ifB else aC7
def uy(acc:List YK)(w0:ByteArray)(r:List ByteArray):Int ⊕ (List YK×List ByteArray):=
 if (w0.toList == ao6 acc)=false then .inl 13
 else if 6<=acc.length then .inl 3
 else if (Zh.UB r).e≠0 then .inl (ao5 (Zh.UB r).e)
 else .inr (acc++[⟨(Zh.UB r).a,(Zh.UB r).o,(Zh.UB r).m,(Zh.UB r).v⟩],r.drop (Zh.UB r).n.toNat)
end Go.Proofs.YtclgigmgbebhgaaGreatDoor.Z0
namespace Go.Proofs.YtclgigmgbebhgaaGreatDoor.Zh
open Tryz
open Go Go.Proofs Go.RowKit
def YE(n:Nat):ByteArray:=⟨(Lib.decDigits n).toArray⟩
theorem M4(n:Nat)(h:n<18446744073709551616):(YE n).size<=20:=by
 have A:=Lib.nDigits_le20 n h;rw[<-Lib.decDigits_length] at A;exact A
def WN(a:Nat)(o:Int)(m v:Nat):List ByteArray:=
 if o=7 then [⟨#[97]⟩++YE a,X8 7,YE m,⟨#[61,61]⟩,YE v] else [⟨#[97]⟩++YE a,X8 o,YE v]
def Xa(a:Nat)(o:Int)(m v:Nat):ByteArray:=⟨(Lib.join ((WN a o m v).map (·.data.toList)) [32]).toArray⟩
theorem xV(o:Int):(X8 o).size<=2:=by
 unfold X8
 repeat' split
 all_goals decide
theorem NQ(a:Nat)(h:a<=5):(YE a).size=1:=by
 have:a=0\/a=1\/a=2\/a=3\/a=4\/a=5:=jO;rcases this with rfl|rfl|rfl|rfl|rfl|rfl<;>decide+kernel
theorem jc(x y:List UInt8)(zs:List (List UInt8)):Lib.join (x::y::zs) [32]=x++32::Lib.join (y::zs) [32]:=by simp[Lib.join]
theorem j1(x:List UInt8):Lib.join [x] [32]=x:=by simp[Lib.join]
theorem MZ(a:Nat)(o:Int)(m v:Nat)(ha:a<=5)(hm:m<18446744073709551616)(hv:v<18446744073709551616):(Xa a o m v).size<=60:=by
 have T:=M4 m hm;have J:=M4 v hv;have D:=NQ a ha;have I:=xV o;have U:=xV 7;have e:∀x:ByteArray,x.data.toList.length=x.size:=λx=>ang
 have A:((⟨#[97]⟩:ByteArray)++YE a).size=2:=by rw[axc,D];rfl
 have C:(⟨#[61,61]⟩:ByteArray).size=2:=rfl;show(Lib.join ((WN a o m v).map (·.data.toList)) [32]).toArray.size<=60;rw[aib];unfold WN;split;·simp only[aec,apb,jc,j1,ay,e,A,C,aj,acg];omega
 ·simp only[aec,apb,jc,j1,ay,e,A,aj,acg];omega
end Go.Proofs.YtclgigmgbebhgaaGreatDoor.Zh
namespace Go.Proofs.YtclgigmgbebhgaaGreatDoor.Z0
open Tryz
open Go Go.Proofs Go.RowKit
variable {s:ByteArray} {xs:List Value} {tr:Nat} {o:Obj} {v':Value} {W W':World}
def wB(c:UInt8):Bool:=okB c && !oZ c&&c != 35
def Wn(c:YK):Bool:=Zh.Xr c.a c.o c.m
def V2(r:ZJ):Bool:=Pw r.name&&(X7.Zc r.k r.n&&(decide (r.conds.length<=6)&&r.conds.all Wn))
def xU(p:PSt):Bool:=X7.Zc p.k p.n&&(decide (p.rules.length<=500)&&p.rules.all V2)
def Pv(c:YK):Prop:=(0<=c.m/\c.m<18446744073709551616)/\(0<=c.v/\c.v<18446744073709551616)
theorem zZ(s:ByteArray):Z4.Om ⟨s,-1,-1,-1,-1,-1,0,0⟩:=by
 refine⟨λa ha=> ?_,?_⟩
 ·have:a=0\/a=1\/a=2\/a=3\/a=4:=by omega
  rcases this with rfl|rfl|rfl|rfl|rfl<;>exact(by decide:(-1:Int)<=-1/\(-1:Int)<=1073741823)
 ·unfold Z4.PH;simp
theorem ux {v:Bool}(h:v=true↔Z4.Yj s):v=Pw s:=by
 rw[<-uz] at h;rw[aoc];exact h
theorem zY(s:ByteArray)(w:World)(hs:s.size<=1000000):Calls prog 127 #[.string s] w λe w'=>e=.returned (.bool (Pw s))/\Below w.heap.size w w':=
 (Z4.G5 s w jO).mono (by rintro e w' ⟨v,rfl,hv,hb⟩;exact⟨by rw[ux hv],hb⟩)
theorem CV(s:ByteArray)(w:World):Calls prog 128 #[.agg #[.string s,.int .i64 (-1),.int .i64 (-1),.int .i64 (-1),.int .i64 (-1),.int .i64 (-1),.int .i64 0,.int .i64 0]] w λe w'=>e=.returned (.bool true)/\Below w.heap.size w w':=
 (Z4.SJ ⟨s,-1,-1,-1,-1,-1,0,0⟩ w).mono (by rintro e w' ⟨v,rfl,hv,hb⟩;exact⟨by rw[hv.2 (zZ s)],hb⟩)
theorem SI{w wx:World}{a:Addr}{v:Value}(hb:Below w.heap.size w wx)(h:w.cell? a=some v):wx.cell? a=some v:=(hb.cell (afe _ _ h)).trans h
theorem G4 {B:Nat}{t:TypeId}{cs:Array Value}(h:Hid (Z7 W B t cs))(hb:Below W.heap.size W W'):Hid (Z7 W' B t cs):=h.below hb h.lt
theorem zX(s:ByteArray)(hs:s.size<=1000000)(B:Nat)(w:World)(J:Z7 w B 40 #[.string s,.int .i64 (-1),.int .i64 (-1),.int .i64 (-1),.int .i64 (-1),.int .i64 (-1),.int .i64 0,.int .i64 0]):
 Calls prog 76 #[.slice (some ⟨B,0,none⟩) 1 1] w λe w'=>(∃i:Int,e=.returned (.tuple #[.int .i64 i,.int .i64 (if Pw s=true then 0 else 13)]))/\Below w.heap.size w w':=by
 have c0:=J.cell 0;have c1:=J.cell 1;have c2:=J.cell 2;have c3:=J.cell 3;have c4:=J.cell 4;have c5:=J.cell 5;have c6:=J.cell 6;have c7:=J.cell 7;have hBl:=J.lt;simp only[ak,aL,aF] at c0 c1 c2 c3 c4 c5 c6 c7;have Jw:= @apc prog;have HSN:=aT (λW=>zY s W hs);have HSR:=aT (λW=>CV s W);have i0:∀w,(Instr.index 38 (.agg #[.int .i64 (-1),.int .i64 (-1),.int .i64 (-1),.int .i64 (-1),.int .i64 (-1)]) (.int .i64 0)).run prog w=.ok (.int .i64 (-1)) w:=λ_=>jK
 have i1:∀w,(Instr.index 38 (.agg #[.int .i64 (-1),.int .i64 (-1),.int .i64 (-1),.int .i64 (-1),.int .i64 (-1)]) (.int .i64 1)).run prog w=.ok (.int .i64 (-1)) w:=λ_=>jK
 have i2:∀w,(Instr.index 38 (.agg #[.int .i64 (-1),.int .i64 (-1),.int .i64 (-1),.int .i64 (-1),.int .i64 (-1)]) (.int .i64 2)).run prog w=.ok (.int .i64 (-1)) w:=λ_=>jK
 have i3:∀w,(Instr.index 38 (.agg #[.int .i64 (-1),.int .i64 (-1),.int .i64 (-1),.int .i64 (-1),.int .i64 (-1)]) (.int .i64 3)).run prog w=.ok (.int .i64 (-1)) w:=λ_=>jK
 have i4:∀w,(Instr.index 38 (.agg #[.int .i64 (-1),.int .i64 (-1),.int .i64 (-1),.int .i64 (-1),.int .i64 (-1)]) (.int .i64 4)).run prog w=.ok (.int .i64 (-1)) w:=λ_=>jK
 clear J;generalize Pw s=nb at*;go_enter func76,ntmps76;go_upto_region 5 with fail;have U:=aT ((aH w.heap.size w).alloc (aR _) (.map #[] 0));have C:Below w.heap.size w (w.alloc (.map #[] 0)):=U;have q0:=SI C c0;have q1:=SI C c1;have q2:=SI C c2;have q3:=SI C c3;have q4:=SI C c4;have q5:=SI C c5;have q6:=SI C c6;have q7:=SI C c7;clear c0 c1 c2 c3 c4 c5 c6 c7 C Jw;generalize w.alloc (.map #[] 0)=W1 at*
 go_loopw [16] (λT wr=>(T=.int .i64 0/\W1=wr)\/(T=.int .i64 1/\nb=true/\Hid (Below w.heap.size w wr))) (λT _=>1-(intOf T).toNat)
 case atStart=>exact .inl ⟨rfl,rfl⟩
 case round=>
  rcases hrel with⟨rfl,rfl⟩|⟨rfl,Ip,HB⟩
  ·have HI:=aT (Z7.new W1 40 #[.string s,.int .i64 (-1),.int .i64 (-1),.int .i64 (-1),.int .i64 (-1),.int .i64 (-1),.int .i64 0,.int .i64 0]);have XA:=aT (U.alloc U.size (.cells #[.string s,.int .i64 (-1),.int .i64 (-1),.int .i64 (-1),.int .i64 (-1),.int .i64 (-1),.int .i64 0,.int .i64 0] 40));go_upto_region 8 with fail;clear q0 q1 q2 q3 q4 q5 q6 q7;generalize W1.alloc (.cells #[.string s,.int .i64 (-1),.int .i64 (-1),.int .i64 (-1),.int .i64 (-1),.int .i64 (-1),.int .i64 0,.int .i64 0] 40)=W2 at*;generalize W1.heap.size=IB at*;have d0:=HI.cell 0;simp only[ak,aL,aF] at d0;go_wp2_with fail;refine(HSN _).mono ?_;rintro e w3 ⟨rfl,hb3⟩;have HI3:=G4 HI hb3;have D:=aT (XA.trans (hb3.mono XA.size));clear hb3 HI XA U d0 HSN;cases nb with
   |false=>
    go_wp2;go_ret2;exact⟨⟨0,rfl⟩,D⟩
   |true=>
    go_upto_region 10 with fail;go_quiet (fail);have A:Hid (Z7 (w3.drewN nq) IB 40 #[.string s,.int .i64 (-1),.int .i64 (-1),.int .i64 (-1),.int .i64 (-1),.int .i64 (-1),.int .i64 0,.int .i64 0]):=HI3;have Z:Hid (Below w.heap.size w (w3.drewN nq)):=⟨D.os,D.tape,D.output,D.size,D.block⟩;clear HI3 D;generalize w3.drewN nq=w4 at*;have d0:=A.cell 0;have d1:=A.cell 1;have d2:=A.cell 2;have d3:=A.cell 3;have d4:=A.cell 4;have d5:=A.cell 5;have d6:=A.cell 6;have d7:=A.cell 7;simp only[ak,aL,aF] at d0 d1 d2 d3 d4 d5 d6 d7;go_wp2_with fail;refine(HSR _).mono ?_;rintro e w5 ⟨rfl,Y⟩;have I:=G4 A Y;have Lz:=aT (Z.trans (Y.mono Z.size));clear Y A Z d0 d1 d2 d3 d4 d5 d6 d7 HSR;have d1:=I.cell 1;have d2:=I.cell 2;have d3:=I.cell 3;have d4:=I.cell 4;have d5:=I.cell 5;have d6:=I.cell 6;simp only[ak,aL,aF] at d1 d2 d3 d4 d5 d6;go_upto_region 17 with fail;go_loopg [60] 6 (λgg s60 wx=>w5=wx/\∃a:Nat,a<=5/\5-a<gg/\s60=.int .i64 a);case atStart=>exact⟨rfl,0,jO,jO,rfl⟩
    case round=>
     obtain⟨rfl,a,ha,hg,rfl⟩:=hrel;have:a=0\/a=1\/a=2\/a=3\/a=4\/a=5:=jO;rcases this with rfl|rfl|rfl|rfl|rfl|rfl
     ·go_wp2;go_roundg 5;case measure=>omega
      case rel=>exact⟨rfl,1,jO,jO,rfl⟩
     ·go_wp2;go_roundg 4;case measure=>omega
      case rel=>exact⟨rfl,2,jO,jO,rfl⟩
     ·go_wp2;go_roundg 3;case measure=>omega
      case rel=>exact⟨rfl,3,jO,jO,rfl⟩
     ·go_wp2;go_roundg 2;case measure=>omega
      case rel=>exact⟨rfl,4,jO,jO,rfl⟩
     ·go_wp2;go_roundg 1;case measure=>omega
      case rel=>exact⟨rfl,5,jO,jO,rfl⟩
     ·go_wp2;go_roundw;case rel=>first|exact .inr ⟨trivial,rfl,Lz⟩|exact .inr ⟨rfl,trivial,Lz⟩|exact .inr ⟨trivial,Lz⟩
      case measure=>simp[intOf]
  ·subst Ip;go_wp2;go_ret2;exact⟨⟨0,rfl⟩,HB⟩
theorem zW(s:ByteArray)(hs:s.size<=1000000)(w:World):Calls prog 204 #[.string s] w λe w'=>e=.returned (.bool (Pw s))/\Below w.heap.size w w':=by
 have hr:=zX s hs w.heap.size (w.alloc (.cells #[.string s,.int .i64 (-1),.int .i64 (-1),.int .i64 (-1),.int .i64 (-1),.int .i64 (-1),.int .i64 0,.int .i64 0] 40)) (Z7.new w _ _);have I:=aT hr;have D:=aT ((aH w.heap.size w).alloc (aR _) (.cells #[.string s,.int .i64 (-1),.int .i64 (-1),.int .i64 (-1),.int .i64 (-1),.int .i64 (-1),.int .i64 0,.int .i64 0] 40));clear hr;generalize Pw s=nb at*;go_enter func204,ntmps204;go_wp2_with fail;refine I.mono ?_;rintro e J ⟨⟨i,rfl⟩,A⟩;have C:=aT (D.trans (A.mono D.size));clear A D I;cases nb with
 |false=>
  rw[aN jD];go_wp2;go_ret;exact⟨rfl,C⟩
 |true=>
  rw[aG rfl];go_wp2;go_ret;exact⟨rfl,C⟩
def G3(c:YK):List Value:=[.int .i64 c.a,.int .i64 c.o,.int .u64 c.m,.int .u64 c.v]
def Wm(l:List YK):List Value:=l.flatMap G3
theorem zV(l:List YK)(x:YK):Wm (l++[x])=Wm l++G3 x:=by unfold Wm;rw[acb];simp
def LX(r:ZJ)(u:Value):List Value:=[.string r.name,.int .i64 r.k,.int .i64 r.n,u]
def Yi:List ZJ->List Value->List Value
 |[],_=>[]
 |_::_,[]=>[]
 |r::rs,u::us=>LX r u++Yi rs us
theorem OU:∀(rs:List ZJ) (us:List Value) (r:ZJ) (u:Value),us.length=rs.length->Yi (rs++[r]) (us++[u])=Yi rs us++LX r u
 |[],[],r,u,_=>by simp[Yi]
 |r0::rs,u0::us,r,u,h=>by show LX r0 u0++Yi (rs++[r]) (us++[u])=LX r0 u0++Yi rs us++LX r u;rw[OU rs us r u (by simpa using h),aba]
def YW(tr tc lo:Nat)(W:World)(v:Value)(rs:List ZJ):Prop:=
 ∃us:List Value,us.length=rs.length/\W.ownsRow lo tr 4 v rs.length (Yi rs us)/\∀(j:Nat) (u:Value) (r:ZJ),us[j]? =some u->rs[j]? =some r->W.ownsRow lo tc 4 u r.conds.length (Wm r.conds)
theorem YW.nil(A tc lo:Nat)(W:World):YW A tc lo W (.slice none 0 0) []:=⟨[],rfl,akg _ _ _ _,λj u r h=>by simp at h⟩
theorem YW.slice{tc lo:Nat} {v:Value}{rs:List ZJ}(h:YW tr tc lo W v rs):∃a c,v=.slice a rs.length c:=by
 obtain⟨us,_,C,_⟩:=h;rcases C.2 with⟨h,A⟩|⟨g,c,_,h,_⟩;·exact⟨none,0,by rw[h,A]⟩
 ·exact⟨_,_,h⟩
theorem YW.imp{tc lo:Nat} {v:Value}{rs:List ZJ}(h:YW tr tc lo W v rs)(hi:∀e v n xs,W.ownsRow lo e 4 v n xs->W'.ownsRow lo e 4 v n xs):YW tr tc lo W' v rs:=by
 obtain⟨us,A,D,C⟩:=h;exact⟨us,A,hi _ _ _ _ D,λj u r hu hr=>hi _ _ _ _ (C j u r hu hr)⟩
theorem zU {B e size n:Nat}{v:Value} (h:W.ownsRow B e size v n xs)(hb:Below W.heap.size W W'):W'.ownsRow B e size v n xs:=by
 refine⟨h.1,?_⟩;rcases h.2 with C|⟨g,cap,A,J,C,D,I⟩;·exact .inl C
 ·exact .inr ⟨g,cap,A,J,C,(hb.block g (aaa.1 D).1).trans D,I⟩
theorem YW.below{tc lo:Nat} {v:Value}{rs:List ZJ}(h:YW tr tc lo W v rs)(hb:Below W.heap.size W W'):YW tr tc lo W' v rs:=h.imp (λ_ _ _ _ h=>zU h hb)
abbrev iH:Nat:=91
abbrev TCd:Nat:=68
theorem Ys{P:Program}(w:World){o:Oper}{a:Act}{K:Act->World->Prop}{Q:Exit->Act->World->Prop}(s x:Operand)(t:TypeId)
 (ho:o.op=.call {callee:=.builtin .append,args:=#[s,x],argTypes:=#[t,t]})
 (base:Nat) (e:TypeId) (i:TypeInfo) (z:Value) (size bytes:Nat) (ht:P.underlying t=some (.slice e)) (hi:P.info? e=some i) (hz:i.zero=some z)
 (D:i.size=size) (U:i.bytes=bytes) (Y:z.cells.size=size) (T:0<size)
 (v:Value) (n:Nat) (xs:List Value) (hs:a.eval s=v) (J:w.ownsRow base e size v n xs)
 (ad:Addr) (m c:Nat) (news:List Value) (hx:a.eval x=.slice (some ad) m c) (hl:news.length=m*size) (C:∀j u,news[j]? =some u->w.cell? (ad.add j)=some u) (h1:∀u∈news,u.oneCell'=true)
 (Z:n+m<=maxLen) (A:(n+m)*bytes<=140737488355328) (I:base<=w.heap.size)
 (h:∀v' w',w'.ownsRow base e size v' (n+m) (xs++news)->w.grownBy w' v.ownBlock->K (a.put o.dst v') w'):Oper.wp P o a w K Q:=by
 obtain⟨v',w',hr,h2,h3,_,_⟩:=run_append_own (P:=P) w base t o.type e i z size bytes ht hi hz D U Y T v n xs J ad m c news hl C h1 Z A I;unfold Oper.wp execOp;simp only[ho,resolve,invoke,builtin,Sem.run_bind,Sem.run_pure,asa,List.map_toArray,aec,apb,hs,hx,hr];exact h v' w' h2 h3
theorem CU {B e size n g j:Nat}{v u:Value} (h:W.ownsRow B e size v n xs)(U:g<B):(W.setCell ⟨g,j,none⟩ u).ownsRow B e size v n xs:=by
 refine⟨h.1,?_⟩;rcases h.2 with D|⟨A,cap,C,J,D,T,I⟩;·exact .inl D
 ·exact .inr ⟨A,cap,C,J,D,(aef W ⟨g,j,none⟩ u A (show A≠g from jO)).trans T,I⟩
theorem G1 {B B' e e' n n':Nat}{v:Value}{xs':List Value} (h:W.ownsRow B e 4 v n xs)(h':W.ownsRow B' e' 4 v' n' xs')(Z:e≠e')(A:(W.alloc o).grownBy W' v'.ownBlock):W'.ownsRow B e 4 v n xs:=by
 have D:∀g,v'.ownBlock=some g->v.ownBlock≠some g:=λg A=>Aa h h' Z A
 have T:=h.alloc o;refine⟨T.1,?_⟩;rcases T.2 with I|⟨g,cap,C,J,I,U,Y⟩;·exact .inl I
 ·exact .inr ⟨g,cap,C,J,I,(A.block g (aaa.1 U).1 (λe=>D g e.symm (by rw[J];rfl))).trans U,Y⟩
theorem zT{R:Nat}{wr w7:World}{v uc:Value}{rs:List ZJ}{us:List Value} {K N:Int}{acc:List YK} (D:us.length=rs.length)(T:wr.ownsRow (R+1) iH 4 v rs.length (Yi rs us))(U:∀(j:Nat) (u:Value) (r:ZJ),us[j]? =some u->rs[j]? =some r->wr.ownsRow (R+1) TCd 4 u r.conds.length (Wm r.conds))
 (hu:wr.ownsRow (R+1) TCd 4 uc acc.length (Wm acc)) (J:(wr.alloc o).grownBy w7 v.ownBlock) (C:w7.ownsRow (R+1) iH 4 v' (rs.length+1) (Yi rs us++[.string s,.int .i64 K,.int .i64 N,uc])):YW iH TCd (R+1) (w7.setCell ⟨R,3,none⟩ v') v' (rs++[⟨s,K,N,acc⟩]):=by
 refine⟨us++[uc],by simp[D],?_,λj u r A hr=> ?_⟩;·rw[OU _ _ _ _ D,ay];exact CU C (amg _)
 ·refine CU ?_ (amg _);by_cases I:j<us.length;·rw[abb I] at A;rw[abb jO] at hr;exact G1 (U j u r A hr) T jD J
  ·rw[aae jO] at A;rw[aae jO] at hr
   have e:j=us.length:=by have:=(au.1 A).1;simp at this;omega
   subst e;rw[D] at hr;simp at A hr;subst A hr;exact G1 hu T jD J
end Go.Proofs.YtclgigmgbebhgaaGreatDoor.Z0
namespace Go.Proofs.YtclgigmgbebhgaaGreatDoor.Z0
open Tryz
open Go Go.Proofs Go.RowKit Go.Maps Go.WideMaps Go.ChangeMaps
theorem MX{W:World}{B e size n g j t:Nat}{v u:Value}{xs:List Value}{cs:Array Value}(h:W.ownsRow B e size v n xs)(Y:Z7 W g t cs)(D:e≠t):(W.setCell ⟨g,j,none⟩ u).ownsRow B e size v n xs:=by
 refine⟨h.1,?_⟩;rcases h.2 with I|⟨A,cap,C,U,I,J,T⟩;·exact .inl I
 ·refine .inr ⟨A,cap,C,U,I,(aef W ⟨g,j,none⟩ u A (show A≠g from λe2=> ?_)).trans J,T⟩;subst e2;have:=J.symm.trans Y;exact D (by injection this with Z;injection Z)
end Go.Proofs.YtclgigmgbebhgaaGreatDoor.Z0
namespace Go.Proofs.YtclgigmgbebhgaaGreatDoor.Z0
open Tryz
open Go Go.Proofs Go.RowKit
def iG(k n:Int)(x:Bool)(vr:Value):Value:=.agg #[.int .i64 k,.int .i64 n,.bool x,vr]
theorem NP{a W W':World}(h:Hid (Below a.heap.size a W))(hb:Below W.heap.size W W'):Hid (Below a.heap.size a W'):=h.trans (hb.mono h.size)
end Go.Proofs.YtclgigmgbebhgaaGreatDoor.Z0
