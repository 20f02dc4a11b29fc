/- TopAsks: part 36: CondNum CondIdx CondRead SysNamed MapB SysRanged LexP LexR PolP CondDig CondBackP PolTextP PolNm PolR PolRule PolParse PolAt. -/
import Derived.Shelf.Pu.Lower
import Derived.Shelf.Pu.ToErrorRange
import Derived.Shelf.Pu.ParseUintPublic10
import Derived.Lib.ConvBytes
import Derived.Lib.AtoiAllMem
import Derived.Lib.AtoiErrMem
import Derived.Lib.ParseIntBMem
import Derived.BigCall
import Derived.BigGuard
import Derived.WideKeyPair
import Derived.Lib.FieldsP
import Derived.Lib.IndexMore
import Derived.Lib.RuneCountTail
import Derived.Lib.OthersKept
import Derived.Sort.LoopGhostIn
import Derived.Sort.QuietIn
import Derived.RegionIn
import Derived.Maps.AppendAt
import Derived.Lib.ItoaNum
import Derived.Deep.RegionWith
import Derived.Test.YtclgigmgbebhgaaGreatDoorA35
set_option linter.unusedVariables false
set_option linter.unusedSimpArgs false
set_option maxRecDepth 100000
set_option maxHeartbeats 16000000
namespace Go.Proofs.YtclgigmgbebhgaaGreatDoor.Zj
open Tryz
open Go Go.Proofs Go.RowKit Go.Shelf Go.Lib
def ay1:List UInt8:=[48,49,50,51,52,53,54,55,56,57]
def pF(l:List UInt8):Nat×Nat:=
 if hasPrefix l [97]=false\/trimPrefix l [97]=[]\/¬(∀b∈trimPrefix l [97],ay1.contains b=true) then(0,13)
 else if 1<(trimPrefix l [97]).length\/53<((trimPrefix l [97]).getD 0 0).toNat then(0,16) else(((trimPrefix l [97]).getD 0 0).toNat-48,0)
end Go.Proofs.YtclgigmgbebhgaaGreatDoor.Zj
namespace Go.Proofs.YtclgigmgbebhgaaGreatDoor.Zj
open Tryz
open Go Go.Proofs Go.RowKit
def ay2(k:Int):Nat:=if k=1 then 68 else if k=2 then 69 else if k=3 then 70 else if k=4 then 71 else if k=5 then 72 else if k=6 then 73 else 74
theorem ab3{W:World}{g:Nat}(h:Z8 W g 104 GN)(j:Nat)(A:j<7):
 W.cell? ⟨g,j*2,none⟩=some (.string (X8 (j+1)))/\W.cell? ⟨g,j*2+1,none⟩=some (.func (.func (ay2 (j+1))) #[] #[]):=by
 match j,A with
 |0,_=>exact⟨(h.cell 0).trans rfl,(h.cell 1).trans rfl⟩
 |1,_=>exact⟨(h.cell 2).trans rfl,(h.cell 3).trans rfl⟩
 |2,_=>exact⟨(h.cell 4).trans rfl,(h.cell 5).trans rfl⟩
 |3,_=>exact⟨(h.cell 6).trans rfl,(h.cell 7).trans rfl⟩
 |4,_=>exact⟨(h.cell 8).trans rfl,(h.cell 9).trans rfl⟩
 |5,_=>exact⟨(h.cell 10).trans rfl,(h.cell 11).trans rfl⟩
 |6,_=>exact⟨(h.cell 12).trans rfl,(h.cell 13).trans rfl⟩
def ZC(p:Nat->Bool):Int:=if p 0=true then 0 else if p 1=true then 1 else if p 2=true then 2 else if p 3=true then 3 else if p 4=true then 4 else if p 5=true then 5 else if p 6=true then 6 else -1
theorem pH{W W':World}{B:Nat}{t:TypeId}{cs:Array Value}(h:Hid (Z8 W B t cs))(hb:Below W.heap.size W W'):Hid (Z8 W' B t cs):=h.below hb h.lt
theorem al8{a W W':World}(h:Hid (Below a.heap.size a W))(hb:Below W.heap.size W W'):Hid (Below a.heap.size a W'):=h.trans (hb.mono h.size)
def opB(s:ByteArray)(j:Nat):Bool:=(X8 (j+1)).toList == s.toList
structure ab4 where
 (a o m v n e:Int)
def pE(a m:Nat):List ByteArray->ab4
 |s3::s4::_=>if (s3.toList == [61,61])=true then(match numOf s4.data.toList with|some v=>⟨a,7,m,v,5,0⟩|none=>⟨0,0,0,0,0,13⟩) else⟨0,0,0,0,0,13⟩
 |_=>⟨0,0,0,0,0,13⟩
def J9(a:Nat):List ByteArray->ab4
 |s1::s2::r=>
  if ZC (opB s1)= -1 then⟨0,0,0,0,0,13⟩
  else match numOf s2.data.toList with
   |none=>⟨0,0,0,0,0,13⟩
   |some u=>if ZC (opB s1)=6 then pE a u r else⟨a,ZC (opB s1)+1,0,u,3,0⟩
 |_=>⟨0,0,0,0,0,13⟩
def UG:List ByteArray->ab4
 |[]=>⟨0,0,0,0,0,4⟩
 |s::r=>if (pF s.data.toList).2=0 then J9 (pF s.data.toList).1 r else⟨0,0,0,0,0,(pF s.data.toList).2⟩
theorem pD(w:World):Calls prog 33 #[] w λe w'=>∃g,e=.returned (.slice (some ⟨g,0,none⟩) 7 7)/\Z8 w' g 104 GN/\Below w.heap.size w w':=
 (lL w).mono (by rintro e w' ⟨rfl,rfl⟩;exact⟨_,rfl,Z8.new w _ _,(aG w.heap.size w).alloc (aP _) _⟩)
end Go.Proofs.YtclgigmgbebhgaaGreatDoor.Zj
namespace Go.Proofs.YtclgigmgbebhgaaGreatDoor.Z4
open Tryz
open Go Go.Proofs Go.RowKit Go.Shelf Go.Lib
theorem dropWhile_nil{p:UInt8->Bool}:∀l:List UInt8,l.dropWhile p=[]↔∀b∈l,p b=true
 |[]=>jS
 |x::r=>by
  have A:=dropWhile_nil (p:=p) r;by_cases h:p x=true;·simp[h,A]
  ·simp[h]
theorem Ym{p:UInt8->Bool}:∀l:List UInt8,(∀b∈l.dropWhile p,p b=true)->∀b∈l,p b=true
 |[],_=>jS
 |x::r,h=>by
  by_cases hx:p x=true
  ·have A:=Ym (p:=p) r (by simpa [aqa,hx] using h);intro b hb;rcases abf.1 hb with rfl|hb;·exact hx
   ·exact A b hb
  ·exact absurd (h x (by simp[hx])) hx
theorem QW(l cs:List UInt8):trimS l cs=[]↔∀b∈l,cs.contains b=true:=by
 unfold trimS trimLeftS;rw[dropWhile_nil];constructor
 ·intro h;have A:∀b∈l.reverse.dropWhile (cs.contains ·),cs.contains b=true:=λb hb=>h b (by unfold trimRightS;simpa using hb)
  have:=Ym l.reverse A;intro b hb;exact this b (by simpa using hb)
 ·intro h b hb;unfold trimRightS at hb;have:=(awa (l:=l.reverse) (cs.contains ·)).subset (by simpa using hb:b∈_);exact h b (by simpa using this)
def Jt:List UInt8:=[97,98,99,100,101,102,103,104,105,106,107,108,109,110,111,112,113,114,115,116,117,118,119,120,121,122,48,49,50,51,52,53,54,55,56,57,95]
def Rk:List UInt8:=[97,98,99,100,101,102,103,104,105,106,107,108,109,110,111,112,113,114,115,116,117,118,119,120,121,122]
theorem jl:∀n,n<256->Jt.contains (UInt8.ofNat n)=decide ((97<=n/\n<=122)\/(48<=n/\n<=57)\/n=95):=by decide+kernel
theorem pC(b:UInt8):Jt.contains b=true↔cU b.toNat:=by
 have h:=jl b.toNat b.toNat_lt;rw[UInt8.ofNat_toNat] at h;rw[h];simp[cU]
theorem jk:∀n,n<256->decide (0<=indexByte Rk (UInt8.ofNat n))=decide (97<=n/\n<=122):=by decide+kernel
def Ih(s:ByteArray)(w:World)(e:Ending)(w':World):Prop:=∃v:Bool,e=.returned (.bool v)/\(v=true↔YF s)/\Below w.heap.size w w'
theorem TP{s:ByteArray}{w w':World}(h:¬YF s)(hb:Below w.heap.size w w'):Ih s w (.returned (.bool false)) w':=⟨false,rfl,⟨λe=>by simp at e,λe=>absurd e h⟩,hb⟩
theorem yu(s:ByteArray):(∀b∈s.data.toList,Jt.contains b=true)↔∀j (h:j<s.size),cU (s[j]'h).toNat:=by
 constructor;·intro h j A;rw[<-pC];exact h _ (by simp[Array.mem_toList_iff];exact Array.getElem_mem (xs:=s.data) A)
 ·intro h b hb;obtain⟨j,A,rfl⟩:=ahd.1 hb;rw[pC];exact h j (by simpa using A)
theorem Ig(s:ByteArray)(w:World)(hs:s.size<=9223372036854775807):Calls prog 127 #[.string s] w (Ih s w):=by
 by_cases h0:s.size=0
 ·have e0:s.toList=[]:=by rw[aha];exact aof (by simpa using h0)
  have e1:s.toList.isEmpty=true:=by rw[e0];rfl
  go_enter func127,ntmps127;go_wp2;go_ret;exact TP (λh=>by obtain⟨h,_⟩:=h.2.1;omega) (aG _ _)
 have h00:0<s.size:=jO;have e0:¬s.toList=[]:=by rw[aha];intro h;have:=ax List.length h;simp at this;exact h0 (by rw[this];rfl)
 have e1:s.toList.isEmpty=false:=by simpa using e0
 by_cases a3:s.toList=[100,101,102,97,117,108,116]
 ·have b3:(s.toList == [100,101,102,97,117,108,116])=true:=by simpa using a3
  go_enter func127,ntmps127;go_wp2;go_ret;exact TP (λh=>h.2.2.1 a3) (aG _ _)
 have b3:(s.toList == [100,101,102,97,117,108,116])=false:=by simpa using a3
 by_cases a4:s.toList=[120,51,50]
 ·have b4:(s.toList == [120,51,50])=true:=by simpa using a4
  go_enter func127,ntmps127;go_wp2;go_ret;exact TP (λh=>h.2.2.2.1 a4) (aG _ _)
 have b4:(s.toList == [120,51,50])=false:=by simpa using a4
 by_cases Z:s.size<=30
 case neg=>
  have b5:decide ((s.size:Int)<=30)=false:=aee jO;go_enter func127,ntmps127;go_wp2;go_ret;exact TP (λh=>Z h.1) (aG _ _)
 have b5:decide ((s.size:Int)<=30)=true:=ace jO;have C:=λW=>Any.strings_Trim_laid Tryz.jr jK s ⟨Jt.toArray⟩ W hs jD (ascii_of_all jD)
 have HQ:Hid (s.size<=30/\¬s.toList=[100,101,102,97,117,108,116]/\¬s.toList=[120,51,50]):=⟨Z,a3,a4⟩;clear a3 a4 Z;by_cases A:∀b∈s.data.toList,Jt.contains b=true
 case neg=>
  have T:¬trimS s.data.toList Jt=[]:=λh=>A ((QW _ _).1 h)
  have I:∀W,∃r:ByteArray,r.toList.isEmpty=false/\Calls prog 206 #[.string s,.string ⟨Jt.toArray⟩] W λe w'=>e=.returned (.string r)/\Below W.heap.size W w':=λW=>⟨_,by rw[aha];simpa using T,C W⟩
  obtain⟨r,hr,hc⟩:=I w;have hr2:¬r.toList=[]:=by simpa using hr
  have Y:=aT hc;have HN:Hid (¬YF s):=λh=>A ((yu s).2 h.2.2.2.2)
  clear C I hc T A;go_enter func127,ntmps127
  go_wp2_with (go_at_call 206;refine Y.mono ?_;rintro e w1 ⟨rfl,D⟩)
  go_ret;exact TP HN D
 have hc:Calls prog 206 #[.string s,.string ⟨Jt.toArray⟩] w λe w'=>e=.returned (.string ⟨#[]⟩)/\Below w.heap.size w w':=by have:=C w;rw[show(⟨Jt.toArray⟩:ByteArray).data.toList=Jt from rfl,(QW _ _).2 A] at this;exact this
 have Y:=aT hc;have HA:=aT ((yu s).1 A);clear C hc A;have hi:=jk (s[0]'h00).toNat (s[0]'h00).toNat_lt;rw[UInt8.ofNat_toNat] at hi;have J:∀W,Calls prog 207 #[.string ⟨Rk.toArray⟩,.int .u8 ((s[0]'h00).toNat:Int)] W λe w'=>e=.returned (.int .i64 (indexByte Rk (s[0]'h00)))/\w'=W:=λW=>by have:=Any.strings_IndexByte Tryz.js ⟨Rk.toArray⟩ ((s[0]'h00).toNat:Int) W;rw[atg,show(s[0]'h00).toNat.toUInt8=s[0]'h00 from UInt8.ofNat_toNat] at this;exact this
 generalize indexByte Rk (s[0]'h00)=ix at hi J;have U:=aT J;clear J;have h01:(0:Int)<(s.size:Int):=jO;by_cases a1:97<=(s[0]'h00).toNat/\(s[0]'h00).toNat<=122
 ·rw[ace a1] at hi;have HV:Hid (YF s):=⟨HQ.1,⟨h00,a1⟩,HQ.2.1,HQ.2.2,HA⟩;clear a1;go_enter func127,ntmps127
  go_wp2_with (first|(go_at_call 206;refine Y.mono ?_;rintro e w1 ⟨rfl,D⟩)|(go_at_call 207;refine(U _).mono ?_;rintro e w2 ⟨rfl,rfl⟩))
  go_ret;exact⟨true,rfl,⟨λ_=>HV,λ_=>rfl⟩,D⟩
 ·rw[aee a1] at hi;have HV:Hid (¬YF s):=λh=>a1 (by obtain⟨h',h1,h2⟩:=h.2.1;exact⟨h1,h2⟩)
  clear a1;go_enter func127,ntmps127
  go_wp2_with (first|(go_at_call 206;refine Y.mono ?_;rintro e w1 ⟨rfl,D⟩)|(go_at_call 207;refine(U _).mono ?_;rintro e w2 ⟨rfl,rfl⟩))
  go_ret;exact TP HV D
end Go.Proofs.YtclgigmgbebhgaaGreatDoor.Z4
namespace Go.Proofs.YtclgigmgbebhgaaGreatDoor.Z4
open Tryz
open Go Go.Proofs Go.RowKit Go.Maps Go.WideMaps Go.ChangeMaps
variable {p:Int×Int} {W W':World}
theorem al9:ArrKey prog 312 3 2:=⟨underlying312,jK,jK,jK⟩
theorem szK:∃m,prog.types.size=m+1:=⟨prog.types.size-1,by
 have:0<prog.types.size:=by decide+kernel
 omega⟩
theorem O1:Keyed prog 312:=Keyed.of_law al9.law
def PW(p:Int×Int):Value:=.agg #[.int .i64 p.1,.int .i64 p.2]
def In64(p:Int×Int):Prop:=(Lit.int .i64 p.1).wf=true/\(Lit.int .i64 p.2).wf=true
theorem LA (h:In64 p):∃l,keyOf prog 312 (PW p)=some l:=⟨_,keyOf_pair al9 underlying3 szK h.1 h.2⟩
theorem Dp{q:Int×Int}(h:PW p=PW q):p=q:=by
 obtain⟨a,b⟩:=p;obtain⟨c,d⟩:=q;simp[PW] at h;simp[h.1,h.2]
def XS(W:World)(B:Nat)(S:List (Int×Int)):Prop:=
 ∃es clock,W.heap[B]? =some (.map es clock)/\es.toList.map (λe=>(e.key,e.val))=S.map (λp=>(PW p,Value.bool true))/\∀p∈S,In64 p
theorem XS.lt {B:Nat}{S:List (Int×Int)}(h:XS W B S):B<W.heap.size:=by
 obtain⟨es,c,h,_⟩:=h;exact(aab.1 h).1
theorem XS.kept {row:Option Nat}{B:Nat}{S:List (Int×Int)}(h:XS W B S)(C:W.grownBy W' row)(A:some B≠row):XS W' B S:=by
 have hl:=h.lt;obtain⟨es,c,h,D,I⟩:=h;exact⟨es,c,(C.block B hl A).trans h,D,I⟩
theorem XS.below{n:Nat} {B:Nat}{S:List (Int×Int)}(h:XS W B S)(hb:Below n W W')(D:B<n):XS W' B S:=by
 obtain⟨es,c,h,C,A⟩:=h;exact⟨es,c,(hb.block B D).trans h,C,A⟩
theorem XS.alloc {B:Nat}{S:List (Int×Int)}(h:XS W B S)(o:Obj):XS (W.alloc o) B S:=h.kept (aeb W o none) jS
theorem XS.made(W:World):XS (W.alloc (.map #[] 0)) W.heap.size []:=⟨#[],0,arc W _,rfl,jS⟩
theorem N1{es:Array MapEntry}{S:List (Int×Int)}(C:es.toList.map (λe=>(e.key,e.val))=S.map (λp=>(PW p,Value.bool true))):(∀e∈es.toList,∃p∈S,e.key=PW p/\e.val=.bool true)/\∀p∈S,∃e∈es.toList,e.key=PW p:=by
 constructor;·intro e A;have:(e.key,e.val)∈es.toList.map (λe=>(e.key,e.val)):=ah.2 ⟨e,A,rfl⟩;rw[C] at this;obtain⟨p,hp,e1⟩:=ah.1 this;simp only[asa] at e1;exact⟨p,hp,e1.1.symm,e1.2.symm⟩
 ·intro p hp;have:(PW p,Value.bool true)∈S.map (λp=>(PW p,Value.bool true)):=ah.2 ⟨p,hp,rfl⟩;rw[<-C] at this;obtain⟨e,A,e1⟩:=ah.1 this;simp only[asa] at e1;exact⟨e,A,e1.1⟩
theorem uW {B:Nat}{S:List (Int×Int)}(h:XS W B S)(p:Int×Int)(hp:In64 p):
 (Instr.lookup 251 (.map (some B)) (PW p) false).run prog W=.ok (.bool (decide (p∈S))) W:=by
 obtain⟨es,clock,hb,Y,h3⟩:=h;obtain⟨U,Z⟩:=N1 Y;obtain⟨kl,A⟩:=LA hp;have hz:∀W,(zeroValue 4).run prog W=.ok (.bool false) W:=λ_=>jK
 rcases O1.find W A es.toList (λe J=>by obtain⟨q,D,e1,_⟩:=U e J;rw[e1];exact LA (h3 q D)) with⟨T,C⟩|⟨j,e0,T,C,h6⟩
 ·have hn:¬p∈S:=λhm=>by
   obtain⟨e,J,e1⟩:=Z p hm;exact C e J e1
  simp[Instr.lookup,akd underlying251,aid hb,O1.check W _ A,T,hz,Result.andThen,hn]
 ·have I:e0∈es.toList:=ag C;obtain⟨q,D,e1,e2⟩:=U e0 I;have hy:p∈S:=by rw[Dp (h6.symm.trans e1)];exact D
  simp[Instr.lookup,akd underlying251,aid hb,O1.check W _ A,T,Result.andThen,hy,e2]
def J8(S:List (Int×Int))(p:Int×Int):List (Int×Int):=if p∈S then S else S++[p]
theorem pA {B:Nat}{S:List (Int×Int)}(h:XS W B S)(p:Int×Int)(hp:In64 p):
 ∃W',(Instr.mapUpdate 251 (.map (some B)) (PW p) (.bool true)).run prog W=.ok () W'/\XS W' B (J8 S p)/\W.grownBy W' (some B):=by
 obtain⟨es,clock,hb,Y,U⟩:=h;obtain⟨k1,k2⟩:=N1 Y;obtain⟨kl,A⟩:=LA hp;rcases O1.find W A es.toList (λe he=>by obtain⟨q,D,e1,_⟩:=k1 e he;rw[e1];exact LA (U q D)) with⟨h4,J⟩|⟨j,e0,h4,J,h6⟩
 ·have hn:¬p∈S:=λhm=>by
   obtain⟨e,he,e1⟩:=k2 p hm;exact J e he e1
  refine⟨setBlock W B (.map (es.push ⟨PW p,.bool true,clock⟩) (clock+1)),?_,⟨_,_,heap_setBlock_same hb _,?_,?_⟩,⟨rfl,rfl,rfl,by simp[setBlock],λi _ hi=>heap_setBlock_other hb _ (λe=>hi (by rw[e]))⟩⟩;·simp[Instr.mapUpdate,akd underlying251,aid hb,O1.check W false A,h4,avg _ hb,Result.andThen,setBlock]
  ·rw[J8,aN hn];simp[Y]
  ·rw[J8,aN hn];intro q D;rcases abe.1 D with h|h;·exact U q h
   ·rw[aaa.1 h];exact hp
 ·have Z:e0∈es.toList:=ag J;obtain⟨q,D,e1,e2⟩:=k1 e0 Z;have hy:p∈S:=by rw[Dp (h6.symm.trans e1)];exact D
  have I:es[j]? =some e0:=by simpa using J
  have T:=O1.stays W A;refine⟨setBlock W B (.map (es.modify j λe=>{e with key:=PW p,val:=.bool true}) clock),?_,⟨_,_,heap_setBlock_same hb _,?_,?_⟩,⟨rfl,rfl,rfl,by simp[setBlock],λi _ hi=>heap_setBlock_other hb _ (λe=>hi (by rw[e]))⟩⟩;·simp[Instr.mapUpdate,akd underlying251,aid hb,O1.check W false A,h4,avg _ hb,Result.andThen,setBlock,I,h6,T]
  ·rw[J8,aH hy,<-Y]
   have C:(es.modify j λe=>{e with key:=PW p,val:=.bool true})=es:=by
    apply Array.ext_getElem?;intro i;rw[ala];by_cases hi:j=i;·subst hi;rw[aH rfl,I];simp only[avc,aka];rw[<-h6,<-e2]
    ·rw[aN hi]
   rw[C]
  ·rw[J8,aH hy];exact U
end Go.Proofs.YtclgigmgbebhgaaGreatDoor.Z4
namespace Go.Proofs.YtclgigmgbebhgaaGreatDoor.Z4
open Tryz
open Go Go.Proofs Go.RowKit
def Nc(x:Int):Bool:=decide (x < -1) || decide (1073741823<x)
theorem AL(x:Int):Nc x=true↔¬NU x:=by
 unfold Nc NU;simp;omega
theorem pz(x:Int)(w:World):Calls prog 209 #[.int .i64 x] w λe w'=>e=.returned (.bool (Nc x))/\w=w':=by
 by_cases C:x < -1;·have A:decide (x < -1)=true:=ace C;go_enter func209,ntmps209;go_wp2;go_ret;exact⟨G8 (by unfold Nc;rw[A];rfl),rfl⟩
 ·have A:decide (x < -1)=false:=aee C;go_enter func209,ntmps209;go_wp2;go_ret;exact⟨G8 (by unfold Nc;rw[A];rfl),rfl⟩
def py(y:Z0)(w:World)(e:Ending)(w':World):Prop:=∃i:Int,e=.returned (.int .i64 i)/\(0<=i↔∃a,a<5/\¬NU (y.num a))/\w=w'
theorem px(b:Nat)(y:Z0)(w:World)(hc:∀a,a<5->w.cell? ⟨b,1+a,none⟩=some (.int .i64 (y.num a))):
 Calls prog 270 #[.slice (some ⟨b,1,none⟩) 5 5,.func (.func 209) #[] #[]] w (py y w):=by
 have Hc:=aT hc;clear hc;go_enter func270,ntmps270;go_wp2;go_loopg [5,8] 5 (λgg _ s8 wr=>w=wr/\∃I:Nat,I<=5/\5-I<=gg/\s8=.int .i64 I/\Hid (∀a,a<I->NU (y.num a)));case atStart=>exact⟨rfl,0,jO,jO,rfl,λa ha=>absurd ha (ake _)⟩
 case round=>
  obtain⟨rfl,I,hkk,hg,rfl,A⟩:=hrel;by_cases U:I<5
  ·have T:(I:Int)<(5:Int):=by omega
   have c:=Hc I U;have C:=pz (y.num I);have D:=AL (y.num I);generalize hx:y.num I=x at c C D;have Z:=aT hx;clear hx;cases hb:Nc x with
   |true=>
    rw[hb] at C D;have J:=aT C;have Y:Hid (¬NU x):=D.1 rfl;clear C D hb;go_wp2_with fail;refine(J _).mono ?_;rintro e w' ⟨rfl,rfl⟩;go_wp2;go_ret;exact⟨(I:Int),rfl,⟨λ_=>⟨I,U,by rw[Z.out];exact Y⟩,λ_=>jO⟩,rfl⟩
   |false=>
    have Y:Hid (NU x):=by
     by_cases h:NU x;·exact h
     ·rw[D.2 h] at hb;cases hb
    rw[hb] at C;have J:=aT C;clear C D hb;go_wp2_with fail;refine(J _).mono ?_;rintro e w' ⟨rfl,rfl⟩;go_wp2;go_roundg (5-(I+1));case measure=>omega
    case rel=>
     refine⟨rfl,I+1,jO,jO,by go_num,(show Hid _ from λa ha=> ?_)⟩;by_cases e:a=I;·subst e;rw[Z.out];exact Y
     ·exact A a jO
  ·have T:¬(I:Int)<(5:Int):=by omega
   obtain rfl:I=5:=jO;go_wp2;go_ret;exact⟨-1,rfl,⟨λh=>jO,λ⟨a,ha,hn⟩=>absurd (A a ha) hn⟩,rfl⟩
def uV(y:Z0)(w:World)(e:Ending)(w':World):Prop:=∃v:Bool,e=.returned (.bool v)/\(v=true↔∃a,a<5/\¬NU (y.num a))/\w=w'
theorem uU(b:Nat)(y:Z0)(w:World)(hc:∀a,a<5->w.cell? ⟨b,1+a,none⟩=some (.int .i64 (y.num a))):
 Calls prog 208 #[.slice (some ⟨b,1,none⟩) 5 5,.func (.func 209) #[] #[]] w (uV y w):=by
 have A:=aT (px b y w hc);clear hc;go_enter func208,ntmps208;go_wp2_with fail;refine A.mono ?_;rintro e w' ⟨i,rfl,hi,rfl⟩;have C:=aT hi;clear hi A;go_wp2;go_ret;exact⟨_,rfl,⟨λh=>C.1 (by simpa using h),λh=>by simpa using C.out.2 h⟩,rfl⟩
def J7(y:Z0)(w:World)(e:Ending)(w':World):Prop:=∃v:Bool,e=.returned (.bool v)/\(v=true↔PD y)/\Below w.heap.size w w'
theorem SJ(y:Z0)(w:World):
 Calls prog 128 #[.agg #[.string y.name,.int .i64 y.n0,.int .i64 y.n1,.int .i64 y.n2,.int .i64 y.n3,.int .i64 y.n4,.int .i64 y.Ys,.int .i64 y.sub]] w (J7 y w):=by
 have bY:=Z8.new w 40 #[.string y.name,.int .i64 y.n0,.int .i64 y.n1,.int .i64 y.n2,.int .i64 y.n3,.int .i64 y.n4,.int .i64 y.Ys,.int .i64 y.sub];have C:=uU w.heap.size y _ (λa ha=>by
  have:=bY.cell (1+a);rw[this]
  match a,ha with
  |0,_=>rfl
  |1,_=>rfl
  |2,_=>rfl
  |3,_=>rfl
  |4,_=>rfl)
 have Hc:=aT C;clear C bY;go_enter func128,ntmps128;go_wp2_with fail;refine Hc.mono ?_;rintro e w' ⟨v,rfl,hv,rfl⟩;have Y:=aT hv;have Z:=aT ((aG _ w).alloc (aP _) (.cells #[.string y.name,.int .i64 y.n0,.int .i64 y.n1,.int .i64 y.n2,.int .i64 y.n3,.int .i64 y.n4,.int .i64 y.Ys,.int .i64 y.sub] 40));clear hv Hc;cases v with
 |true=>
  go_wp2;go_ret;exact⟨false,rfl,⟨λh=>(by cases h),λh=>by obtain⟨a,ha,hn⟩:=Y.1 jS;exact absurd (h.1 a ha) hn⟩,Z⟩
 |false=>
  have HA:Hid (∀a,a<5->NU (y.num a)):=by
   intro a ha;by_cases h:NU (y.num a);·exact h
   ·exact absurd (Y.2 ⟨a,ha,h⟩) jS
  clear Y
  have J:∀v:Bool,(v=true↔PE y)->J7 y w (.returned (.bool v)) (w.alloc (.cells #[.string y.name,.int .i64 y.n0,.int .i64 y.n1,.int .i64 y.n2,.int .i64 y.n3,.int .i64 y.n4,.int .i64 y.Ys,.int .i64 y.sub] 40)):=
   λv h=>⟨v,rfl,⟨λT=>⟨HA,h.1 T⟩,λT=>h.2 T.2⟩,Z⟩
  have A:=aT J;clear J HA Z;by_cases m0:y.Ys=0
  ·have e0:(y.Ys == 0)=true:=by simpa using m0
   have D:=aT m0;clear m0;go_wp2;go_ret;exact A _ (by have:=D.out;unfold PE;simp;omega)
  ·have e0:(y.Ys == 0)=false:=by simpa using m0
   by_cases m1:y.Ys=1
   ·have e1:(y.Ys == 1)=true:=by simpa using m1
    have D:=aT m1;clear m1;by_cases s1:1<=y.sub;·have U:decide (1<=y.sub)=true:=ace s1;go_wp2;go_ret;exact A _ (by have:=D.out;unfold PE;simp;omega)
    ·have U:decide (1<=y.sub)=false:=aee s1;go_wp2;go_ret;exact A _ (by have:=D.out;unfold PE;simp;omega)
   ·have e1:(y.Ys == 1)=false:=by simpa using m1
    by_cases I:y.Ys=2
    ·have e2:(y.Ys == 2)=true:=by simpa using I
     have D:=aT I;clear I m1;by_cases s1:1<=y.sub;·have U:decide (1<=y.sub)=true:=ace s1;go_wp2;go_ret;exact A _ (by have:=D.out;unfold PE;simp;omega)
     ·have U:decide (1<=y.sub)=false:=aee s1;go_wp2;go_ret;exact A _ (by have:=D.out;unfold PE;simp;omega)
    ·have e2:(y.Ys == 2)=false:=by simpa using I
     have D:Hid (¬y.Ys=0/\¬y.Ys=1/\¬y.Ys=2):=⟨m0,m1,I⟩;clear m0 m1 I;go_wp2;go_ret;exact A _ (by have:=D.out;unfold PE;simp;omega)
def Ge(B:Nat)(S:List (Int×Int))(p:Int×Int)(w:World)(e:Ending)(w':World):Prop:=
 e=.returned (.bool (decide (p∈S)))/\XS w' B (J8 S p)/\w.heap.size<=w'.heap.size/\w.os=w'.os/\w.tape=w'.tape/\w.output=w'.output/\∀b,b<w.heap.size->b≠B->w'.heap[b]? =w.heap[b]?
theorem QV(B:Nat)(S:List (Int×Int))(p:Int×Int)(w:World)(h:XS w B S)(hp:In64 p):
 Calls prog 129 #[.map (some B),.int .i64 p.1,.int .i64 p.2] w (Ge B S p w):=by
 have C:=h.alloc (.cells #[.int .i64 p.1,.int .i64 p.2] 312);have hl:=uW C p hp;obtain⟨W',hu,J,I⟩:=pA C p hp;unfold PW at hl hu;have T:=aT J;have A:=aT I;clear h C J I;go_enter func129,ntmps129;go_wp2;go_ret;refine⟨rfl,T,?_,?_,?_,?_,?_⟩;·have:=A.size;simp at this;omega
 ·exact A.os.symm
 ·exact A.tape.symm
 ·exact A.output.symm
 ·intro b hb D;exact(A.block b (by simp;omega) (by simpa using D)).trans ((aeb w _ none).block b hb jS)
end Go.Proofs.YtclgigmgbebhgaaGreatDoor.Z4
namespace Go.Proofs.YtclgigmgbebhgaaGreatDoor
open Tryz
open Go Go.Proofs
def pH(c:UInt8):Bool:=c == 32 || c == 9 || c == 13
def okB(c:UInt8):Bool:=pH c || (32<=c&&c<=126)
end Go.Proofs.YtclgigmgbebhgaaGreatDoor
namespace Go.Proofs.YtclgigmgbebhgaaGreatDoor
open Tryz
open Go Go.Proofs Go.RowKit Go.Shelf
theorem AK{W:World}{B B' e e' s s' n n' g:Nat}{v v':Value}{xs xs':List Value}(h:W.ownsRow B e s v n xs)(J:W.ownsRow B' e' s' v' n' xs')(U:e≠e')(A:v'.ownBlock=some g):v.ownBlock≠some g:=by
 intro hv;rcases h.2 with⟨rfl,_⟩|⟨Z,cap,Y,rfl,_,T,_⟩;·simp[Value.ownBlock] at hv
 ·rcases J.2 with⟨rfl,_⟩|⟨g2,D,I,rfl,_,C,_⟩;·simp[Value.ownBlock] at A
  ·simp only[Value.ownBlock,aka] at hv A;subst hv;subst A;rw[T] at C;simp only[aka,aye] at C;exact U C.2.1
end Go.Proofs.YtclgigmgbebhgaaGreatDoor
namespace Go.Proofs.YtclgigmgbebhgaaGreatDoor.ZJ
open Tryz
open Go Go.Proofs Go.RowKit
structure Y4 where
 (a o m v:Int)
structure YR where
 name:ByteArray
 (k n:Int)
 conds:List Y4
structure PSt where
 (k n:Int)
 x:Bool
 rules:List YR
def ji(c:UInt8):Bool:=(decide (97<=c.toNat)&&decide (c.toNat<=122)) || (decide (48<=c.toNat)&&decide (c.toNat<=57)) || c.toNat == 95
def Sq(s:ByteArray):Bool:=
 decide (s.size<=30)&&(match s.data.toList with|[]=>false|c::_=>decide (97<=c.toNat)&&decide (c.toNat<=122)) && !(s.toList == [100,101,102,97,117,108,116]) && !(s.toList == [120,51,50])&&s.data.toList.all ji
theorem Dn(c:UInt8):ji c=true↔Z4.cU c.toNat:=by
 unfold ji Z4.cU;simp only[asg,aeg,adg,ahc];constructor
 ·rintro((h|h)|h);·exact .inl h
  ·exact .inr (.inl h)
  ·exact .inr (.inr h)
 ·rintro(h|h|h);·exact .inl (.inl h)
  ·exact .inl (.inr h)
  ·exact .inr h
theorem uT(s:ByteArray):Sq s=true↔Z4.YF s:=by
 have hl:s.data.toList.length=s.size:=ang;have A:(s.data.toList.all ji=true)↔∀j (h:j<s.size),Z4.cU (s[j]'h).toNat:=by
  rw[aje];constructor;·intro h j T;exact(Dn _).1 (h _ (List.getElem_mem (by rw[hl];exact T)))
  ·intro h c hc;obtain⟨j,T,rfl⟩:=ahd.1 hc;exact(Dn _).2 (h j (by rw[<-hl];exact T))
 have D:(match s.data.toList with|[]=>false|c::_=>decide (97<=c.toNat)&&decide (c.toNat<=122))=true↔∃h:0<s.size,97<=(s[0]'h).toNat/\(s[0]'h).toNat<=122:=by
  constructor
  ·intro h
   have h0:0<s.size:=by
    rw[<-hl];cases Z:s.data.toList with
    |nil=>rw[Z] at h;cases h
    |cons c r=>simp
   have e:s.data.toList=s[0]'h0::s.data.toList.drop 1:=by
    conv=>lhs;rw[<-aud (l:=s.data.toList)]
    rw[aua (by rw[hl];exact h0)];rfl
   rw[e] at h;refine⟨h0,?_⟩;simpa using h
  ·rintro⟨h0,h⟩
   have e:s.data.toList=s[0]'h0::s.data.toList.drop 1:=by
    conv=>lhs;rw[<-aud (l:=s.data.toList)]
    rw[aua (by rw[hl];exact h0)];rfl
   rw[e];simpa using h
 unfold Sq Z4.YF;simp only[aeg,adg,Bool.not_eq_true',af,ne_eq,A,D];constructor;·rintro⟨⟨⟨⟨I,C⟩,U⟩,Y⟩,J⟩;exact⟨I,C,U,Y,J⟩
 ·rintro⟨I,C,U,Y,J⟩;exact⟨⟨⟨⟨I,C⟩,U⟩,Y⟩,J⟩
def am0(e:Int):Int:=if e=4 then 13 else e
def ifB:List UInt8:=[105,102]
def ay3:List UInt8:=[97,110,100]
def am1(acc:List Y4):List UInt8:=if acc.length=0 then ifB else ay3
def uS(acc:List Y4)(w0:ByteArray)(r:List ByteArray):Int ⊕ (List Y4×List ByteArray):=
 if (w0.toList == am1 acc)=false then .inl 13
 else if 6<=acc.length then .inl 3
 else if (Zj.UG r).e≠0 then .inl (am0 (Zj.UG r).e)
 else .inr (acc++[⟨(Zj.UG r).a,(Zj.UG r).o,(Zj.UG r).m,(Zj.UG r).v⟩],r.drop (Zj.UG r).n.toNat)
end Go.Proofs.YtclgigmgbebhgaaGreatDoor.ZJ
namespace Go.Proofs.YtclgigmgbebhgaaGreatDoor.Zj
open Tryz
open Go Go.Proofs Go.RowKit
def YD(n:Nat):ByteArray:=⟨(Lib.decDigits n).toArray⟩
theorem Nd(n:Nat)(h:n<18446744073709551616):(YD n).size<=20:=by
 have A:=Lib.nDigits_le20 n h;rw[<-Lib.decDigits_length] at A;exact A
def WU(a:Nat)(o:Int)(m v:Nat):List ByteArray:=
 if o=7 then [⟨#[97]⟩++YD a,X8 7,YD m,⟨#[61,61]⟩,YD v] else [⟨#[97]⟩++YD a,X8 o,YD v]
def Xe(a:Nat)(o:Int)(m v:Nat):ByteArray:=⟨(Lib.join ((WU a o m v).map (·.data.toList)) [32]).toArray⟩
theorem yr(o:Int):(X8 o).size<=2:=by
 unfold X8
 repeat' split
 all_goals decide
theorem NZ(a:Nat)(h:a<=5):(YD a).size=1:=by
 have:a=0\/a=1\/a=2\/a=3\/a=4\/a=5:=jO;rcases this with rfl|rfl|rfl|rfl|rfl|rfl<;>decide+kernel
theorem jc(x y:List UInt8)(zs:List (List UInt8)):Lib.join (x::y::zs) [32]=x++32::Lib.join (y::zs) [32]:=by simp[Lib.join]
theorem j1(x:List UInt8):Lib.join [x] [32]=x:=by simp[Lib.join]
theorem Nb(a:Nat)(o:Int)(m v:Nat)(ha:a<=5)(hm:m<18446744073709551616)(hv:v<18446744073709551616):(Xe a o m v).size<=60:=by
 have J:=Nd m hm;have I:=Nd v hv;have D:=NZ a ha;have U:=yr o;have T:=yr 7;have e:∀x:ByteArray,x.data.toList.length=x.size:=λx=>ang
 have A:((⟨#[97]⟩:ByteArray)++YD a).size=2:=by rw[axa,D];rfl
 have C:(⟨#[61,61]⟩:ByteArray).size=2:=rfl;show(Lib.join ((WU a o m v).map (·.data.toList)) [32]).toArray.size<=60;rw[aic];unfold WU;split;·simp only[aed,ard,jc,j1,ay,e,A,C,aj,acg];omega
 ·simp only[aed,ard,jc,j1,ay,e,A,aj,acg];omega
end Go.Proofs.YtclgigmgbebhgaaGreatDoor.Zj
namespace Go.Proofs.YtclgigmgbebhgaaGreatDoor.ZJ
open Tryz
open Go Go.Proofs Go.RowKit
variable {s:ByteArray} {xs:List Value} {tr:Nat} {o:Obj} {v':Value} {W W':World}
def wB(c:UInt8):Bool:=okB c && !pH c&&c != 35
def XM(c:Y4):Bool:=Zj.X4 c.a c.o c.m
def Wp(r:YR):Bool:=Sq r.name&&(Yo.Zw r.k r.n&&(decide (r.conds.length<=6)&&r.conds.all XM))
def Dm(p:PSt):Bool:=Yo.Zw p.k p.n&&(decide (p.rules.length<=500)&&p.rules.all Wp)
def NY(c:Y4):Prop:=(0<=c.m/\c.m<18446744073709551616)/\(0<=c.v/\c.v<18446744073709551616)
theorem AJ(s:ByteArray):Z4.PD ⟨s,-1,-1,-1,-1,-1,0,0⟩:=by
 refine⟨λa ha=> ?_,?_⟩
 ·have:a=0\/a=1\/a=2\/a=3\/a=4:=by omega
  rcases this with rfl|rfl|rfl|rfl|rfl<;>exact(by decide:(-1:Int)<=-1/\(-1:Int)<=1073741823)
 ·unfold Z4.PE;simp
theorem uR {v:Bool}(h:v=true↔Z4.YF s):v=Sq s:=by
 rw[<-uT] at h;rw[ale];exact h
theorem AH(s:ByteArray)(w:World)(hs:s.size<=1000000):Calls prog 127 #[.string s] w λe w'=>e=.returned (.bool (Sq s))/\Below w.heap.size w w':=
 (Z4.Ig s w jO).mono (by rintro e w' ⟨v,rfl,hv,hb⟩;exact⟨by rw[uR hv],hb⟩)
theorem Dl(s:ByteArray)(w:World):Calls prog 128 #[.agg #[.string s,.int .i64 (-1),.int .i64 (-1),.int .i64 (-1),.int .i64 (-1),.int .i64 (-1),.int .i64 0,.int .i64 0]] w λe w'=>e=.returned (.bool true)/\Below w.heap.size w w':=
 (Z4.SJ ⟨s,-1,-1,-1,-1,-1,0,0⟩ w).mono (by rintro e w' ⟨v,rfl,hv,hb⟩;exact⟨by rw[hv.2 (AJ s)],hb⟩)
theorem Rj{w wx:World}{a:Addr}{v:Value}(hb:Below w.heap.size w wx)(h:w.cell? a=some v):wx.cell? a=some v:=(hb.cell (afg _ _ h)).trans h
theorem Ie {B:Nat}{t:TypeId}{cs:Array Value}(h:Hid (Z8 W B t cs))(hb:Below W.heap.size W W'):Hid (Z8 W' B t cs):=h.below hb h.lt
theorem AG(s:ByteArray)(hs:s.size<=1000000)(B:Nat)(w:World)(J:Z8 w B 40 #[.string s,.int .i64 (-1),.int .i64 (-1),.int .i64 (-1),.int .i64 (-1),.int .i64 (-1),.int .i64 0,.int .i64 0]):
 Calls prog 76 #[.slice (some ⟨B,0,none⟩) 1 1] w λe w'=>(∃i:Int,e=.returned (.tuple #[.int .i64 i,.int .i64 (if Sq s=true then 0 else 13)]))/\Below w.heap.size w w':=by
 have c0:=J.cell 0;have c1:=J.cell 1;have c2:=J.cell 2;have c3:=J.cell 3;have c4:=J.cell 4;have c5:=J.cell 5;have c6:=J.cell 6;have c7:=J.cell 7;have hBl:=J.lt;simp only[ak,aL,aF] at c0 c1 c2 c3 c4 c5 c6 c7;have JO:= @apb prog;have HSN:=aT (λW=>AH s W hs);have HSR:=aT (λW=>Dl s W);have i0:∀w,(Instr.index 38 (.agg #[.int .i64 (-1),.int .i64 (-1),.int .i64 (-1),.int .i64 (-1),.int .i64 (-1)]) (.int .i64 0)).run prog w=.ok (.int .i64 (-1)) w:=λ_=>jK
 have i1:∀w,(Instr.index 38 (.agg #[.int .i64 (-1),.int .i64 (-1),.int .i64 (-1),.int .i64 (-1),.int .i64 (-1)]) (.int .i64 1)).run prog w=.ok (.int .i64 (-1)) w:=λ_=>jK
 have i2:∀w,(Instr.index 38 (.agg #[.int .i64 (-1),.int .i64 (-1),.int .i64 (-1),.int .i64 (-1),.int .i64 (-1)]) (.int .i64 2)).run prog w=.ok (.int .i64 (-1)) w:=λ_=>jK
 have i3:∀w,(Instr.index 38 (.agg #[.int .i64 (-1),.int .i64 (-1),.int .i64 (-1),.int .i64 (-1),.int .i64 (-1)]) (.int .i64 3)).run prog w=.ok (.int .i64 (-1)) w:=λ_=>jK
 have i4:∀w,(Instr.index 38 (.agg #[.int .i64 (-1),.int .i64 (-1),.int .i64 (-1),.int .i64 (-1),.int .i64 (-1)]) (.int .i64 4)).run prog w=.ok (.int .i64 (-1)) w:=λ_=>jK
 clear J;generalize Sq s=nb at*;go_enter func76,ntmps76;go_upto_region 5 with fail;have T:=aT ((aG w.heap.size w).alloc (aP _) (.map #[] 0));have C:Below w.heap.size w (w.alloc (.map #[] 0)):=T;have q0:=Rj C c0;have q1:=Rj C c1;have q2:=Rj C c2;have q3:=Rj C c3;have q4:=Rj C c4;have q5:=Rj C c5;have q6:=Rj C c6;have q7:=Rj C c7;clear c0 c1 c2 c3 c4 c5 c6 c7 C JO;generalize w.alloc (.map #[] 0)=W1 at*
 go_loopw [16] (λU wr=>(U=.int .i64 0/\W1=wr)\/(U=.int .i64 1/\nb=true/\Hid (Below w.heap.size w wr))) (λU _=>1-(intOf U).toNat)
 case atStart=>exact .inl ⟨rfl,rfl⟩
 case round=>
  rcases hrel with⟨rfl,rfl⟩|⟨rfl,wM,HB⟩
  ·have HI:=aT (Z8.new W1 40 #[.string s,.int .i64 (-1),.int .i64 (-1),.int .i64 (-1),.int .i64 (-1),.int .i64 (-1),.int .i64 0,.int .i64 0]);have Y:=aT (T.alloc T.size (.cells #[.string s,.int .i64 (-1),.int .i64 (-1),.int .i64 (-1),.int .i64 (-1),.int .i64 (-1),.int .i64 0,.int .i64 0] 40));go_upto_region 8 with fail;clear q0 q1 q2 q3 q4 q5 q6 q7;generalize W1.alloc (.cells #[.string s,.int .i64 (-1),.int .i64 (-1),.int .i64 (-1),.int .i64 (-1),.int .i64 (-1),.int .i64 0,.int .i64 0] 40)=W2 at*;generalize W1.heap.size=IB at*;have d0:=HI.cell 0;simp only[ak,aL,aF] at d0;go_wp2_with fail;refine(HSN _).mono ?_;rintro e w3 ⟨rfl,hb3⟩;have HI3:=Ie HI hb3;have D:=aT (Y.trans (hb3.mono Y.size));clear hb3 HI Y T d0 HSN;cases nb with
   |false=>
    go_wp2;go_ret2;exact⟨⟨0,rfl⟩,D⟩
   |true=>
    go_upto_region 10 with fail;go_quiet (fail);have A:Hid (Z8 (w3.drewN nq) IB 40 #[.string s,.int .i64 (-1),.int .i64 (-1),.int .i64 (-1),.int .i64 (-1),.int .i64 (-1),.int .i64 0,.int .i64 0]):=HI3;have NC:Hid (Below w.heap.size w (w3.drewN nq)):=⟨D.os,D.tape,D.output,D.size,D.block⟩;clear HI3 D;generalize w3.drewN nq=w4 at*;have d0:=A.cell 0;have d1:=A.cell 1;have d2:=A.cell 2;have d3:=A.cell 3;have d4:=A.cell 4;have d5:=A.cell 5;have d6:=A.cell 6;have d7:=A.cell 7;simp only[ak,aL,aF] at d0 d1 d2 d3 d4 d5 d6 d7;go_wp2_with fail;refine(HSR _).mono ?_;rintro e w5 ⟨rfl,yD⟩;have I:=Ie A yD;have Z:=aT (NC.trans (yD.mono NC.size));clear yD A NC d0 d1 d2 d3 d4 d5 d6 d7 HSR;have d1:=I.cell 1;have d2:=I.cell 2;have d3:=I.cell 3;have d4:=I.cell 4;have d5:=I.cell 5;have d6:=I.cell 6;simp only[ak,aL,aF] at d1 d2 d3 d4 d5 d6;go_upto_region 17 with fail;go_loopg [60] 6 (λgg s60 wx=>w5=wx/\∃a:Nat,a<=5/\5-a<gg/\s60=.int .i64 a);case atStart=>exact⟨rfl,0,jO,jO,rfl⟩
    case round=>
     obtain⟨rfl,a,ha,hg,rfl⟩:=hrel;have:a=0\/a=1\/a=2\/a=3\/a=4\/a=5:=jO;rcases this with rfl|rfl|rfl|rfl|rfl|rfl
     ·go_wp2;go_roundg 5;case measure=>omega
      case rel=>exact⟨rfl,1,jO,jO,rfl⟩
     ·go_wp2;go_roundg 4;case measure=>omega
      case rel=>exact⟨rfl,2,jO,jO,rfl⟩
     ·go_wp2;go_roundg 3;case measure=>omega
      case rel=>exact⟨rfl,3,jO,jO,rfl⟩
     ·go_wp2;go_roundg 2;case measure=>omega
      case rel=>exact⟨rfl,4,jO,jO,rfl⟩
     ·go_wp2;go_roundg 1;case measure=>omega
      case rel=>exact⟨rfl,5,jO,jO,rfl⟩
     ·go_wp2;go_roundw;case rel=>first|exact .inr ⟨trivial,rfl,Z⟩|exact .inr ⟨rfl,trivial,Z⟩|exact .inr ⟨trivial,Z⟩
      case measure=>simp[intOf]
  ·subst wM;go_wp2;go_ret2;exact⟨⟨0,rfl⟩,HB⟩
theorem AE(s:ByteArray)(hs:s.size<=1000000)(w:World):Calls prog 204 #[.string s] w λe w'=>e=.returned (.bool (Sq s))/\Below w.heap.size w w':=by
 have hr:=AG s hs w.heap.size (w.alloc (.cells #[.string s,.int .i64 (-1),.int .i64 (-1),.int .i64 (-1),.int .i64 (-1),.int .i64 (-1),.int .i64 0,.int .i64 0] 40)) (Z8.new w _ _);have I:=aT hr;have D:=aT ((aG w.heap.size w).alloc (aP _) (.cells #[.string s,.int .i64 (-1),.int .i64 (-1),.int .i64 (-1),.int .i64 (-1),.int .i64 (-1),.int .i64 0,.int .i64 0] 40));clear hr;generalize Sq s=nb at*;go_enter func204,ntmps204;go_wp2_with fail;refine I.mono ?_;rintro e J ⟨⟨i,rfl⟩,A⟩;have C:=aT (D.trans (A.mono D.size));clear A D I;cases nb with
 |false=>
  rw[aN jD];go_wp2;go_ret;exact⟨rfl,C⟩
 |true=>
  rw[aH rfl];go_wp2;go_ret;exact⟨rfl,C⟩
def Ic(c:Y4):List Value:=[.int .i64 c.a,.int .i64 c.o,.int .u64 c.m,.int .u64 c.v]
def Wo(l:List Y4):List Value:=l.flatMap Ic
theorem AD(l:List Y4)(x:Y4):Wo (l++[x])=Wo l++Ic x:=by unfold Wo;rw[aca];simp
def Ib(r:YR)(u:Value):List Value:=[.string r.name,.int .i64 r.k,.int .i64 r.n,u]
def VP:List YR->List Value->List Value
 |[],_=>[]
 |_::_,[]=>[]
 |r::rs,u::us=>Ib r u++VP rs us
theorem J6:∀(rs:List YR) (us:List Value) (r:YR) (u:Value),us.length=rs.length->VP (rs++[r]) (us++[u])=VP rs us++Ib r u
 |[],[],r,u,_=>by simp[VP]
 |r0::rs,u0::us,r,u,h=>by show Ib r0 u0++VP (rs++[r]) (us++[u])=Ib r0 u0++VP rs us++Ib r u;rw[J6 rs us r u (by simpa using h),aba]
def YL(tr tc lo:Nat)(W:World)(v:Value)(rs:List YR):Prop:=
 ∃us:List Value,us.length=rs.length/\W.ownsRow lo tr 4 v rs.length (VP rs us)/\∀(j:Nat) (u:Value) (r:YR),us[j]? =some u->rs[j]? =some r->W.ownsRow lo tc 4 u r.conds.length (Wo r.conds)
theorem YL.nil(A tc lo:Nat)(W:World):YL A tc lo W (.slice none 0 0) []:=⟨[],rfl,ane _ _ _ _,λj u r h=>by simp at h⟩
theorem YL.slice{tc lo:Nat} {v:Value}{rs:List YR}(h:YL tr tc lo W v rs):∃a c,v=.slice a rs.length c:=by
 obtain⟨us,_,A,_⟩:=h;rcases A.2 with⟨h,C⟩|⟨g,c,_,h,_⟩;·exact⟨none,0,by rw[h,C]⟩
 ·exact⟨_,_,h⟩
theorem YL.imp{tc lo:Nat} {v:Value}{rs:List YR}(h:YL tr tc lo W v rs)(hi:∀e v n xs,W.ownsRow lo e 4 v n xs->W'.ownsRow lo e 4 v n xs):YL tr tc lo W' v rs:=by
 obtain⟨us,C,A,D⟩:=h;exact⟨us,C,hi _ _ _ _ A,λj u r hu hr=>hi _ _ _ _ (D j u r hu hr)⟩
theorem AA {B e size n:Nat}{v:Value} (h:W.ownsRow B e size v n xs)(hb:Below W.heap.size W W'):W'.ownsRow B e size v n xs:=by
 refine⟨h.1,?_⟩;rcases h.2 with A|⟨g,cap,C,I,A,D,J⟩;·exact .inl A
 ·exact .inr ⟨g,cap,C,I,A,(hb.block g (aab.1 D).1).trans D,J⟩
theorem YL.below{tc lo:Nat} {v:Value}{rs:List YR}(h:YL tr tc lo W v rs)(hb:Below W.heap.size W W'):YL tr tc lo W' v rs:=h.imp (λ_ _ _ _ h=>AA h hb)
abbrev jh:Nat:=91
abbrev TCd:Nat:=68
theorem Yb{P:Program}(w:World){o:Oper}{a:Act}{K:Act->World->Prop}{Q:Exit->Act->World->Prop}(s x:Operand)(t:TypeId)
 (ho:o.op=.call {callee:=.builtin .append,args:=#[s,x],argTypes:=#[t,t]})
 (base:Nat) (e:TypeId) (i:TypeInfo) (z:Value) (size bytes:Nat) (ht:P.underlying t=some (.slice e)) (hi:P.info? e=some i) (hz:i.zero=some z)
 (C:i.size=size) (U:i.bytes=bytes) (Z:z.cells.size=size) (Y:0<size)
 (v:Value) (n:Nat) (xs:List Value) (hs:a.eval s=v) (J:w.ownsRow base e size v n xs)
 (ad:Addr) (m c:Nat) (news:List Value) (hx:a.eval x=.slice (some ad) m c) (hl:news.length=m*size) (D:∀j u,news[j]? =some u->w.cell? (ad.add j)=some u) (h1:∀u∈news,u.oneCell'=true)
 (T:n+m<=maxLen) (A:(n+m)*bytes<=140737488355328) (I:base<=w.heap.size)
 (h:∀v' w',w'.ownsRow base e size v' (n+m) (xs++news)->w.grownBy w' v.ownBlock->K (a.put o.dst v') w'):Oper.wp P o a w K Q:=by
 obtain⟨v',w',hr,h2,h3,_,_⟩:=run_append_own (P:=P) w base t o.type e i z size bytes ht hi hz C U Z Y v n xs J ad m c news hl D h1 T A I;unfold Oper.wp execOp;simp only[ho,resolve,invoke,builtin,Sem.run_bind,Sem.run_pure,awd,List.map_toArray,aed,ard,hs,hx,hr];exact h v' w' h2 h3
theorem Dk {B e size n g j:Nat}{v u:Value} (h:W.ownsRow B e size v n xs)(U:g<B):(W.setCell ⟨g,j,none⟩ u).ownsRow B e size v n xs:=by
 refine⟨h.1,?_⟩;rcases h.2 with A|⟨D,cap,C,I,A,J,T⟩;·exact .inl A
 ·exact .inr ⟨D,cap,C,I,A,(afd W ⟨g,j,none⟩ u D (show D≠g from jO)).trans J,T⟩
theorem Ia {B B' e e' n n':Nat}{v:Value}{xs':List Value} (h:W.ownsRow B e 4 v n xs)(h':W.ownsRow B' e' 4 v' n' xs')(Y:e≠e')(A:(W.alloc o).grownBy W' v'.ownBlock):W'.ownsRow B e 4 v n xs:=by
 have D:∀g,v'.ownBlock=some g->v.ownBlock≠some g:=λg A=>AK h h' Y A
 have J:=h.alloc o;refine⟨J.1,?_⟩;rcases J.2 with C|⟨g,cap,I,T,C,U,Z⟩;·exact .inl C
 ·exact .inr ⟨g,cap,I,T,C,(A.block g (aab.1 U).1 (λe=>D g e.symm (by rw[T];rfl))).trans U,Z⟩
theorem Az{R:Nat}{wr w7:World}{v uc:Value}{rs:List YR}{us:List Value} {K N:Int}{acc:List Y4} (I:us.length=rs.length)(T:wr.ownsRow (R+1) jh 4 v rs.length (VP rs us))(U:∀(j:Nat) (u:Value) (r:YR),us[j]? =some u->rs[j]? =some r->wr.ownsRow (R+1) TCd 4 u r.conds.length (Wo r.conds))
 (hu:wr.ownsRow (R+1) TCd 4 uc acc.length (Wo acc)) (J:(wr.alloc o).grownBy w7 v.ownBlock) (C:w7.ownsRow (R+1) jh 4 v' (rs.length+1) (VP rs us++[.string s,.int .i64 K,.int .i64 N,uc])):YL jh TCd (R+1) (w7.setCell ⟨R,3,none⟩ v') v' (rs++[⟨s,K,N,acc⟩]):=by
 refine⟨us++[uc],by simp[I],?_,λj u r A hr=> ?_⟩;·rw[J6 _ _ _ _ I,ay];exact Dk C (amg _)
 ·refine Dk ?_ (amg _);by_cases D:j<us.length;·rw[abc D] at A;rw[abc jO] at hr;exact Ia (U j u r A hr) T jD J
  ·rw[aae jO] at A;rw[aae jO] at hr
   have e:j=us.length:=by have:=(aq.1 A).1;simp at this;omega
   subst e;rw[I] at hr;simp at A hr;subst A hr;exact Ia hu T jD J
def am2(k n:Int)(x:Bool)(vr:Value):Value:=.agg #[.int .i64 k,.int .i64 n,.bool x,vr]
theorem NX{a:World}(h:Hid (Below a.heap.size a W))(hb:Below W.heap.size W W'):Hid (Below a.heap.size a W'):=h.trans (hb.mono h.size)
theorem Dj:∀(l:List Y4) (k:Nat) (c:Y4),l[k]? =some c->(Wo l)[k*4]? =some (.int .i64 c.a)/\(Wo l)[k*4+1]? =some (.int .i64 c.o)/\(Wo l)[k*4+2]? =some (.int .u64 c.m)/\(Wo l)[k*4+3]? =some (.int .u64 c.v)
 |x::l,0,c,h=>by simp at h;subst h;exact⟨rfl,rfl,rfl,rfl⟩
 |x::l,k+1,c,h=>by
  have A:=Dj l k c (by simpa using h);have e:∀j,(Wo (x::l))[(k+1)*4+j]? =(Wo l)[k*4+j]? :=λj=>by
   show(Ic x++Wo l)[(k+1)*4+j]? =_;rw[aae (by show 4<=_;omega)]
   congr 1
   show(k+1)*4+j-4=_;omega
  exact⟨(e 0).trans A.1,(e 1).trans A.2.1,(e 2).trans A.2.2.1,(e 3).trans A.2.2.2⟩
theorem Di:∀(rs:List YR) (us:List Value) (i:Nat) (r:YR) (u:Value),rs[i]? =some r->us[i]? =some u->(VP rs us)[i*4]? =some (.string r.name)/\(VP rs us)[i*4+1]? =some (.int .i64 r.k)/\(VP rs us)[i*4+2]? =some (.int .i64 r.n)/\(VP rs us)[i*4+3]? =some u
 |x::rs,v::us,0,r,u,h,h2=>by simp at h h2;subst h h2;exact⟨rfl,rfl,rfl,rfl⟩
 |x::rs,v::us,i+1,r,u,h,h2=>by
  have A:=Di rs us i r u (by simpa using h) (by simpa using h2);have e:∀j,(VP (x::rs) (v::us))[(i+1)*4+j]? =(VP rs us)[i*4+j]? :=λj=>by
   show(Ib x v++VP rs us)[(i+1)*4+j]? =_;rw[aae (by show 4<=_;omega)]
   congr 1
   show(i+1)*4+j-4=_;omega
  exact⟨(e 0).trans A.1,(e 1).trans A.2.1,(e 2).trans A.2.2.1,(e 3).trans A.2.2.2⟩
def VY(N:Nat)(W:World)(ua:Option Addr)(cs:List Y4):Prop:=
 ∀(k:Nat) (c:Y4),cs[k]? =some c->∃gu,ua=some ⟨gu,0,none⟩/\gu<N/\W.cell? ⟨gu,k*4,none⟩=some (.int .i64 c.a)/\W.cell? ⟨gu,k*4+1,none⟩=some (.int .i64 c.o)/\W.cell? ⟨gu,k*4+2,none⟩=some (.int .u64 c.m)/\W.cell? ⟨gu,k*4+3,none⟩=some (.int .u64 c.v)
theorem VY.below{N M:Nat} {ua:Option Addr}{cs:List Y4}(h:VY N W ua cs)(hb:Below M W W')(hN:N<=M):VY N W' ua cs:=by
 intro k c hk;obtain⟨A,e,hl,I,J,D,T⟩:=h k c hk;have C:∀j v,W.cell? ⟨A,j,none⟩=some v->W'.cell? ⟨A,j,none⟩=some v:=λj v hv=>(hb.cell (p:=⟨A,j,none⟩) (acf hl hN)).trans hv
 exact⟨A,e,hl,C _ _ I,C _ _ J,C _ _ D,C _ _ T⟩
theorem Dh{tc lo:Nat} {a:Option Addr}{n c:Nat}{rs:List YR}(h:YL tr tc lo W (.slice a n c) rs){i:Nat}{r:YR}(hr:rs[i]? =some r):
 ∃g ua uc,a=some ⟨g,0,none⟩/\g<W.heap.size/\W.cell? ⟨g,i*4,none⟩=some (.string r.name)/\W.cell? ⟨g,i*4+1,none⟩=some (.int .i64 r.k)/\W.cell? ⟨g,i*4+2,none⟩=some (.int .i64 r.n)/\W.cell? ⟨g,i*4+3,none⟩=some (.slice ua r.conds.length uc)/\VY W.heap.size W ua r.conds:=by
 obtain⟨us,h1,C,h3⟩:=h;have hil:=(aq.1 hr).1;obtain⟨u,hu⟩:∃u,us[i]? =some u:=⟨_,aM jO⟩;obtain⟨c0,c1,c2,c3⟩:=Di rs us i r u hr hu;have hw:=h3 i u r hu hr;rcases C.2 with⟨hv,h0⟩|⟨g,cap,cur,hv,_,Y,_⟩;·omega
 ·cases hv;have I:=C.cellAt (i*4) jO;have J:=C.cellAt (i*4+1) jO;have D:=C.cellAt (i*4+2) jO;have T:=C.cellAt (i*4+3) jO;rw[c0] at I;rw[c1] at J;rw[c2] at D;rw[c3] at T;rcases hw.2 with⟨rfl,h0⟩|⟨Z,A,aF8,rfl,_,U,hcu,_⟩;·refine⟨g,none,0,rfl,(aab.1 Y).1,I,J,D,by rw[T,h0],λk c hk=> ?_⟩;have:=(aq.1 hk).1;omega
  ·refine⟨g,some ⟨Z,0,none⟩,A,rfl,(aab.1 Y).1,I,J,D,T,λk c hk=> ?_⟩;have hkl:=(aq.1 hk).1;obtain⟨k0,k1,k2,k3⟩:=Dj r.conds k c hk;exact⟨Z,rfl,(aab.1 U).1,(hw.cellAt _ jO).trans k0,(hw.cellAt _ jO).trans k1,(hw.cellAt _ jO).trans k2,(hw.cellAt _ jO).trans k3⟩
end Go.Proofs.YtclgigmgbebhgaaGreatDoor.ZJ
