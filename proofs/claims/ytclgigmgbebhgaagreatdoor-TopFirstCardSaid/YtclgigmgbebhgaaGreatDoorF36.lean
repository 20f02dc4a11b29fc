/- TopFirst: part 36: CondNum CondIdx CondRead SysNamed MapB SysRanged LexP LexR PolP CondDig CondBackP PolTextP PolNm PolR PolRule PolParse PolAt. -/
import Derived.Shelf.Pu.Lower
import Derived.Shelf.Pu.ToErrorRange
import Derived.Shelf.Pu.ParseUintPublic10
import Derived.Lib.ConvBytes
import Derived.Lib.AtoiAllMem
import Derived.Lib.AtoiErrMem
import Derived.Lib.ParseIntBMem
import Derived.BigCall
import Derived.BigGuard
import Derived.WideKeyPair
import Derived.Lib.FieldsP
import Derived.Lib.IndexMore
import Derived.Lib.RuneCountTail
import Derived.Lib.OthersKept
import Derived.Sort.LoopGhostIn
import Derived.Sort.QuietIn
import Derived.RegionIn
import Derived.Maps.AppendAt
import Derived.Lib.ItoaNum
import Derived.Deep.RegionWith
import Derived.Test.YtclgigmgbebhgaaGreatDoorF35
set_option linter.unusedVariables false
set_option linter.unusedSimpArgs false
set_option maxRecDepth 100000
set_option maxHeartbeats 16000000
namespace Go.Proofs.YtclgigmgbebhgaaGreatDoor.ZJ
open Tryz
open Go Go.Proofs Go.RowKit Go.Shelf Go.Lib
def aC4:List UInt8:=[48,49,50,51,52,53,54,55,56,57]
def oJ(l:List UInt8):Nat×Nat:=
 if hasPrefix l [97]=false\/trimPrefix l [97]=[]\/¬(∀b∈trimPrefix l [97],aC4.contains b=true) then(0,13)
 else if 1<(trimPrefix l [97]).length\/53<((trimPrefix l [97]).getD 0 0).toNat then(0,16) else(((trimPrefix l [97]).getD 0 0).toNat-48,0)
end Go.Proofs.YtclgigmgbebhgaaGreatDoor.ZJ
namespace Go.Proofs.YtclgigmgbebhgaaGreatDoor.ZJ
open Tryz
open Go Go.Proofs Go.RowKit
def aC5(k:Int):Nat:=if k=1 then 68 else if k=2 then 69 else if k=3 then 70 else if k=4 then 71 else if k=5 then 72 else if k=6 then 73 else 74
theorem ac5{W:World}{g:Nat}(h:Z7 W g 104 Og)(j:Nat)(C:j<7):
 W.cell? ⟨g,j*2,none⟩=some (.string (X2 (j+1)))/\W.cell? ⟨g,j*2+1,none⟩=some (.func (.func (aC5 (j+1))) #[] #[]):=by
 match j,C with
 |0,_=>exact⟨(h.cell 0).trans rfl,(h.cell 1).trans rfl⟩
 |1,_=>exact⟨(h.cell 2).trans rfl,(h.cell 3).trans rfl⟩
 |2,_=>exact⟨(h.cell 4).trans rfl,(h.cell 5).trans rfl⟩
 |3,_=>exact⟨(h.cell 6).trans rfl,(h.cell 7).trans rfl⟩
 |4,_=>exact⟨(h.cell 8).trans rfl,(h.cell 9).trans rfl⟩
 |5,_=>exact⟨(h.cell 10).trans rfl,(h.cell 11).trans rfl⟩
 |6,_=>exact⟨(h.cell 12).trans rfl,(h.cell 13).trans rfl⟩
def ZG(p:Nat->Bool):Int:=if p 0=true then 0 else if p 1=true then 1 else if p 2=true then 2 else if p 3=true then 3 else if p 4=true then 4 else if p 5=true then 5 else if p 6=true then 6 else -1
theorem oL{W W':World}{B:Nat}{t:TypeId}{cs:Array Value}(h:Hid (Z7 W B t cs))(hb:Below W.heap.size W W'):Hid (Z7 W' B t cs):=h.below hb h.lt
theorem an9{a W W':World}(h:Hid (Below a.heap.size a W))(hb:Below W.heap.size W W'):Hid (Below a.heap.size a W'):=h.trans (hb.mono h.size)
def opB(s:ByteArray)(j:Nat):Bool:=(X2 (j+1)).toList == s.toList
structure ac6 where
 (a o m v n e:Int)
def oI(a m:Nat):List ByteArray->ac6
 |s3::s4::_=>if (s3.toList == [61,61])=true then(match numOf s4.data.toList with|some v=>⟨a,7,m,v,5,0⟩|none=>⟨0,0,0,0,0,13⟩) else⟨0,0,0,0,0,13⟩
 |_=>⟨0,0,0,0,0,13⟩
def JH(a:Nat):List ByteArray->ac6
 |s1::s2::r=>
  if ZG (opB s1)= -1 then⟨0,0,0,0,0,13⟩
  else match numOf s2.data.toList with
   |none=>⟨0,0,0,0,0,13⟩
   |some u=>if ZG (opB s1)=6 then oI a u r else⟨a,ZG (opB s1)+1,0,u,3,0⟩
 |_=>⟨0,0,0,0,0,13⟩
def Up:List ByteArray->ac6
 |[]=>⟨0,0,0,0,0,4⟩
 |s::r=>if (oJ s.data.toList).2=0 then JH (oJ s.data.toList).1 r else⟨0,0,0,0,0,(oJ s.data.toList).2⟩
theorem oH(w:World):Calls prog 33 #[] w λe w'=>∃g,e=.returned (.slice (some ⟨g,0,none⟩) 7 7)/\Z7 w' g 104 Og/\Below w.heap.size w w':=
 (yX w).mono (by rintro e w' ⟨rfl,rfl⟩;exact⟨_,rfl,Z7.new w _ _,(aG w.heap.size w).alloc (aR _) _⟩)
end Go.Proofs.YtclgigmgbebhgaaGreatDoor.ZJ
namespace Go.Proofs.YtclgigmgbebhgaaGreatDoor.Z4
open Tryz
open Go Go.Proofs Go.RowKit Go.Shelf Go.Lib
theorem dropWhile_nil{p:UInt8->Bool}:∀l:List UInt8,l.dropWhile p=[]↔∀b∈l,p b=true
 |[]=>jS
 |x::r=>by
  have C:=dropWhile_nil (p:=p) r;by_cases h:p x=true;·simp[h,C]
  ·simp[h]
theorem Yh{p:UInt8->Bool}:∀l:List UInt8,(∀b∈l.dropWhile p,p b=true)->∀b∈l,p b=true
 |[],_=>jS
 |x::r,h=>by
  by_cases hx:p x=true
  ·have C:=Yh (p:=p) r (by simpa [apf,hx] using h);intro b hb;rcases abb.1 hb with rfl|hb;·exact hx
   ·exact C b hb
  ·exact absurd (h x (by simp[hx])) hx
theorem QC(l cs:List UInt8):trimS l cs=[]↔∀b∈l,cs.contains b=true:=by
 unfold trimS trimLeftS;rw[dropWhile_nil];constructor
 ·intro h;have C:∀b∈l.reverse.dropWhile (cs.contains ·),cs.contains b=true:=λb hb=>h b (by unfold trimRightS;simpa using hb)
  have:=Yh l.reverse C;intro b hb;exact this b (by simpa using hb)
 ·intro h b hb;unfold trimRightS at hb;have:=(awb (l:=l.reverse) (cs.contains ·)).subset (by simpa using hb:b∈_);exact h b (by simpa using this)
def IY:List UInt8:=[97,98,99,100,101,102,103,104,105,106,107,108,109,110,111,112,113,114,115,116,117,118,119,120,121,122,48,49,50,51,52,53,54,55,56,57,95]
def QW:List UInt8:=[97,98,99,100,101,102,103,104,105,106,107,108,109,110,111,112,113,114,115,116,117,118,119,120,121,122]
theorem jb:∀n,n<256->IY.contains (UInt8.ofNat n)=decide ((97<=n/\n<=122)\/(48<=n/\n<=57)\/n=95):=by decide+kernel
theorem oG(b:UInt8):IY.contains b=true↔cw b.toNat:=by
 have h:=jb b.toNat b.toNat_lt;rw[UInt8.ofNat_toNat] at h;rw[h];simp[cw]
theorem ja:∀n,n<256->decide (0<=indexByte QW (UInt8.ofNat n))=decide (97<=n/\n<=122):=by decide+kernel
def GY(s:ByteArray)(w:World)(e:Ending)(w':World):Prop:=∃v:Bool,e=.returned (.bool v)/\(v=true↔YC s)/\Below w.heap.size w w'
theorem Tw{s:ByteArray}{w w':World}(h:¬YC s)(hb:Below w.heap.size w w'):GY s w (.returned (.bool false)) w':=⟨false,rfl,⟨λe=>by simp at e,λe=>absurd e h⟩,hb⟩
theorem xZ(s:ByteArray):(∀b∈s.data.toList,IY.contains b=true)↔∀j (h:j<s.size),cw (s[j]'h).toNat:=by
 constructor;·intro h j C;rw[<-oG];exact h _ (by simp[Array.mem_toList_iff];exact Array.getElem_mem (xs:=s.data) C)
 ·intro h b hb;obtain⟨j,C,rfl⟩:=aid.1 hb;rw[oG];exact h j (by simpa using C)
theorem GX(s:ByteArray)(w:World)(hs:s.size<=9223372036854775807):Calls prog 127 #[.string s] w (GY s w):=by
 by_cases h0:s.size=0
 ·have e0:s.toList=[]:=by rw[aha];exact aod (by simpa using h0)
  have e1:s.toList.isEmpty=true:=by rw[e0];rfl
  go_enter func127,ntmps127;go_wp2;go_ret;exact Tw (λh=>by obtain⟨h,_⟩:=h.2.1;omega) (aG _ _)
 have h00:0<s.size:=jO;have e0:¬s.toList=[]:=by rw[aha];intro h;have:=ax List.length h;simp at this;exact h0 (by rw[this];rfl)
 have e1:s.toList.isEmpty=false:=by simpa using e0
 by_cases a3:s.toList=[100,101,102,97,117,108,116]
 ·have b3:(s.toList == [100,101,102,97,117,108,116])=true:=by simpa using a3
  go_enter func127,ntmps127;go_wp2;go_ret;exact Tw (λh=>h.2.2.1 a3) (aG _ _)
 have b3:(s.toList == [100,101,102,97,117,108,116])=false:=by simpa using a3
 by_cases a4:s.toList=[120,51,50]
 ·have b4:(s.toList == [120,51,50])=true:=by simpa using a4
  go_enter func127,ntmps127;go_wp2;go_ret;exact Tw (λh=>h.2.2.2.1 a4) (aG _ _)
 have b4:(s.toList == [120,51,50])=false:=by simpa using a4
 by_cases a5:s.size<=30
 case neg=>
  have b5:decide ((s.size:Int)<=30)=false:=aeg jO;go_enter func127,ntmps127;go_wp2;go_ret;exact Tw (λh=>a5 h.1) (aG _ _)
 have b5:decide ((s.size:Int)<=30)=true:=acb jO;have D:=λW=>Any.strings_Trim_laid Tryz.jh jK s ⟨IY.toArray⟩ W hs jD (ascii_of_all jD)
 have HQ:Hid (s.size<=30/\¬s.toList=[100,101,102,97,117,108,116]/\¬s.toList=[120,51,50]):=⟨a5,a3,a4⟩;clear a3 a4 a5;by_cases C:∀b∈s.data.toList,IY.contains b=true
 case neg=>
  have U:¬trimS s.data.toList IY=[]:=λh=>C ((QC _ _).1 h)
  have I:∀W,∃r:ByteArray,r.toList.isEmpty=false/\Calls prog 206 #[.string s,.string ⟨IY.toArray⟩] W λe w'=>e=.returned (.string r)/\Below W.heap.size W w':=λW=>⟨_,by rw[aha];simpa using U,D W⟩
  obtain⟨r,hr,hc⟩:=I w;have hr2:¬r.toList=[]:=by simpa using hr
  have Z:=aT hc;have HN:Hid (¬YC s):=λh=>C ((xZ s).2 h.2.2.2.2)
  clear D I hc U C;go_enter func127,ntmps127
  go_wp2_with (go_at_call 206;refine Z.mono ?_;rintro e w1 ⟨rfl,J⟩)
  go_ret;exact Tw HN J
 have hc:Calls prog 206 #[.string s,.string ⟨IY.toArray⟩] w λe w'=>e=.returned (.string ⟨#[]⟩)/\Below w.heap.size w w':=by have:=D w;rw[show(⟨IY.toArray⟩:ByteArray).data.toList=IY from rfl,(QC _ _).2 C] at this;exact this
 have Z:=aT hc;have HA:=aT ((xZ s).1 C);clear D hc C;have hi:=ja (s[0]'h00).toNat (s[0]'h00).toNat_lt;rw[UInt8.ofNat_toNat] at hi;have T:∀W,Calls prog 207 #[.string ⟨QW.toArray⟩,.int .u8 ((s[0]'h00).toNat:Int)] W λe w'=>e=.returned (.int .i64 (indexByte QW (s[0]'h00)))/\w'=W:=λW=>by have:=Any.strings_IndexByte Tryz.ji ⟨QW.toArray⟩ ((s[0]'h00).toNat:Int) W;rw[aub,show(s[0]'h00).toNat.toUInt8=s[0]'h00 from UInt8.ofNat_toNat] at this;exact this
 generalize indexByte QW (s[0]'h00)=ix at hi T;have Y:=aT T;clear T;have h01:(0:Int)<(s.size:Int):=jO;by_cases a1:97<=(s[0]'h00).toNat/\(s[0]'h00).toNat<=122
 ·rw[acb a1] at hi;have HV:Hid (YC s):=⟨HQ.1,⟨h00,a1⟩,HQ.2.1,HQ.2.2,HA⟩;clear a1;go_enter func127,ntmps127
  go_wp2_with (first|(go_at_call 206;refine Z.mono ?_;rintro e w1 ⟨rfl,J⟩)|(go_at_call 207;refine(Y _).mono ?_;rintro e w2 ⟨rfl,rfl⟩))
  go_ret;exact⟨true,rfl,⟨λ_=>HV,λ_=>rfl⟩,J⟩
 ·rw[aeg a1] at hi;have HV:Hid (¬YC s):=λh=>a1 (by obtain⟨h',h1,h2⟩:=h.2.1;exact⟨h1,h2⟩)
  clear a1;go_enter func127,ntmps127
  go_wp2_with (first|(go_at_call 206;refine Z.mono ?_;rintro e w1 ⟨rfl,J⟩)|(go_at_call 207;refine(Y _).mono ?_;rintro e w2 ⟨rfl,rfl⟩))
  go_ret;exact Tw HV J
end Go.Proofs.YtclgigmgbebhgaaGreatDoor.Z4
namespace Go.Proofs.YtclgigmgbebhgaaGreatDoor.Z4
open Tryz
open Go Go.Proofs Go.RowKit Go.Maps Go.WideMaps Go.ChangeMaps
variable {W W':World}
theorem ao0:ArrKey prog 312 3 2:=⟨underlying312,jK,jK,jK⟩
theorem szK:∃m,prog.types.size=m+1:=⟨prog.types.size-1,by
 have:0<prog.types.size:=by decide+kernel
 omega⟩
theorem OJ:Keyed prog 312:=Keyed.of_law ao0.law
def Pw(p:Int×Int):Value:=.agg #[.int .i64 p.1,.int .i64 p.2]
def In64(p:Int×Int):Prop:=(Lit.int .i64 p.1).wf=true/\(Lit.int .i64 p.2).wf=true
theorem K2{p:Int×Int}(h:In64 p):∃l,keyOf prog 312 (Pw p)=some l:=⟨_,keyOf_pair ao0 underlying3 szK h.1 h.2⟩
theorem CV{p q:Int×Int}(h:Pw p=Pw q):p=q:=by
 obtain⟨a,b⟩:=p;obtain⟨c,d⟩:=q;simp[Pw] at h;simp[h.1,h.2]
def XN(W:World)(B:Nat)(S:List (Int×Int)):Prop:=
 ∃es clock,W.heap[B]? =some (.map es clock)/\es.toList.map (λe=>(e.key,e.val))=S.map (λp=>(Pw p,Value.bool true))/\∀p∈S,In64 p
theorem XN.lt {B:Nat}{S:List (Int×Int)}(h:XN W B S):B<W.heap.size:=by
 obtain⟨es,c,h,_⟩:=h;exact(aac.1 h).1
theorem XN.kept {row:Option Nat}{B:Nat}{S:List (Int×Int)}(h:XN W B S)(J:W.grownBy W' row)(C:some B≠row):XN W' B S:=by
 have hl:=h.lt;obtain⟨es,c,h,I,D⟩:=h;exact⟨es,c,(J.block B hl C).trans h,I,D⟩
theorem XN.below{n:Nat} {B:Nat}{S:List (Int×Int)}(h:XN W B S)(hb:Below n W W')(I:B<n):XN W' B S:=by
 obtain⟨es,c,h,D,C⟩:=h;exact⟨es,c,(hb.block B I).trans h,D,C⟩
theorem XN.alloc {B:Nat}{S:List (Int×Int)}(h:XN W B S)(o:Obj):XN (W.alloc o) B S:=h.kept (aeb W o none) jS
theorem XN.made(W:World):XN (W.alloc (.map #[] 0)) W.heap.size []:=⟨#[],0,arb W _,rfl,jS⟩
theorem NH{es:Array MapEntry}{S:List (Int×Int)}(D:es.toList.map (λe=>(e.key,e.val))=S.map (λp=>(Pw p,Value.bool true))):(∀e∈es.toList,∃p∈S,e.key=Pw p/\e.val=.bool true)/\∀p∈S,∃e∈es.toList,e.key=Pw p:=by
 constructor;·intro e C;have:(e.key,e.val)∈es.toList.map (λe=>(e.key,e.val)):=ah.2 ⟨e,C,rfl⟩;rw[D] at this;obtain⟨p,hp,e1⟩:=ah.1 this;simp only[arf] at e1;exact⟨p,hp,e1.1.symm,e1.2.symm⟩
 ·intro p hp;have:(Pw p,Value.bool true)∈S.map (λp=>(Pw p,Value.bool true)):=ah.2 ⟨p,hp,rfl⟩;rw[<-D] at this;obtain⟨e,C,e1⟩:=ah.1 this;simp only[arf] at e1;exact⟨e,C,e1.1⟩
theorem uy {B:Nat}{S:List (Int×Int)}(h:XN W B S)(p:Int×Int)(hp:In64 p):
 (Instr.lookup 251 (.map (some B)) (Pw p) false).run prog W=.ok (.bool (decide (p∈S))) W:=by
 obtain⟨es,clock,hb,Z,h3⟩:=h;obtain⟨Y,k2⟩:=NH Z;obtain⟨kl,C⟩:=K2 hp;have hz:∀W,(zeroValue 4).run prog W=.ok (.bool false) W:=λ_=>jK
 rcases OJ.find W C es.toList (λe D=>by obtain⟨q,U,e1,_⟩:=Y e D;rw[e1];exact K2 (h3 q U)) with⟨J,I⟩|⟨j,e0,J,I,h6⟩
 ·have hn:¬p∈S:=λhm=>by
   obtain⟨e,D,e1⟩:=k2 p hm;exact I e D e1
  simp[Instr.lookup,ake underlying251,aie hb,OJ.check W _ C,J,hz,Result.andThen,hn]
 ·have T:e0∈es.toList:=ag I;obtain⟨q,U,e1,e2⟩:=Y e0 T;have hy:p∈S:=by rw[CV (h6.symm.trans e1)];exact U
  simp[Instr.lookup,ake underlying251,aie hb,OJ.check W _ C,J,Result.andThen,hy,e2]
def JG(S:List (Int×Int))(p:Int×Int):List (Int×Int):=if p∈S then S else S++[p]
theorem oF {B:Nat}{S:List (Int×Int)}(h:XN W B S)(p:Int×Int)(hp:In64 p):
 ∃W',(Instr.mapUpdate 251 (.map (some B)) (Pw p) (.bool true)).run prog W=.ok () W'/\XN W' B (JG S p)/\W.grownBy W' (some B):=by
 obtain⟨es,clock,hb,h2,h3⟩:=h;obtain⟨k1,k2⟩:=NH h2;obtain⟨kl,C⟩:=K2 hp;rcases OJ.find W C es.toList (λe U=>by obtain⟨q,I,e1,_⟩:=k1 e U;rw[e1];exact K2 (h3 q I)) with⟨h4,T⟩|⟨j,e0,h4,T,Z⟩
 ·have hn:¬p∈S:=λhm=>by
   obtain⟨e,U,e1⟩:=k2 p hm;exact T e U e1
  refine⟨setBlock W B (.map (es.push ⟨Pw p,.bool true,clock⟩) (clock+1)),?_,⟨_,_,heap_setBlock_same hb _,?_,?_⟩,⟨rfl,rfl,rfl,by simp[setBlock],λi _ hi=>heap_setBlock_other hb _ (λe=>hi (by rw[e]))⟩⟩;·simp[Instr.mapUpdate,ake underlying251,aie hb,OJ.check W false C,h4,awa _ hb,Result.andThen,setBlock]
  ·rw[JG,aN hn];simp[h2]
  ·rw[JG,aN hn];intro q I;rcases abf.1 I with h|h;·exact h3 q h
   ·rw[aaa.1 h];exact hp
 ·have Fo:e0∈es.toList:=ag T;obtain⟨q,I,e1,e2⟩:=k1 e0 Fo;have hy:p∈S:=by rw[CV (Z.symm.trans e1)];exact I
  have J:es[j]? =some e0:=by simpa using T
  have Y:=OJ.stays W C;refine⟨setBlock W B (.map (es.modify j λe=>{e with key:=Pw p,val:=.bool true}) clock),?_,⟨_,_,heap_setBlock_same hb _,?_,?_⟩,⟨rfl,rfl,rfl,by simp[setBlock],λi _ hi=>heap_setBlock_other hb _ (λe=>hi (by rw[e]))⟩⟩;·simp[Instr.mapUpdate,ake underlying251,aie hb,OJ.check W false C,h4,awa _ hb,Result.andThen,setBlock,J,Z,Y]
  ·rw[JG,aF hy,<-h2]
   have D:(es.modify j λe=>{e with key:=Pw p,val:=.bool true})=es:=by
    apply Array.ext_getElem?;intro i;rw[ala];by_cases hi:j=i;·subst hi;rw[aF rfl,J];simp only[avd,ahf];rw[<-Z,<-e2]
    ·rw[aN hi]
   rw[D]
  ·rw[JG,aF hy];exact h3
end Go.Proofs.YtclgigmgbebhgaaGreatDoor.Z4
namespace Go.Proofs.YtclgigmgbebhgaaGreatDoor.Z4
open Tryz
open Go Go.Proofs Go.RowKit
def MQ(x:Int):Bool:=decide (x < -1) || decide (1073741823<x)
theorem Ac(x:Int):MQ x=true↔¬Nx x:=by
 unfold MQ Nx;simp;omega
theorem oD(x:Int)(w:World):Calls prog 209 #[.int .i64 x] w λe w'=>e=.returned (.bool (MQ x))/\w=w':=by
 by_cases D:x < -1;·have C:decide (x < -1)=true:=acb D;go_enter func209,ntmps209;go_wp2;go_ret;exact⟨Gz (by unfold MQ;rw[C];rfl),rfl⟩
 ·have C:decide (x < -1)=false:=aeg D;go_enter func209,ntmps209;go_wp2;go_ret;exact⟨Gz (by unfold MQ;rw[C];rfl),rfl⟩
def oC(y:Z1)(w:World)(e:Ending)(w':World):Prop:=∃i:Int,e=.returned (.int .i64 i)/\(0<=i↔∃a,a<5/\¬Nx (y.num a))/\w=w'
theorem oA(b:Nat)(y:Z1)(w:World)(hc:∀a,a<5->w.cell? ⟨b,1+a,none⟩=some (.int .i64 (y.num a))):
 Calls prog 270 #[.slice (some ⟨b,1,none⟩) 5 5,.func (.func 209) #[] #[]] w (oC y w):=by
 have Hc:=aT hc;clear hc;go_enter func270,ntmps270;go_wp2;go_loopg [5,8] 5 (λgg _ s8 wr=>w=wr/\∃I:Nat,I<=5/\5-I<=gg/\s8=.int .i64 I/\Hid (∀a,a<I->Nx (y.num a)));case atStart=>exact⟨rfl,0,jO,jO,rfl,λa ha=>absurd ha (akf _)⟩
 case round=>
  obtain⟨rfl,I,hkk,hg,rfl,A⟩:=hrel;by_cases T:I<5
  ·have U:(I:Int)<(5:Int):=by omega
   have c:=Hc I T;have C:=oD (y.num I);have D:=Ac (y.num I);generalize hx:y.num I=x at c C D;have Z:=aT hx;clear hx;cases hb:MQ x with
   |true=>
    rw[hb] at C D;have J:=aT C;have Y:Hid (¬Nx x):=D.1 rfl;clear C D hb;go_wp2_with fail;refine(J _).mono ?_;rintro e w' ⟨rfl,rfl⟩;go_wp2;go_ret;exact⟨(I:Int),rfl,⟨λ_=>⟨I,T,by rw[Z.out];exact Y⟩,λ_=>jO⟩,rfl⟩
   |false=>
    have Y:Hid (Nx x):=by
     by_cases h:Nx x;·exact h
     ·rw[D.2 h] at hb;cases hb
    rw[hb] at C;have J:=aT C;clear C D hb;go_wp2_with fail;refine(J _).mono ?_;rintro e w' ⟨rfl,rfl⟩;go_wp2;go_roundg (5-(I+1));case measure=>omega
    case rel=>
     refine⟨rfl,I+1,jO,jO,by go_num,(show Hid _ from λa ha=> ?_)⟩;by_cases e:a=I;·subst e;rw[Z.out];exact Y
     ·exact A a jO
  ·have U:¬(I:Int)<(5:Int):=by omega
   obtain rfl:I=5:=jO;go_wp2;go_ret;exact⟨-1,rfl,⟨λh=>jO,λ⟨a,ha,hn⟩=>absurd (A a ha) hn⟩,rfl⟩
def ux(y:Z1)(w:World)(e:Ending)(w':World):Prop:=∃v:Bool,e=.returned (.bool v)/\(v=true↔∃a,a<5/\¬Nx (y.num a))/\w=w'
theorem uw(b:Nat)(y:Z1)(w:World)(hc:∀a,a<5->w.cell? ⟨b,1+a,none⟩=some (.int .i64 (y.num a))):
 Calls prog 208 #[.slice (some ⟨b,1,none⟩) 5 5,.func (.func 209) #[] #[]] w (ux y w):=by
 have D:=aT (oA b y w hc);clear hc;go_enter func208,ntmps208;go_wp2_with fail;refine D.mono ?_;rintro e w' ⟨i,rfl,hi,rfl⟩;have C:=aT hi;clear hi D;go_wp2;go_ret;exact⟨_,rfl,⟨λh=>C.1 (by simpa using h),λh=>by simpa using C.out.2 h⟩,rfl⟩
def JE(y:Z1)(w:World)(e:Ending)(w':World):Prop:=∃v:Bool,e=.returned (.bool v)/\(v=true↔Pm y)/\Below w.heap.size w w'
theorem Sn(y:Z1)(w:World):
 Calls prog 128 #[.agg #[.string y.name,.int .i64 y.n0,.int .i64 y.n1,.int .i64 y.n2,.int .i64 y.n3,.int .i64 y.n4,.int .i64 y.Yp,.int .i64 y.sub]] w (JE y w):=by
 have bY:=Z7.new w 40 #[.string y.name,.int .i64 y.n0,.int .i64 y.n1,.int .i64 y.n2,.int .i64 y.n3,.int .i64 y.n4,.int .i64 y.Yp,.int .i64 y.sub];have D:=uw w.heap.size y _ (λa ha=>by
  have:=bY.cell (1+a);rw[this]
  match a,ha with
  |0,_=>rfl
  |1,_=>rfl
  |2,_=>rfl
  |3,_=>rfl
  |4,_=>rfl)
 have Hc:=aT D;clear D bY;go_enter func128,ntmps128;go_wp2_with fail;refine Hc.mono ?_;rintro e w' ⟨v,rfl,hv,rfl⟩;have Z:=aT hv;have Y:=aT ((aG _ w).alloc (aR _) (.cells #[.string y.name,.int .i64 y.n0,.int .i64 y.n1,.int .i64 y.n2,.int .i64 y.n3,.int .i64 y.n4,.int .i64 y.Yp,.int .i64 y.sub] 40));clear hv Hc;cases v with
 |true=>
  go_wp2;go_ret;exact⟨false,rfl,⟨λh=>(by cases h),λh=>by obtain⟨a,ha,hn⟩:=Z.1 jS;exact absurd (h.1 a ha) hn⟩,Y⟩
 |false=>
  have HA:Hid (∀a,a<5->Nx (y.num a)):=by
   intro a ha;by_cases h:Nx (y.num a);·exact h
   ·exact absurd (Z.2 ⟨a,ha,h⟩) jS
  clear Z
  have T:∀v:Bool,(v=true↔Pn y)->JE y w (.returned (.bool v)) (w.alloc (.cells #[.string y.name,.int .i64 y.n0,.int .i64 y.n1,.int .i64 y.n2,.int .i64 y.n3,.int .i64 y.n4,.int .i64 y.Yp,.int .i64 y.sub] 40)):=
   λv h=>⟨v,rfl,⟨λU=>⟨HA,h.1 U⟩,λU=>h.2 U.2⟩,Y⟩
  have C:=aT T;clear T HA Y;by_cases m0:y.Yp=0
  ·have e0:(y.Yp == 0)=true:=by simpa using m0
   have I:=aT m0;clear m0;go_wp2;go_ret;exact C _ (by have:=I.out;unfold Pn;simp;omega)
  ·have e0:(y.Yp == 0)=false:=by simpa using m0
   by_cases m1:y.Yp=1
   ·have e1:(y.Yp == 1)=true:=by simpa using m1
    have I:=aT m1;clear m1;by_cases s1:1<=y.sub;·have f1:decide (1<=y.sub)=true:=acb s1;go_wp2;go_ret;exact C _ (by have:=I.out;unfold Pn;simp;omega)
    ·have f1:decide (1<=y.sub)=false:=aeg s1;go_wp2;go_ret;exact C _ (by have:=I.out;unfold Pn;simp;omega)
   ·have e1:(y.Yp == 1)=false:=by simpa using m1
    by_cases J:y.Yp=2
    ·have e2:(y.Yp == 2)=true:=by simpa using J
     have I:=aT J;clear J m1;by_cases s1:1<=y.sub;·have f1:decide (1<=y.sub)=true:=acb s1;go_wp2;go_ret;exact C _ (by have:=I.out;unfold Pn;simp;omega)
     ·have f1:decide (1<=y.sub)=false:=aeg s1;go_wp2;go_ret;exact C _ (by have:=I.out;unfold Pn;simp;omega)
    ·have e2:(y.Yp == 2)=false:=by simpa using J
     have I:Hid (¬y.Yp=0/\¬y.Yp=1/\¬y.Yp=2):=⟨m0,m1,J⟩;clear m0 m1 J;go_wp2;go_ret;exact C _ (by have:=I.out;unfold Pn;simp;omega)
def FK(B:Nat)(S:List (Int×Int))(p:Int×Int)(w:World)(e:Ending)(w':World):Prop:=
 e=.returned (.bool (decide (p∈S)))/\XN w' B (JG S p)/\w.heap.size<=w'.heap.size/\w.os=w'.os/\w.tape=w'.tape/\w.output=w'.output/\∀b,b<w.heap.size->b≠B->w'.heap[b]? =w.heap[b]?
theorem QB(B:Nat)(S:List (Int×Int))(p:Int×Int)(w:World)(h:XN w B S)(hp:In64 p):
 Calls prog 129 #[.map (some B),.int .i64 p.1,.int .i64 p.2] w (FK B S p w):=by
 have I:=h.alloc (.cells #[.int .i64 p.1,.int .i64 p.2] 312);have hl:=uy I p hp;obtain⟨W',hu,J,T⟩:=oF I p hp;unfold Pw at hl hu;have U:=aT J;have C:=aT T;clear h I J T;go_enter func129,ntmps129;go_wp2;go_ret;refine⟨rfl,U,?_,?_,?_,?_,?_⟩;·have:=C.size;simp at this;omega
 ·exact C.os.symm
 ·exact C.tape.symm
 ·exact C.output.symm
 ·intro b hb D;exact(C.block b (by simp;omega) (by simpa using D)).trans ((aeb w _ none).block b hb jS)
end Go.Proofs.YtclgigmgbebhgaaGreatDoor.Z4
namespace Go.Proofs.YtclgigmgbebhgaaGreatDoor
open Tryz
open Go Go.Proofs
def oL(c:UInt8):Bool:=c == 32 || c == 9 || c == 13
def okB(c:UInt8):Bool:=oL c || (32<=c&&c<=126)
end Go.Proofs.YtclgigmgbebhgaaGreatDoor
namespace Go.Proofs.YtclgigmgbebhgaaGreatDoor
open Tryz
open Go Go.Proofs Go.RowKit Go.Shelf
theorem Ab{W:World}{B B' e e' s s' n n' g:Nat}{v v':Value}{xs xs':List Value}(h:W.ownsRow B e s v n xs)(U:W.ownsRow B' e' s' v' n' xs')(T:e≠e')(D:v'.ownBlock=some g):v.ownBlock≠some g:=by
 intro hv;rcases h.2 with⟨rfl,_⟩|⟨g1,cap,Y,rfl,_,Z,_⟩;·simp[Value.ownBlock] at hv
 ·rcases U.2 with⟨rfl,_⟩|⟨g2,I,J,rfl,_,C,_⟩;·simp[Value.ownBlock] at D
  ·simp only[Value.ownBlock,ahf] at hv D;subst hv;subst D;rw[Z] at C;simp only[ahf,ayd] at C;exact T C.2.1
end Go.Proofs.YtclgigmgbebhgaaGreatDoor
namespace Go.Proofs.YtclgigmgbebhgaaGreatDoor.ZX
open Tryz
open Go Go.Proofs Go.RowKit
structure YO where
 (a o m v:Int)
structure Zo where
 name:ByteArray
 (k n:Int)
 conds:List YO
structure PSt where
 (k n:Int)
 x:Bool
 rules:List Zo
def iZ(c:UInt8):Bool:=(decide (97<=c.toNat)&&decide (c.toNat<=122)) || (decide (48<=c.toNat)&&decide (c.toNat<=57)) || c.toNat == 95
def R3(s:ByteArray):Bool:=
 decide (s.size<=30)&&(match s.data.toList with|[]=>false|c::_=>decide (97<=c.toNat)&&decide (c.toNat<=122)) && !(s.toList == [100,101,102,97,117,108,116]) && !(s.toList == [120,51,50])&&s.data.toList.all iZ
theorem CU(c:UInt8):iZ c=true↔Z4.cw c.toNat:=by
 unfold iZ Z4.cw;simp only[asg,aef,adf,ahc];constructor
 ·rintro((h|h)|h);·exact .inl h
  ·exact .inr (.inl h)
  ·exact .inr (.inr h)
 ·rintro(h|h|h);·exact .inl (.inl h)
  ·exact .inl (.inr h)
  ·exact .inr h
theorem uv(s:ByteArray):R3 s=true↔Z4.YC s:=by
 have hl:s.data.toList.length=s.size:=ane;have C:(s.data.toList.all iZ=true)↔∀j (h:j<s.size),Z4.cw (s[j]'h).toNat:=by
  rw[ajg];constructor;·intro h j I;exact(CU _).1 (h _ (List.getElem_mem (by rw[hl];exact I)))
  ·intro h c hc;obtain⟨j,I,rfl⟩:=aid.1 hc;exact(CU _).2 (h j (by rw[<-hl];exact I))
 have T:(match s.data.toList with|[]=>false|c::_=>decide (97<=c.toNat)&&decide (c.toNat<=122))=true↔∃h:0<s.size,97<=(s[0]'h).toNat/\(s[0]'h).toNat<=122:=by
  constructor
  ·intro h
   have h0:0<s.size:=by
    rw[<-hl];cases he:s.data.toList with
    |nil=>rw[he] at h;cases h
    |cons c r=>simp
   have e:s.data.toList=s[0]'h0::s.data.toList.drop 1:=by
    conv=>lhs;rw[<-auf (l:=s.data.toList)]
    rw[auc (by rw[hl];exact h0)];rfl
   rw[e] at h;refine⟨h0,?_⟩;simpa using h
  ·rintro⟨h0,h⟩
   have e:s.data.toList=s[0]'h0::s.data.toList.drop 1:=by
    conv=>lhs;rw[<-auf (l:=s.data.toList)]
    rw[auc (by rw[hl];exact h0)];rfl
   rw[e];simpa using h
 unfold R3 Z4.YC;simp only[aef,adf,Bool.not_eq_true',af,ne_eq,C,T];constructor;·rintro⟨⟨⟨⟨Z,D⟩,J⟩,Y⟩,U⟩;exact⟨Z,D,J,Y,U⟩
 ·rintro⟨Z,D,J,Y,U⟩;exact⟨⟨⟨⟨Z,D⟩,J⟩,Y⟩,U⟩
def ao1(e:Int):Int:=if e=4 then 13 else e
def ifB:List UInt8:=[105,102]
def aC6:List UInt8:=[97,110,100]
def ao2(acc:List YO):List UInt8:=if acc.length=0 then ifB else aC6
def ur(acc:List YO)(w0:ByteArray)(r:List ByteArray):Int ⊕ (List YO×List ByteArray):=
 if (w0.toList == ao2 acc)=false then .inl 13
 else if 6<=acc.length then .inl 3
 else if (ZJ.Up r).e≠0 then .inl (ao1 (ZJ.Up r).e)
 else .inr (acc++[⟨(ZJ.Up r).a,(ZJ.Up r).o,(ZJ.Up r).m,(ZJ.Up r).v⟩],r.drop (ZJ.Up r).n.toNat)
end Go.Proofs.YtclgigmgbebhgaaGreatDoor.ZX
namespace Go.Proofs.YtclgigmgbebhgaaGreatDoor.ZJ
open Tryz
open Go Go.Proofs Go.RowKit
def Yy(n:Nat):ByteArray:=⟨(Lib.decDigits n).toArray⟩
theorem MR(n:Nat)(h:n<18446744073709551616):(Yy n).size<=20:=by
 have C:=Lib.nDigits_le20 n h;rw[<-Lib.decDigits_length] at C;exact C
def WL(a:Nat)(o:Int)(m v:Nat):List ByteArray:=
 if o=7 then [⟨#[97]⟩++Yy a,X2 7,Yy m,⟨#[61,61]⟩,Yy v] else [⟨#[97]⟩++Yy a,X2 o,Yy v]
def W6(a:Nat)(o:Int)(m v:Nat):ByteArray:=⟨(Lib.join ((WL a o m v).map (·.data.toList)) [32]).toArray⟩
theorem xY(o:Int):(X2 o).size<=2:=by
 unfold X2
 repeat' split
 all_goals decide
theorem NG(a:Nat)(h:a<=5):(Yy a).size=1:=by
 have:a=0\/a=1\/a=2\/a=3\/a=4\/a=5:=jO;rcases this with rfl|rfl|rfl|rfl|rfl|rfl<;>decide+kernel
theorem jc(x y:List UInt8)(zs:List (List UInt8)):Lib.join (x::y::zs) [32]=x++32::Lib.join (y::zs) [32]:=by simp[Lib.join]
theorem j1(x:List UInt8):Lib.join [x] [32]=x:=by simp[Lib.join]
theorem MP(a:Nat)(o:Int)(m v:Nat)(ha:a<=5)(hm:m<18446744073709551616)(hv:v<18446744073709551616):(W6 a o m v).size<=60:=by
 have Y:=MR m hm;have J:=MR v hv;have D:=NG a ha;have U:=xY o;have T:=xY 7;have e:∀x:ByteArray,x.data.toList.length=x.size:=λx=>ane
 have C:((⟨#[97]⟩:ByteArray)++Yy a).size=2:=by rw[ate,D];rfl
 have I:(⟨#[61,61]⟩:ByteArray).size=2:=rfl;show(Lib.join ((WL a o m v).map (·.data.toList)) [32]).toArray.size<=60;rw[aic];unfold WL;split;·simp only[aed,aqb,jc,j1,ay,e,C,I,ai,acg];omega
 ·simp only[aed,aqb,jc,j1,ay,e,C,ai,acg];omega
end Go.Proofs.YtclgigmgbebhgaaGreatDoor.ZJ
namespace Go.Proofs.YtclgigmgbebhgaaGreatDoor.ZX
open Tryz
open Go Go.Proofs Go.RowKit
variable {xs:List Value} {tr:Nat} {o:Obj} {v':Value} {W W':World}
def wB(c:UInt8):Bool:=okB c && !oL c&&c != 35
def XJ(c:YO):Bool:=ZJ.Yf c.a c.o c.m
def Wh(r:Zo):Bool:=R3 r.name&&(Yk.Zu r.k r.n&&(decide (r.conds.length<=6)&&r.conds.all XJ))
def CT(p:PSt):Bool:=Yk.Zu p.k p.n&&(decide (p.rules.length<=500)&&p.rules.all Wh)
def WK(c:YO):Prop:=(0<=c.m/\c.m<18446744073709551616)/\(0<=c.v/\c.v<18446744073709551616)
theorem Aa(s:ByteArray):Z4.Pm ⟨s,-1,-1,-1,-1,-1,0,0⟩:=by
 refine⟨λa ha=> ?_,?_⟩
 ·have:a=0\/a=1\/a=2\/a=3\/a=4:=by omega
  rcases this with rfl|rfl|rfl|rfl|rfl<;>exact(by decide:(-1:Int)<=-1/\(-1:Int)<=1073741823)
 ·unfold Z4.Pn;simp
theorem uq{s:ByteArray}{v:Bool}(h:v=true↔Z4.YC s):v=R3 s:=by
 rw[<-uv] at h;rw[ajd];exact h
theorem zZ(s:ByteArray)(w:World)(hs:s.size<=1000000):Calls prog 127 #[.string s] w λe w'=>e=.returned (.bool (R3 s))/\Below w.heap.size w w':=
 (Z4.GX s w jO).mono (by rintro e w' ⟨v,rfl,hv,hb⟩;exact⟨by rw[uq hv],hb⟩)
theorem CS(s:ByteArray)(w:World):Calls prog 128 #[.agg #[.string s,.int .i64 (-1),.int .i64 (-1),.int .i64 (-1),.int .i64 (-1),.int .i64 (-1),.int .i64 0,.int .i64 0]] w λe w'=>e=.returned (.bool true)/\Below w.heap.size w w':=
 (Z4.Sn ⟨s,-1,-1,-1,-1,-1,0,0⟩ w).mono (by rintro e w' ⟨v,rfl,hv,hb⟩;exact⟨by rw[hv.2 (Aa s)],hb⟩)
theorem QV{w wx:World}{a:Addr}{v:Value}(hb:Below w.heap.size w wx)(h:w.cell? a=some v):wx.cell? a=some v:=(hb.cell (afg _ _ h)).trans h
theorem GW {B:Nat}{t:TypeId}{cs:Array Value}(h:Hid (Z7 W B t cs))(hb:Below W.heap.size W W'):Hid (Z7 W' B t cs):=h.below hb h.lt
theorem zY(s:ByteArray)(hs:s.size<=1000000)(B:Nat)(w:World)(T:Z7 w B 40 #[.string s,.int .i64 (-1),.int .i64 (-1),.int .i64 (-1),.int .i64 (-1),.int .i64 (-1),.int .i64 0,.int .i64 0]):
 Calls prog 76 #[.slice (some ⟨B,0,none⟩) 1 1] w λe w'=>(∃i:Int,e=.returned (.tuple #[.int .i64 i,.int .i64 (if R3 s=true then 0 else 13)]))/\Below w.heap.size w w':=by
 have c0:=T.cell 0;have c1:=T.cell 1;have c2:=T.cell 2;have c3:=T.cell 3;have c4:=T.cell 4;have c5:=T.cell 5;have c6:=T.cell 6;have c7:=T.cell 7;have hBl:=T.lt;simp only[au,aM,aH] at c0 c1 c2 c3 c4 c5 c6 c7;have Jj:= @aog prog;have HSN:=aT (λW=>zZ s W hs);have HSR:=aT (λW=>CS s W);have i0:∀w,(Instr.index 38 (.agg #[.int .i64 (-1),.int .i64 (-1),.int .i64 (-1),.int .i64 (-1),.int .i64 (-1)]) (.int .i64 0)).run prog w=.ok (.int .i64 (-1)) w:=λ_=>jK
 have i1:∀w,(Instr.index 38 (.agg #[.int .i64 (-1),.int .i64 (-1),.int .i64 (-1),.int .i64 (-1),.int .i64 (-1)]) (.int .i64 1)).run prog w=.ok (.int .i64 (-1)) w:=λ_=>jK
 have i2:∀w,(Instr.index 38 (.agg #[.int .i64 (-1),.int .i64 (-1),.int .i64 (-1),.int .i64 (-1),.int .i64 (-1)]) (.int .i64 2)).run prog w=.ok (.int .i64 (-1)) w:=λ_=>jK
 have i3:∀w,(Instr.index 38 (.agg #[.int .i64 (-1),.int .i64 (-1),.int .i64 (-1),.int .i64 (-1),.int .i64 (-1)]) (.int .i64 3)).run prog w=.ok (.int .i64 (-1)) w:=λ_=>jK
 have i4:∀w,(Instr.index 38 (.agg #[.int .i64 (-1),.int .i64 (-1),.int .i64 (-1),.int .i64 (-1),.int .i64 (-1)]) (.int .i64 4)).run prog w=.ok (.int .i64 (-1)) w:=λ_=>jK
 clear T;generalize R3 s=nb at*;go_enter func76,ntmps76;go_upto_region 5 with fail;have Y:=aT ((aG w.heap.size w).alloc (aR _) (.map #[] 0));have D:Below w.heap.size w (w.alloc (.map #[] 0)):=Y;have q0:=QV D c0;have q1:=QV D c1;have q2:=QV D c2;have q3:=QV D c3;have q4:=QV D c4;have q5:=QV D c5;have q6:=QV D c6;have q7:=QV D c7;clear c0 c1 c2 c3 c4 c5 c6 c7 D Jj;generalize w.alloc (.map #[] 0)=W1 at*
 go_loopw [16] (λU wr=>(U=.int .i64 0/\W1=wr)\/(U=.int .i64 1/\nb=true/\Hid (Below w.heap.size w wr))) (λU _=>1-(intOf U).toNat)
 case atStart=>exact .inl ⟨rfl,rfl⟩
 case round=>
  rcases hrel with⟨rfl,rfl⟩|⟨rfl,vO,HB⟩
  ·have HI:=aT (Z7.new W1 40 #[.string s,.int .i64 (-1),.int .i64 (-1),.int .i64 (-1),.int .i64 (-1),.int .i64 (-1),.int .i64 0,.int .i64 0]);have Z:=aT (Y.alloc Y.size (.cells #[.string s,.int .i64 (-1),.int .i64 (-1),.int .i64 (-1),.int .i64 (-1),.int .i64 (-1),.int .i64 0,.int .i64 0] 40));go_upto_region 8 with fail;clear q0 q1 q2 q3 q4 q5 q6 q7;generalize W1.alloc (.cells #[.string s,.int .i64 (-1),.int .i64 (-1),.int .i64 (-1),.int .i64 (-1),.int .i64 (-1),.int .i64 0,.int .i64 0] 40)=W2 at*;generalize W1.heap.size=IB at*;have d0:=HI.cell 0;simp only[au,aM,aH] at d0;go_wp2_with fail;refine(HSN _).mono ?_;rintro e w3 ⟨rfl,hb3⟩;have HI3:=GW HI hb3;have I:=aT (Z.trans (hb3.mono Z.size));clear hb3 HI Z Y d0 HSN;cases nb with
   |false=>
    go_wp2;go_ret2;exact⟨⟨0,rfl⟩,I⟩
   |true=>
    go_upto_region 10 with fail;go_quiet (fail);have C:Hid (Z7 (w3.drewN nq) IB 40 #[.string s,.int .i64 (-1),.int .i64 (-1),.int .i64 (-1),.int .i64 (-1),.int .i64 (-1),.int .i64 0,.int .i64 0]):=HI3;have Ni:Hid (Below w.heap.size w (w3.drewN nq)):=⟨I.os,I.tape,I.output,I.size,I.block⟩;clear HI3 I;generalize w3.drewN nq=w4 at*;have d0:=C.cell 0;have d1:=C.cell 1;have d2:=C.cell 2;have d3:=C.cell 3;have d4:=C.cell 4;have d5:=C.cell 5;have d6:=C.cell 6;have d7:=C.cell 7;simp only[au,aM,aH] at d0 d1 d2 d3 d4 d5 d6 d7;go_wp2_with fail;refine(HSR _).mono ?_;rintro e w5 ⟨rfl,Da⟩;have J:=GW C Da;have tH:=aT (Ni.trans (Da.mono Ni.size));clear Da C Ni d0 d1 d2 d3 d4 d5 d6 d7 HSR;have d1:=J.cell 1;have d2:=J.cell 2;have d3:=J.cell 3;have d4:=J.cell 4;have d5:=J.cell 5;have d6:=J.cell 6;simp only[au,aM,aH] at d1 d2 d3 d4 d5 d6;go_upto_region 17 with fail;go_loopg [60] 6 (λgg s60 wx=>w5=wx/\∃a:Nat,a<=5/\5-a<gg/\s60=.int .i64 a);case atStart=>exact⟨rfl,0,jO,jO,rfl⟩
    case round=>
     obtain⟨rfl,a,ha,hg,rfl⟩:=hrel;have:a=0\/a=1\/a=2\/a=3\/a=4\/a=5:=jO;rcases this with rfl|rfl|rfl|rfl|rfl|rfl
     ·go_wp2;go_roundg 5;case measure=>omega
      case rel=>exact⟨rfl,1,jO,jO,rfl⟩
     ·go_wp2;go_roundg 4;case measure=>omega
      case rel=>exact⟨rfl,2,jO,jO,rfl⟩
     ·go_wp2;go_roundg 3;case measure=>omega
      case rel=>exact⟨rfl,3,jO,jO,rfl⟩
     ·go_wp2;go_roundg 2;case measure=>omega
      case rel=>exact⟨rfl,4,jO,jO,rfl⟩
     ·go_wp2;go_roundg 1;case measure=>omega
      case rel=>exact⟨rfl,5,jO,jO,rfl⟩
     ·go_wp2;go_roundw;case rel=>first|exact .inr ⟨trivial,rfl,tH⟩|exact .inr ⟨rfl,trivial,tH⟩|exact .inr ⟨trivial,tH⟩
      case measure=>simp[intOf]
  ·subst vO;go_wp2;go_ret2;exact⟨⟨0,rfl⟩,HB⟩
theorem zX(s:ByteArray)(hs:s.size<=1000000)(w:World):Calls prog 204 #[.string s] w λe w'=>e=.returned (.bool (R3 s))/\Below w.heap.size w w':=by
 have hr:=zY s hs w.heap.size (w.alloc (.cells #[.string s,.int .i64 (-1),.int .i64 (-1),.int .i64 (-1),.int .i64 (-1),.int .i64 (-1),.int .i64 0,.int .i64 0] 40)) (Z7.new w _ _);have J:=aT hr;have I:=aT ((aG w.heap.size w).alloc (aR _) (.cells #[.string s,.int .i64 (-1),.int .i64 (-1),.int .i64 (-1),.int .i64 (-1),.int .i64 (-1),.int .i64 0,.int .i64 0] 40));clear hr;generalize R3 s=nb at*;go_enter func204,ntmps204;go_wp2_with fail;refine J.mono ?_;rintro e T ⟨⟨i,rfl⟩,C⟩;have D:=aT (I.trans (C.mono I.size));clear C I J;cases nb with
 |false=>
  rw[aN jD];go_wp2;go_ret;exact⟨rfl,D⟩
 |true=>
  rw[aF rfl];go_wp2;go_ret;exact⟨rfl,D⟩
def xX(c:YO):List Value:=[.int .i64 c.a,.int .i64 c.o,.int .u64 c.m,.int .u64 c.v]
def We(l:List YO):List Value:=l.flatMap xX
theorem zW(l:List YO)(x:YO):We (l++[x])=We l++xX x:=by unfold We;rw[aca];simp
def GV(r:Zo)(u:Value):List Value:=[.string r.name,.int .i64 r.k,.int .i64 r.n,u]
def VF:List Zo->List Value->List Value
 |[],_=>[]
 |_::_,[]=>[]
 |r::rs,u::us=>GV r u++VF rs us
theorem JD:∀(rs:List Zo) (us:List Value) (r:Zo) (u:Value),us.length=rs.length->VF (rs++[r]) (us++[u])=VF rs us++GV r u
 |[],[],r,u,_=>by simp[VF]
 |r0::rs,u0::us,r,u,h=>by show GV r0 u0++VF (rs++[r]) (us++[u])=GV r0 u0++VF rs us++GV r u;rw[JD rs us r u (by simpa using h),aag]
def Zg(tr tc lo:Nat)(W:World)(v:Value)(rs:List Zo):Prop:=
 ∃us:List Value,us.length=rs.length/\W.ownsRow lo tr 4 v rs.length (VF rs us)/\∀(j:Nat) (u:Value) (r:Zo),us[j]? =some u->rs[j]? =some r->W.ownsRow lo tc 4 u r.conds.length (We r.conds)
theorem Zg.nil(C tc lo:Nat)(W:World):Zg C tc lo W (.slice none 0 0) []:=⟨[],rfl,anb _ _ _ _,λj u r h=>by simp at h⟩
theorem Zg.slice{tc lo:Nat} {v:Value}{rs:List Zo}(h:Zg tr tc lo W v rs):∃a c,v=.slice a rs.length c:=by
 obtain⟨us,_,D,_⟩:=h;rcases D.2 with⟨h,C⟩|⟨g,c,_,h,_⟩;·exact⟨none,0,by rw[h,C]⟩
 ·exact⟨_,_,h⟩
theorem Zg.imp{tc lo:Nat} {v:Value}{rs:List Zo}(h:Zg tr tc lo W v rs)(hi:∀e v n xs,W.ownsRow lo e 4 v n xs->W'.ownsRow lo e 4 v n xs):Zg tr tc lo W' v rs:=by
 obtain⟨us,I,D,C⟩:=h;exact⟨us,I,hi _ _ _ _ D,λj u r hu hr=>hi _ _ _ _ (C j u r hu hr)⟩
theorem zV {B e size n:Nat}{v:Value} (h:W.ownsRow B e size v n xs)(hb:Below W.heap.size W W'):W'.ownsRow B e size v n xs:=by
 refine⟨h.1,?_⟩;rcases h.2 with C|⟨g,cap,D,T,C,I,J⟩;·exact .inl C
 ·exact .inr ⟨g,cap,D,T,C,(hb.block g (aac.1 I).1).trans I,J⟩
theorem Zg.below{tc lo:Nat} {v:Value}{rs:List Zo}(h:Zg tr tc lo W v rs)(hb:Below W.heap.size W W'):Zg tr tc lo W' v rs:=h.imp (λ_ _ _ _ h=>zV h hb)
abbrev iY:Nat:=91
abbrev TCd:Nat:=68
theorem X6{P:Program}(w:World){o:Oper}{a:Act}{K:Act->World->Prop}{Q:Exit->Act->World->Prop}(s x:Operand)(t:TypeId)
 (ho:o.op=.call {callee:=.builtin .append,args:=#[s,x],argTypes:=#[t,t]})
 (base:Nat) (e:TypeId) (i:TypeInfo) (z:Value) (size bytes:Nat) (ht:P.underlying t=some (.slice e)) (hi:P.info? e=some i) (hz:i.zero=some z)
 (I:i.size=size) (Y:i.bytes=bytes) (U:z.cells.size=size) (Z:0<size)
 (v:Value) (n:Nat) (xs:List Value) (hs:a.eval s=v) (T:w.ownsRow base e size v n xs)
 (ad:Addr) (m c:Nat) (news:List Value) (hx:a.eval x=.slice (some ad) m c) (hl:news.length=m*size) (D:∀j u,news[j]? =some u->w.cell? (ad.add j)=some u) (h1:∀u∈news,u.oneCell'=true)
 (h63:n+m<=maxLen) (C:(n+m)*bytes<=140737488355328) (J:base<=w.heap.size)
 (h:∀v' w',w'.ownsRow base e size v' (n+m) (xs++news)->w.grownBy w' v.ownBlock->K (a.put o.dst v') w'):Oper.wp P o a w K Q:=by
 obtain⟨v',w',hr,h2,h3,_,_⟩:=run_append_own (P:=P) w base t o.type e i z size bytes ht hi hz I Y U Z v n xs T ad m c news hl D h1 h63 C J;unfold Oper.wp execOp;simp only[ho,resolve,invoke,builtin,Sem.run_bind,Sem.run_pure,awe,List.map_toArray,aed,aqb,hs,hx,hr];exact h v' w' h2 h3
theorem CQ {B e size n g j:Nat}{v u:Value} (h:W.ownsRow B e size v n xs)(Y:g<B):(W.setCell ⟨g,j,none⟩ u).ownsRow B e size v n xs:=by
 refine⟨h.1,?_⟩;rcases h.2 with C|⟨I,cap,D,U,C,J,T⟩;·exact .inl C
 ·exact .inr ⟨I,cap,D,U,C,(afc W ⟨g,j,none⟩ u I (show I≠g from jO)).trans J,T⟩
theorem GU {B B' e e' n n':Nat}{v:Value}{xs':List Value} (h:W.ownsRow B e 4 v n xs)(h':W.ownsRow B' e' 4 v' n' xs')(Z:e≠e')(D:(W.alloc o).grownBy W' v'.ownBlock):W'.ownsRow B e 4 v n xs:=by
 have J:∀g,v'.ownBlock=some g->v.ownBlock≠some g:=λg D=>Ab h h' Z D
 have Y:=h.alloc o;refine⟨Y.1,?_⟩;rcases Y.2 with C|⟨g,cap,I,U,C,T,h4⟩;·exact .inl C
 ·exact .inr ⟨g,cap,I,U,C,(D.block g (aac.1 T).1 (λe=>J g e.symm (by rw[U];rfl))).trans T,h4⟩
theorem zU{R:Nat}{wr w7:World}{v uc:Value}{rs:List Zo}{us:List Value}{s:ByteArray}{K N:Int}{acc:List YO} (J:us.length=rs.length)(T:wr.ownsRow (R+1) iY 4 v rs.length (VF rs us))(Y:∀(j:Nat) (u:Value) (r:Zo),us[j]? =some u->rs[j]? =some r->wr.ownsRow (R+1) TCd 4 u r.conds.length (We r.conds))
 (hu:wr.ownsRow (R+1) TCd 4 uc acc.length (We acc)) (U:(wr.alloc o).grownBy w7 v.ownBlock) (D:w7.ownsRow (R+1) iY 4 v' (rs.length+1) (VF rs us++[.string s,.int .i64 K,.int .i64 N,uc])):Zg iY TCd (R+1) (w7.setCell ⟨R,3,none⟩ v') v' (rs++[⟨s,K,N,acc⟩]):=by
 refine⟨us++[uc],by simp[J],?_,λj u r C hr=> ?_⟩;·rw[JD _ _ _ _ J,ay];exact CQ D (amd _)
 ·refine CQ ?_ (amd _);by_cases I:j<us.length;·rw[abc I] at C;rw[abc jO] at hr;exact GU (Y j u r C hr) T jD U
  ·rw[aad jO] at C;rw[aad jO] at hr
   have e:j=us.length:=by have:=(ak.1 C).1;simp at this;omega
   subst e;rw[J] at hr;simp at C hr;subst C hr;exact GU hu T jD U
def ao3(k n:Int)(x:Bool)(vr:Value):Value:=.agg #[.int .i64 k,.int .i64 n,.bool x,vr]
theorem NF{a:World}(h:Hid (Below a.heap.size a W))(hb:Below W.heap.size W W'):Hid (Below a.heap.size a W'):=h.trans (hb.mono h.size)
theorem CP:∀(l:List YO) (k:Nat) (c:YO),l[k]? =some c->(We l)[k*4]? =some (.int .i64 c.a)/\(We l)[k*4+1]? =some (.int .i64 c.o)/\(We l)[k*4+2]? =some (.int .u64 c.m)/\(We l)[k*4+3]? =some (.int .u64 c.v)
 |x::l,0,c,h=>by simp at h;subst h;exact⟨rfl,rfl,rfl,rfl⟩
 |x::l,k+1,c,h=>by
  have C:=CP l k c (by simpa using h);have e:∀j,(We (x::l))[(k+1)*4+j]? =(We l)[k*4+j]? :=λj=>by
   show(xX x++We l)[(k+1)*4+j]? =_;rw[aad (by show 4<=_;omega)]
   congr 1
   show(k+1)*4+j-4=_;omega
  exact⟨(e 0).trans C.1,(e 1).trans C.2.1,(e 2).trans C.2.2.1,(e 3).trans C.2.2.2⟩
theorem CO:∀(rs:List Zo) (us:List Value) (i:Nat) (r:Zo) (u:Value),rs[i]? =some r->us[i]? =some u->(VF rs us)[i*4]? =some (.string r.name)/\(VF rs us)[i*4+1]? =some (.int .i64 r.k)/\(VF rs us)[i*4+2]? =some (.int .i64 r.n)/\(VF rs us)[i*4+3]? =some u
 |x::rs,v::us,0,r,u,h,h2=>by simp at h h2;subst h h2;exact⟨rfl,rfl,rfl,rfl⟩
 |x::rs,v::us,i+1,r,u,h,h2=>by
  have C:=CO rs us i r u (by simpa using h) (by simpa using h2);have e:∀j,(VF (x::rs) (v::us))[(i+1)*4+j]? =(VF rs us)[i*4+j]? :=λj=>by
   show(GV x v++VF rs us)[(i+1)*4+j]? =_;rw[aad (by show 4<=_;omega)]
   congr 1
   show(i+1)*4+j-4=_;omega
  exact⟨(e 0).trans C.1,(e 1).trans C.2.1,(e 2).trans C.2.2.1,(e 3).trans C.2.2.2⟩
def VN(N:Nat)(W:World)(ua:Option Addr)(cs:List YO):Prop:=
 ∀(k:Nat) (c:YO),cs[k]? =some c->∃gu,ua=some ⟨gu,0,none⟩/\gu<N/\W.cell? ⟨gu,k*4,none⟩=some (.int .i64 c.a)/\W.cell? ⟨gu,k*4+1,none⟩=some (.int .i64 c.o)/\W.cell? ⟨gu,k*4+2,none⟩=some (.int .u64 c.m)/\W.cell? ⟨gu,k*4+3,none⟩=some (.int .u64 c.v)
theorem VN.below{N M:Nat} {ua:Option Addr}{cs:List YO}(h:VN N W ua cs)(hb:Below M W W')(hN:N<=M):VN N W' ua cs:=by
 intro k c hk;obtain⟨C,e,hl,U,T,J,I⟩:=h k c hk;have D:∀j v,W.cell? ⟨C,j,none⟩=some v->W'.cell? ⟨C,j,none⟩=some v:=λj v hv=>(hb.cell (p:=⟨C,j,none⟩) (adg hl hN)).trans hv
 exact⟨C,e,hl,D _ _ U,D _ _ T,D _ _ J,D _ _ I⟩
theorem CN{tc lo:Nat} {a:Option Addr}{n c:Nat}{rs:List Zo}(h:Zg tr tc lo W (.slice a n c) rs){i:Nat}{r:Zo}(hr:rs[i]? =some r):
 ∃g ua uc,a=some ⟨g,0,none⟩/\g<W.heap.size/\W.cell? ⟨g,i*4,none⟩=some (.string r.name)/\W.cell? ⟨g,i*4+1,none⟩=some (.int .i64 r.k)/\W.cell? ⟨g,i*4+2,none⟩=some (.int .i64 r.n)/\W.cell? ⟨g,i*4+3,none⟩=some (.slice ua r.conds.length uc)/\VN W.heap.size W ua r.conds:=by
 obtain⟨us,h1,D,h3⟩:=h;have hil:=(ak.1 hr).1;obtain⟨u,hu⟩:∃u,us[i]? =some u:=⟨_,aL jO⟩;obtain⟨c0,c1,c2,c3⟩:=CO rs us i r u hr hu;have hw:=h3 i u r hu hr;rcases D.2 with⟨hv,h0⟩|⟨g,cap,cur,hv,_,Z,_⟩;·omega
 ·cases hv;have Y:=D.cellAt (i*4) jO;have I:=D.cellAt (i*4+1) jO;have J:=D.cellAt (i*4+2) jO;have U:=D.cellAt (i*4+3) jO;rw[c0] at Y;rw[c1] at I;rw[c2] at J;rw[c3] at U;rcases hw.2 with⟨rfl,h0⟩|⟨gu,C,aK6,rfl,_,T,hcu,_⟩;·refine⟨g,none,0,rfl,(aac.1 Z).1,Y,I,J,by rw[U,h0],λk c hk=> ?_⟩;have:=(ak.1 hk).1;omega
  ·refine⟨g,some ⟨gu,0,none⟩,C,rfl,(aac.1 Z).1,Y,I,J,U,λk c hk=> ?_⟩;have hkl:=(ak.1 hk).1;obtain⟨k0,k1,k2,k3⟩:=CP r.conds k c hk;exact⟨gu,rfl,(aac.1 T).1,(hw.cellAt _ jO).trans k0,(hw.cellAt _ jO).trans k1,(hw.cellAt _ jO).trans k2,(hw.cellAt _ jO).trans k3⟩
end Go.Proofs.YtclgigmgbebhgaaGreatDoor.ZX
