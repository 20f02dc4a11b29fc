/- TopOther: part 10: TopKeysS TopN8 TopN9 TopRes8. -/
import Derived.Shelf.SlIter.Sorted
import Derived.Test.YtclgigmgbebhgaaGreatDoorO09
set_option linter.unusedVariables false
set_option linter.unusedSimpArgs false
set_option maxRecDepth 100000
set_option maxHeartbeats 16000000
namespace Go.Proofs.YtclgigmgbebhgaaGreatDoor
open Tryz
open Go Go.Proofs Go.RowKit Go.Maps Go.WideMaps Go.ChangeMaps Go.Sort Go.Shelf
variable {ks:List ByteArray} {W:World}
theorem rH{s:ByteArray}(hs:s.size<=1000000):keyOf prog 9 (.string s)=some (.string s.data.toList):=by
 have h:s.size<=maxLen:=by unfold maxLen;omega
 unfold keyOf mapKey;simp[underlying9,h]
theorem vZ {B:Nat}{S:List (Value×Value)} (h:ZB W B S)(hk:S.map (·.1)=ks.map Value.string)(hw:∀s∈ks,s.size<=1000000)(hl:ks.length<=1000000):∃D:DataW Unit,W.ownsMap prog 9 Rc B ks.length D/\(strKeys D).Perm (ks.map (·.data.toList))/\Maps.size D=ks.length:=by
 have hlen:S.length=ks.length:=by have:=aq List.length hk;simpa using this
 have hS:∀p∈S,∃n∈ks,p.1=.string n:=λp hp=>by
  have:p.1∈ks.map Value.string:=by rw[<-hk];exact ai.2 ⟨p,hp,rfl⟩
  obtain⟨n,hn,e⟩:=ai.1 this;exact⟨n,hn,e.symm⟩
 obtain⟨D,A,C⟩:=h.owns (P:=prog) (k:=9) (λp hp=>by obtain⟨n,hn,e⟩:=hS p hp;exact⟨_,by rw[e];exact rH (hw n hn)⟩) (by unfold maxLen;omega)
 rw[hlen] at A;refine⟨.map D,A,?_,?_⟩
 ·show(D.map λp=>Go.strOf p.1).Perm _;refine(C.map _).trans (List.Perm.of_eq ?_);rw[akb]
  have e:∀p∈S,(λq:Lit×DataW Unit=>Go.strOf q.1) (((keyOf prog 9 p.1).getD (.bool false),.lit (.bool true)))=(match p.1 with | .string n=>n.data.toList|_=>[]):=λp hp=>by obtain⟨n,hn,e⟩:=hS p hp;rw[e,rH (hw n hn)];rfl
  rw[asf (g:=λp:Value×Value=>(match p.1 with | .string n=>n.data.toList|_=>[])) (λp hp=>e p hp)];have e2:S.map (λp:Value×Value=>(match p.1 with | .string n=>n.data.toList|_=>[]))=(S.map (·.1)).map (λv:Value=>(match v with | .string n=>n.data.toList|_=>[])):=by rw[akb];rfl
  rw[e2,hk,akb];rfl
 ·show D.length=_;rw[C.length_eq,aad,hlen]
theorem rG(m:Nat):AnyZ.SortsIn prog Tryz.PK Fence.wide m:=
 ⟨λblk off cap ss W C hblk A=>aja.2 (AnyM.slices_Sort_string Tryz.sortStr blk off cap ss W C hblk A),
  λp cap W=>aja.2 (AnyM.slices_Sort_string_none Tryz.sortStr p cap W)⟩
theorem vY(A:Option Nat)(W:World):Calls prog 89 #[.map A] W λe w'=>e=.returned (.func (.func 142) #[] #[.pointer (some ⟨W.heap.size,0,none⟩)])/\w'=W.alloc (.cells #[.map A] 191):=
 (aja (n:=5)).1 (AnyZ.keys_in Tryz.yZ Fence.wide 5 trivial rfl A W)
def kN(ks:List ByteArray)(W:World)(e:Ending)(w':World):Prop:=∃(v:Value) (ss:List ByteArray),e=.returned v/\ss.Perm ks/\w'.ownsRow W.heap.size 9 1 v ss.length (ss.map Value.string)/\Below W.heap.size W w'
theorem DI {B:Nat}{S:List (Value×Value)} (h:ZB W B S)(hk:S.map (·.1)=ks.map Value.string)(hw:∀s∈ks,s.size<=1000000)(hl:ks.length<=1000000):
 Calls prog 88 #[.func (.func 142) #[] #[.pointer (some ⟨W.heap.size,0,none⟩)]] (W.alloc (.cells #[.map (some B)] 191)) (kN ks W):=by
 obtain⟨D,J,h2,T⟩:=vZ h hk hw hl;have I:=J.lt
 have C:SeqGives Fence.wide 2 prog 142 #[.pointer (some ⟨W.heap.size,0,none⟩)] encStr (λss=>ss.Perm (strKeys D)) (Maps.size D) (W.alloc (.cells #[.map (some B)] 191)):=
  AnyZ.keys_gives (ρ:=Tryz.MM) {Tryz.yZ with} Fence.wide _ trivial rfl jO W.heap.size B ks.length D _ jS jS (by obtain⟨es,clock,hb,Ft,hs,Z⟩:=J;exact⟨es,clock,(Below.heap_alloc _ _ B I).trans hb,Ft,hs,Z⟩)
 have cS:=AnyZ.sorted_in Tryz.wX Fence.wide 5 trivial trivial trivial trivial rfl jO (rG _) (enters_of func132 jK rfl) 142 #[.pointer (some ⟨W.heap.size,0,none⟩)] trivial (enters_of func142 jK rfl) _ _ (by rw[T];unfold maxLen;omega) (by rw[T];omega) _ C;refine((aja (n:=5)).1 cS).mono ?_;rintro e w' ⟨v,ss,rfl,hS,A,Y,hb⟩;have hp:(ss.mergeSort (λx y=>decide (x<=y))).Perm (ks.map (·.data.toList)):=(List.mergeSort_perm _ _).trans (hS.trans h2);have U:∀l:List UInt8,encStr l=.string ⟨l.toArray⟩:=λl=>rfl
 refine⟨v,(ss.mergeSort (λx y=>decide (x<=y))).map λl=>⟨l.toArray⟩,rfl,?_,?_,((aH _ W).alloc (aR _) _).trans (hb.mono jS)⟩;·have:=hp.map (λl:List UInt8=>(⟨l.toArray⟩:ByteArray));rw[akb] at this;refine this.trans (List.Perm.of_eq ?_);rw[asf (g:=id) (λs _=>by cases s;simp)];exact List.map_id _
 ·rw[aad,akb,List.length_mergeSort];exact ownsRow_base_a A jS
end Go.Proofs.YtclgigmgbebhgaaGreatDoor
namespace Go.Proofs.YtclgigmgbebhgaaGreatDoor
open Tryz
open Go Go.Proofs Go.RowKit
section
variable (cd:Int->Int->Nat)
def trO(r:NR):Z3:=(r.cs,cd r.k r.n)
def ofName(nm:ByteArray)(l:List NR):List NR:=l.filter λr=>decide (r.nm=nm)
def X1(gs:List UH)(nm:ByteArray):List NR:=gs.flatMap λG=>if G.nm=nm then G.rs else []
def Tt(pr:List NR)(gs:List UH):Prop:=∀nm,Ua ((ofName nm pr).map (trO cd)) ((X1 gs nm).map (trO cd))
structure Sn(pr:List NR)(gs:List UH):Prop where
 rs:∀G∈gs,∀r∈G.rs,r.nm=G.nm/\∃q∈pr,q.nm=r.nm/\q.k=r.k/\q.n=r.n/\r.cs.length<=q.cs.length
 ne:∀G∈gs,G.rs≠[]
 len:∀G∈gs,G.rs.length<=pr.length
 cnt:gs.length<=pr.length
variable {cd} {pr:List NR} {gs:List UH}
theorem UE(nm:ByteArray)(pr:List NR)(r:NR):ofName nm (pr++[r])=ofName nm pr++(if r.nm=nm then [r] else []):=by
 unfold ofName;rw[ave]
 congr 1
 by_cases h:r.nm=nm<;>simp[h]
theorem XW{nm:ByteArray}(h:∀G∈gs,G.nm≠nm):X1 gs nm=[]:=by
 unfold X1;rw[List.flatMap_eq_nil_iff];intro G A;rw[aN (h G A)]
theorem Nk(a b:List UH)(nm:ByteArray):X1 (a++b) nm=X1 a nm++X1 b nm:=by unfold X1;rw[acb]
theorem O5(G:UH)(b:List UH)(nm:ByteArray):X1 (G::b) nm=(if G.nm=nm then G.rs else [])++X1 b nm:=by unfold X1;rw[acd]
theorem Tt.gone(h:Tt cd pr gs){r:NR}(hr:Ub r.cs none):Tt cd (pr++[r]) gs:=by
 intro nm;rw[UE];by_cases e:r.nm=nm;·rw[aG e,acf];exact(h nm).gone hr
 ·rw[aN e,ade];exact h nm
theorem Iu{rs:List NR}{ns:List Z5}:rs.any (WA ns)=true↔Gv (rs.map (trO cd)) ns:=by
 unfold Gv;rw[alg];constructor
 ·rintro⟨r,hr,h⟩;refine⟨trO cd r,ai.2 ⟨r,hr,rfl⟩,?_⟩;unfold WA at h;have A:r.cs=[]\/r.cs=ns:=by simpa using h
  exact A
 ·rintro⟨x,hx,h⟩;obtain⟨r,hr,rfl⟩:=ai.1 hx;refine⟨r,hr,?_⟩;unfold WA;have h:r.cs=[]\/r.cs=ns:=h;simpa using h
theorem Tt.hid(h:Tt cd pr gs){r:NR}{ns:List Z5}(hr:Ub r.cs (some ns))(A:(X1 gs r.nm).any (WA ns)=true):Tt cd (pr++[r]) gs:=by
 intro nm;rw[UE];by_cases e:r.nm=nm;·subst e;rw[aG rfl,acf];exact(h r.nm).hid hr (Iu.1 A)
 ·rw[aN e,ade];exact h nm
theorem Tt.more{g1 g2:List UH}{G:UH}(h:Tt cd pr (g1++G::g2))(hn:(g1++G::g2).Pairwise (λx y=>x.nm≠y.nm)){r:NR}{ns:List Z5}(hr:Ub r.cs (some ns))(A:G.nm=r.nm)(D:G.rs.any (WA ns)=false)(gb cap:Nat)(u:Value):
 Tt cd (pr++[r]) (g1++⟨G.nm,gb,cap,G.rs++[⟨r.nm,r.k,r.n,ns⟩],G.us++[u]⟩::g2):=by
 have C:∀x∈g1,x.nm≠G.nm:=λx hx=>(afa.1 hn).2.2 x hx G jS
 have I:∀x∈g2,x.nm≠G.nm:=λx hx e=>(aha.1 (afa.1 hn).2.1).1 x hx e.symm
 intro nm;have:=h nm;rw[UE];rw[Nk,O5] at this ⊢;by_cases e:r.nm=nm;·subst e;rw[aG A,XW (λx hx=>by rw[<-A];exact C x hx),XW (λx hx=>by rw[<-A];exact I x hx),age,ade] at this;rw[aG rfl,aG A,XW (λx hx=>by rw[<-A];exact C x hx),XW (λx hx=>by rw[<-A];exact I x hx),age,ade,acf,acf];exact this.more hr (λe2=>by rw[Iu.2 e2] at D;cases D)
 ·rw[aN (by rw[A];exact e)] at this;rw[aN e,aN (show ¬G.nm=nm by rw[A];exact e),ade];exact this
theorem Tt.new(h:Tt cd pr gs){r:NR}{ns:List Z5}(hr:Ub r.cs (some ns))(hn:∀G∈gs,G.nm≠r.nm)(gb cap:Nat)(u:Value):
 Tt cd (pr++[r]) (gs++[⟨r.nm,gb,cap,[⟨r.nm,r.k,r.n,ns⟩],[u]⟩]):=by
 intro nm;have:=h nm;rw[UE,Nk,O5];by_cases e:r.nm=nm;·subst e;rw[XW hn] at this ⊢;rw[aG rfl,aG rfl,acf];have A:=this.more (ns:=ns) (code:=cd r.k r.n) hr (λ⟨x,hx,_⟩=>by cases hx);exact A
 ·rw[aN e,aN (show ¬r.nm=nm from e),ade];show Ua _ ((X1 gs nm++([]++[])).map (trO cd));rw[ade,ade];exact this
theorem Tt.nil:Tt cd [] []:=λnm=>Ua.nil
theorem Sn.step(h:Sn pr gs)(r:NR):Sn (pr++[r]) gs:=
 ⟨λG A x hx=>by obtain⟨C,q,D,I⟩:=h.rs G A x hx;exact⟨C,q,abe.2 (.inl D),I⟩,h.ne,λG A=>by rw[ay];exact Nat.le_add_right_of_le (h.len G A),by rw[ay];exact Nat.le_add_right_of_le h.cnt⟩
theorem Sn.nil:Sn [] []:=⟨λG h=>(by cases h),λG h=>(by cases h),λG h=>(by cases h),aR _⟩
theorem Sn.more{g1 g2:List UH}{G:UH}(h:Sn pr (g1++G::g2)){r:NR}{ns:List Z5}(hl:ns.length<=r.cs.length)(A:G.nm=r.nm)(gb cap:Nat)(u:Value):
 Sn (pr++[r]) (g1++⟨G.nm,gb,cap,G.rs++[⟨r.nm,r.k,r.n,ns⟩],G.us++[u]⟩::g2):=by
 have hs:=h.step r;refine⟨λX hX x hx=> ?_,λX hX=> ?_,λX hX=> ?_,?_⟩
 ·rcases abe.1 hX with hX|hX;·exact hs.rs X (by simp[hX]) x hx
  ·rcases abf.1 hX with rfl|hX
   ·rcases abe.1 hx with hx|hx;·exact hs.rs G jS x hx
    ·rw[aac.1 hx];exact⟨A.symm,r,jS,rfl,rfl,rfl,hl⟩
   ·exact hs.rs X (by simp[hX]) x hx
 ·rcases abe.1 hX with hX|hX;·exact hs.ne X (by simp[hX])
  ·rcases abf.1 hX with rfl|hX;·simp
   ·exact hs.ne X (by simp[hX])
 ·rcases abe.1 hX with hX|hX;·exact hs.len X (by simp[hX])
  ·rcases abf.1 hX with rfl|hX;·have:=h.len G jS;rw[ay,ay];simpa using this
   ·exact hs.len X (by simp[hX])
 ·have:=hs.cnt;simpa using this
theorem Sn.new(h:Sn pr gs){r:NR}{ns:List Z5}(hl:ns.length<=r.cs.length)(gb cap:Nat)(u:Value):Sn (pr++[r]) (gs++[⟨r.nm,gb,cap,[⟨r.nm,r.k,r.n,ns⟩],[u]⟩]):=by
 have hs:=h.step r;refine⟨λX hX x hx=> ?_,λX hX=> ?_,λX hX=> ?_,?_⟩
 ·rcases abe.1 hX with hX|hX;·exact hs.rs X hX x hx
  ·rw[aac.1 hX] at hx ⊢;rw[aac.1 hx];exact⟨rfl,r,jS,rfl,rfl,rfl,hl⟩
 ·rcases abe.1 hX with hX|hX;·exact hs.ne X hX
  ·rw[aac.1 hX];simp
 ·rcases abe.1 hX with hX|hX;·exact hs.len X hX
  ·rw[aac.1 hX,ay];show 1<=_+1;omega
 ·have:=h.cnt;rw[ay,ay];simpa using this
end
end Go.Proofs.YtclgigmgbebhgaaGreatDoor
namespace Go.Proofs.YtclgigmgbebhgaaGreatDoor
open Tryz
open Go Go.Proofs Go.RowKit Go.Maps Go.WideMaps Go.ChangeMaps
abbrev VZ:Nat:=51
theorem rF:(prog.info? TR).map (λi=>(i.zero,i.size,i.bytes))=some (some (.agg #[.string ⟨#[]⟩,.int .i64 0,.int .i64 0,.slice none 0 0]),4,56):=jK
structure U1(lo B P R:Nat)(cd:Int->Int->Nat)(pc:Array Value)(w:World)(pr:List NR)(gs:List UH)(W:World):Prop where
 hp:Z7 W P VZ pc
 hr:Z7 W R VZ #[.int .i64 0,.int .i64 0,.bool false,.slice none 0 0]
 Ui:U2 lo B W gs
 rE:Tt cd pr gs
 ok:Sn pr gs
 Zs:Below lo w W
 NH:lo<=B/\lo<=W.heap.size
section
variable {lo B P R:Nat} {cd:Int->Int->Nat} {pc:Array Value} {w W W':World} {pr:List NR} {gs:List UH}
theorem U1.below(h:U1 lo B P R cd pc w pr gs W)(hb:Below W.heap.size W W'):U1 lo B P R cd pc w pr gs W':=
 ⟨h.hp.below hb h.hp.lt,h.hr.below hb h.hr.lt,h.Ui.Zs hb,h.rE,h.ok,h.Zs.trans (hb.mono h.NH.2),h.NH.1,aO h.NH.2 hb.size⟩
theorem U1.drew(h:U1 lo B P R cd pc w pr gs W):U1 lo B P R cd pc w pr gs W.drew:=h.below (aH _ W).drew
theorem U1.al(h:U1 lo B P R cd pc w pr gs W)(o:Obj):U1 lo B P R cd pc w pr gs (W.alloc o):=h.below (Yl W o)
def S9(A C:Nat)(nm:ByteArray)(k n:Int)(v:Value)(W:World):Prop:=W.cell? ⟨A,0,none⟩=some (.string nm)/\W.cell? ⟨C,0,none⟩=some (.string nm)/\W.cell? ⟨C,1,none⟩=some (.int .i64 k)/\W.cell? ⟨C,2,none⟩=some (.int .i64 n)/\W.cell? ⟨C,3,none⟩=some v
theorem S9.of{A C:Nat}{nm:ByteArray}{k n:Int}{u v:Value}{X:World}(ha:Z7 X A TR #[.string nm,.int .i64 k,.int .i64 n,u])(hc:Z7 X C TR #[.string nm,.int .i64 k,.int .i64 n,v]):S9 A C nm k n v X:=by
 obtain⟨⟨a0,_,_,_⟩,_⟩:=Z8 ha;obtain⟨⟨b0,J,I,D⟩,_⟩:=Z8 hc;exact⟨a0,b0,J,I,D⟩
theorem yM{X:World}{A t:Nat}{cs:Array Value}(h:Z7 X A t cs)(hm:U2 lo B X gs):A≠B:=λe=>by
 subst e;exact KC hm.map _ _ h
def rD(lo B P R:Nat)(cd:Int->Int->Nat)(pc:Array Value)(w:World)(pr:List NR)(A C:Nat)(nm:ByteArray)(k n:Int)(v:Value)(gb cap m:Nat)(W7:World):Prop:=
 S9 A C nm k n v W7/\∃W2,(Instr.mapUpdate 191 (.map (some B)) (.string nm) (.slice (some ⟨gb,0,none⟩) m cap)).run prog W7=.ok () W2/\S9 A C nm k n v W2/\∃gs,U1 lo B P R cd pc w pr gs W2
theorem U1.more{g1 g2:List UH}{G:UH}{A C gb cap:Nat}{r:NR}{ns:List Z5}{u v:Value}{W7:World}(h:U1 lo B P R cd pc w pr (g1++G::g2) W)(ha:Z7 W A TR #[.string r.nm,.int .i64 r.k,.int .i64 r.n,u])(hc:Z7 W C TR #[.string r.nm,.int .i64 r.k,.int .i64 r.n,v])(hA:A≠G.g)(hC:C≠G.g)(Z:G.nm=r.nm)(hv:W.ownsRow lo TC 4 v ns.length (ns.flatMap cL))(hr:Ub r.cs (some ns))(hl:ns.length<=r.cs.length)(hh:G.rs.any (WA ns)=false)
 (J:W7.ownsRow lo TR 4 (.slice (some ⟨gb,0,none⟩) (G.rs.length+1) cap) (G.rs.length+1) (YG G.rs G.us++[.string r.nm,.int .i64 r.k,.int .i64 r.n,v])) (D:W.grownBy W7 (some G.g)) (Y:gb=G.g\/gb=W.heap.size):
 rD lo B P R cd pc w (pr++[r]) A C r.nm r.k r.n v gb cap (G.rs.length+1) W7:=by
 have hpG:P≠G.g:=λe=>YZ (h.Ui.rows G jS).row h.hp jD (by rw[e];rfl)
 have T:R≠G.g:=λe=>YZ (h.Ui.rows G jS).row h.hr jD (by rw[e];rfl)
 obtain⟨W2,h1,h2,I⟩:=h.Ui.more (r:=⟨r.nm,r.k,r.n,ns⟩) (u:=v) D J Y hv;have ne:∀{X:Nat},X≠G.g->some X≠some G.g:=λhx e=>hx (ax e)
 have nb:∀{X t:Nat} {cs:Array Value},Z7 W X t cs->some X≠some B:=λhx e=>yM hx h.Ui (ax e)
 have aH4:G.g<W.heap.size:=Q1 (h.Ui.rows G jS).row rfl;have hBlt:=h.Ui.map.lt;have aH5:lo<=G.g:=((h.Ui.rows G jS).row.lt G.g rfl).1;have U:Below lo W W7:=(aH lo W).grown D h.NH.2 (λk e=>by have:=ax e;omega);refine⟨S9.of (ha.kept D (ne hA)) (hc.kept D (ne hC)),W2,by rw[<-Z];exact h1,S9.of ((ha.kept D (ne hA)).kept I (nb ha)) ((hc.kept D (ne hC)).kept I (nb hc)),_,⟨(h.hp.kept D (ne hpG)).kept I (nb h.hp),(h.hr.kept D (ne T)).kept I (nb h.hr),h2,?_,h.ok.more hl Z gb cap v,(h.Zs.trans U).grown I (aO h.NH.2 D.size) (λk e=>by have:=ax e;have:=h.NH.1;omega),h.NH.1,aO h.NH.2 (aO D.size I.size)⟩⟩;exact h.rE.more h.Ui.names hr Z hh gb cap v
theorem U1.new{A C gb cap:Nat}(T:gb=W.heap.size){r:NR}{ns:List Z5}{u v:Value}{W7:World}(h:U1 lo B P R cd pc w pr gs W)(ha:Z7 W A TR #[.string r.nm,.int .i64 r.k,.int .i64 r.n,u])(hc:Z7 W C TR #[.string r.nm,.int .i64 r.k,.int .i64 r.n,v])(hs:r.nm.size<=1000000)(hn:∀G∈gs,G.nm≠r.nm)(hv:W.ownsRow lo TC 4 v ns.length (ns.flatMap cL))(hr:Ub r.cs (some ns))(hl:ns.length<=r.cs.length)
 (J:W7.ownsRow lo TR 4 (.slice (some ⟨gb,0,none⟩) 1 cap) 1 [.string r.nm,.int .i64 r.k,.int .i64 r.n,v]) (D:W.grownBy W7 none):
 rD lo B P R cd pc w (pr++[r]) A C r.nm r.k r.n v gb cap 1 W7:=by
 subst T;obtain⟨W2,Z,h2,I⟩:=h.Ui.new (r:=⟨r.nm,r.k,r.n,ns⟩) (u:=v) hs hn D J hv;have nb:∀{X t:Nat} {cs:Array Value},Z7 W X t cs->some X≠some B:=λhx e=>yM hx h.Ui (ax e)
 have no:∀X:Nat,some X≠none:=λ_ e=>by cases e
 have Y:=h.Ui.map.lt;have U:Below lo W W7:=(aH lo W).grown D h.NH.2 (λk e=>by cases e);exact⟨S9.of (ha.kept D (no _)) (hc.kept D (no _)),W2,Z,S9.of ((ha.kept D (no _)).kept I (nb ha)) ((hc.kept D (no _)).kept I (nb hc)),_,⟨(h.hp.kept D (no _)).kept I (nb h.hp),(h.hr.kept D (no _)).kept I (nb h.hr),h2,h.rE.new hr hn _ cap v,h.ok.new hl _ cap v,(h.Zs.trans U).grown I (aO h.NH.2 D.size) (λk e=>by have:=ax e;have:=h.NH.1;omega),h.NH.1,aO h.NH.2 (aO D.size I.size)⟩⟩
end
theorem vX(N:Nat)(W:World):UI N W none []:=λi r h=>by simp at h
theorem Oi(nm:ByteArray):∀gs:List UH,(∀G∈gs,G.nm≠nm)\/∃A G D,gs=A++G::D/\G.nm=nm
 |[]=>.inl (λG h=>by cases h)
 |X::gs=>by
  by_cases e:X.nm=nm;·exact .inr ⟨[],X,gs,rfl,e⟩
  ·rcases Oi nm gs with h|⟨A,G,D,I,J⟩
   ·exact .inl (λG C=>by
     rcases abf.1 C with rfl|C;·exact e
     ·exact h G C)
   ·exact .inr ⟨X::A,G,D,by rw[I];rfl,J⟩
theorem Kv{g1 g2:List UH}{G:UH}(hn:(g1++G::g2).Pairwise (λx y=>x.nm≠y.nm)):X1 (g1++G::g2) G.nm=G.rs:=by
 have A:∀x∈g1,x.nm≠G.nm:=λx hx=>(afa.1 hn).2.2 x hx G jS
 have C:∀x∈g2,x.nm≠G.nm:=λx hx e=>(aha.1 (afa.1 hn).2.1).1 x hx e.symm
 rw[Nk,O5,XW A,XW C,aG rfl,age,ade]
def TI(k n:Int)(gs:List UH)(nm:ByteArray):List NR:=((X1 gs nm).reverse.dropWhile (λr=>decide (r.k=k/\r.n=n))).reverse
def rB(cd:Int->Int->Nat)(k n:Int)(x:Bool)(pr:List NR)(w:World)(e:Ending)(w':World):Prop:=
 ∃(v:Value) (us:List Value) (ss:List ByteArray) (gs:List UH),e=.returned (.tuple #[.agg #[.int .i64 k,.int .i64 n,.bool x,v],.int .i64 0])/\ss.Perm (gs.map (·.nm))/\gs.Pairwise (λx y=>x.nm≠y.nm)/\Tt cd pr gs/\Sn pr gs/\
  TX w.heap.size w' v (ss.flatMap (TI k n gs)) us/\Below w.heap.size w w'
theorem Nj:∀(a b:List NR) (ua A:List Value),ua.length=a.length->YG (a++b) (ua++A)=YG a ua++YG b A
 |[],b,[],A,_=>rfl
 |x::a,b,y::ua,A,h=>by show rC x y++YG (a++b) (ua++A)=rC x y++YG a ua++YG b A;rw[Nj a b ua A (by simpa using h),aba]
theorem QY:∀(a:List NR) (ua:List Value),ua.length=a.length->(YG a ua).length=a.length*4
 |[],[],_=>rfl
 |x::a,y::ua,h=>by show(rC x y++YG a ua).length=_;rw[ay,QY a ua (by simpa using h)];show 4+_=(a.length+1)*4;omega
theorem Bo(m:Nat):∀(a:List NR) (ua:List Value),ua.length=a.length->YG (a.take m) (ua.take m)=(YG a ua).take (m*4):=λa ua h=>by
 have A:=Nj (a.take m) (a.drop m) (ua.take m) (ua.drop m) (by rw[abg,abg,h]);rw[aod,aod] at A;have C:=QY (a.take m) (ua.take m) (by rw[abg,abg,h]);by_cases hm:m<=a.length;·rw[A,List.take_left' (by rw[C,abg,Nat.min_eq_left hm])]
 ·rw[abd jO,abd jO,abd (by rw[QY a ua h];omega)]
theorem Ir:∀(a:List NR) (ua:List Value),(∀u∈ua,u.oneCell'=true)->∀v∈YG a ua,v.oneCell'=true
 |[],_,_,v,hv=>by cases hv
 |_::_,[],_,v,hv=>by cases hv
 |x::a,y::ua,h,v,hv=>by
  have hv:v∈rC x y++YG a ua:=hv;rcases abe.1 hv with hv|hv
  ·unfold rC at hv;simp at hv;rcases hv with rfl|rfl|rfl|rfl;·rfl
   ·rfl
   ·rfl
   ·exact h v jS
  ·exact Ir a ua (λu hu=>h u (by simp[hu])) v hv
theorem row_one{lo:Nat}{W:World}{v:Value}{rs:List NR}{us:List Value}(h:TX lo W v rs us):∀u∈us,u.oneCell'=true:=λu hu=>by
 obtain⟨i,hi,rfl⟩:=agb.1 hu;have hr:i<rs.length:=by rw[<-h.len];exact hi
 obtain⟨a,c,e⟩:=Z1 (h.cs i _ rs[i] (aM hi) (aM hr));rw[e];rfl
structure Ni(lo B P R O BO SB:Nat)(cd:Int->Int->Nat)(k n:Int)(x:Bool)(ra:Value)(w:World)(pr:List NR)(gs:List UH)(ss:List ByteArray)(vs:Value)(vo:Value)(rs:List NR)(us:List Value)(W:World):Prop where
 inv:U1 lo B P R cd #[.int .i64 k,.int .i64 n,.bool x,ra] w pr gs W
 out:Z7 W O VZ #[.int .i64 k,.int .i64 n,.bool x,vo]
 len:us.length=rs.length
 row:W.ownsRow BO TR 4 vo rs.length (YG rs us)
 cs:∀(j:Nat) (u:Value) (r:NR),us[j]? =some u->rs[j]? =some r->W.ownsRow lo TC 4 u r.cs.length (r.cs.flatMap cL)
 nms:W.ownsRow SB 9 1 vs ss.length (ss.map Value.string)
 old:(∀G∈gs,G.g<BO)/\B<BO/\lo<=BO/\BO<=W.heap.size/\lo<=O/\P≠O/\R≠O
section
variable {lo B P R O BO SB:Nat} {cd:Int->Int->Nat} {k n:Int} {x:Bool} {ra:Value} {w W W':World} {pr:List NR} {gs:List UH} {ss:List ByteArray} {vs vo:Value} {rs:List NR} {us:List Value}
theorem Ni.Zs(h:Ni lo B P R O BO SB cd k n x ra w pr gs ss vs vo rs us W)(hb:Below W.heap.size W W'):Ni lo B P R O BO SB cd k n x ra w pr gs ss vs vo rs us W':=
 ⟨h.inv.below hb,h.out.below hb h.out.lt,h.len,ZE h.row hb,λj u r hu hr=>ZE (h.cs j u r hu hr) hb,ZE h.nms hb,h.old.1,h.old.2.1,h.old.2.2.1,aO h.old.2.2.2.1 hb.size,h.old.2.2.2.2⟩
theorem Ni.dn(h:Ni lo B P R O BO SB cd k n x ra w pr gs ss vs vo rs us W)(q:Nat):Ni lo B P R O BO SB cd k n x ra w pr gs ss vs vo rs us (W.drewN q):=h.Zs (KF (aH _ W) q)
theorem Ni.app{G:UH}{m:Nat}{mS:Value}(h:Ni lo B P R O BO SB cd k n x ra w pr gs ss vs vo rs us W)(hG:G∈gs)(hm:m<=G.rs.length)(Z:W'.ownsRow BO TR 4 mS (rs.length+m) (YG rs us++YG (G.rs.take m) (G.us.take m)))(I:W.grownBy W' vo.ownBlock):
 Ni lo B P R O BO SB cd k n x ra w pr gs ss vs mS (rs++G.rs.take m) (us++G.us.take m) (W'.setCell ⟨O,3,none⟩ mS):=by
 have D:∀j,vo.ownBlock=some j->BO<=j:=λj e=>(h.row.lt j e).1
 have hGr:=h.inv.Ui.rows G hG;have nT:∀{X t:Nat} {cs:Array Value},Z7 W X t cs->TR≠t->some X≠vo.ownBlock:=λhx ht e=>YZ h.row hx ht e.symm
 have nB:some B≠vo.ownBlock:=λe=>by have:=D B e.symm;have:=h.old.2.1;omega
 have A:=h.out.kept I (nT h.out jD);have kT:∀{base e s n:Nat} {u:Value} {xs:List Value},W.ownsRow base e s u n xs->TR≠e->e≠VZ->(W'.setCell ⟨O,3,none⟩ mS).ownsRow base e s u n xs:=λ{base e s n u xs} h1 ht ht2=>by
  refine ZV (h1.kept I ?_) A ht2 3 _;rcases h1.2 with⟨rfl,_⟩|⟨g,cap,cur,rfl,_,hb,_⟩;·exact .inl rfl
  ·exact .inr (λe2=>nT (show Z7 W g e cur from hb) ht e2)
 have sO:∀Y:World,Y.grownBy (Y.setCell ⟨O,3,none⟩ mS) (some O):=λY=>⟨rfl,rfl,rfl,jS,λi _ J=>aef Y ⟨O,3,none⟩ mS i (λe=>J (by rw[e]))⟩
 have C:=h.inv.Ui.map;have hBO:B≠O:=λe=>by subst e;exact KC C _ _ h.out
 have U:U2 lo B (W'.setCell ⟨O,3,none⟩ mS) gs:=by
  refine⟨(C.kept I nB).kept (sO W') (λe=>hBO (ax e)),λX hX=> ?_,h.inv.Ui.names,h.inv.Ui.wH,h.inv.Ui.size⟩;have h1:=(h.inv.Ui.rows X hX).grown I (λj e=>⟨λe2=>by have h3:X.g=j:=ax e2;have:=D j e;have:=h.old.1 X hX;omega,λcs hb=>YZ h.row hb jD e⟩)
  refine h1.grown (sO W') (λj e=> ?_);have e3:O=j:=ax e;subst e3;exact⟨YZ h1.row A jD,λcs hb=>by have h3:=(show W'.heap[O]? =_ from A).symm.trans hb;simp only[akf,ayf] at h3;exact absurd h3.2.1 jD⟩
 have Ku:Below lo w (W'.setCell ⟨O,3,none⟩ mS):=(h.inv.Zs.grown I h.inv.NH.2 (λj e=>aO h.old.2.2.1 (D j e))).setCell (p:=⟨O,3,none⟩) h.old.2.2.2.2.1 _;have T:W.heap.size<=(W'.setCell ⟨O,3,none⟩ mS).heap.size:=by have:=I.size;simpa using this
 have kB:∀{X:Nat} {cs:Array Value},Z7 W X VZ cs->X≠O->Z7 (W'.setCell ⟨O,3,none⟩ mS) X VZ cs:=λhx J=>(hx.kept I (nT hx jD)).other J 3 _
 have gy:(G.rs.take m).length=m:=by rw[abg];omega
 have hul:(G.us.take m).length=m:=by rw[abg,hGr.len];omega
 refine⟨⟨kB h.inv.hp h.old.2.2.2.2.2.1,kB h.inv.hr h.old.2.2.2.2.2.2,U,h.inv.rE,h.inv.ok,Ku,h.inv.NH.1,aO h.inv.NH.2 T⟩,A.set 3 _,by rw[ay,ay,gy,hul,h.len],?_,λj u r hu hr=> ?_,kT h.nms jD jD,h.old.1,h.old.2.1,h.old.2.2.1,aO h.old.2.2.2.1 T,h.old.2.2.2.2⟩;·rw[ay,gy,Nj _ _ _ _ h.len];exact ZV Z A jD 3 _
 ·by_cases hj:j<rs.length;·rw[abb (by rw[h.len];exact hj)] at hu;rw[abb hj] at hr;exact kT (h.cs j u r hu hr) jD jD
  ·rw[aae (by rw[h.len];omega),h.len] at hu;rw[aae jO] at hr;rw[aie] at hu hr;split at hr;·rename_i RQ;rw[aG RQ] at hu;exact kT (hGr.cs _ u r hu hr) jD jD
   ·cases hr
end
theorem kM{fn:Func}{t u:Tmp}(h:fn.results=#[.cell t VZ,.tmp u]){tmps:Array Value}{W:World}{R:Nat}{c0 c1 c2 c3:Value}(hb:Z7 W R VZ #[c0,c1,c2,c3])(ht:tmps.getD t undef=.pointer (some ⟨R,0,none⟩)):(results fn tmps).run prog W=.ok (.tuple #[.agg #[c0,c1,c2,c3],tmps.getD u undef]) W:=by
 obtain⟨⟨e0,e1,e2,e3⟩,_⟩:=Z8 hb;rw[aif] at ht;simp[results,h,go_sem,ht,e0,e1,e2,e3]
theorem au9{a b c d:Int}(h:¬(a=c/\b=d))(w:World):(Go.binOp .eql 48 (.agg #[.int .i64 a,.int .i64 b]) (.agg #[.int .i64 c,.int .i64 d])).run prog w=.ok (.bool false) w:=by
 simp[go_sem];omega
theorem bQ:∀w,(Go.sizeOf TR).run prog w=.ok 4 w:=λ_=>jK
theorem DG(W:World)(g n A k:Nat)(hk:k<=A):(Instr.slice 49 (.slice (some ⟨g,0,none⟩) n A) none (some (.int .i64 k)) none).run prog W=.ok (.slice (some ⟨g,0,none⟩) k A) W:=by
 have C:prog.underlying 49=some (.slice (prog.elem 49)):=by simp[Program.elem,underlying49]
 have D:prog.elem 49=TR:=by simp[Program.elem,underlying49]
 rw[run_slice_h W _ _ _ _ C .i64 _ jO jO,D,bQ];simp[Result.andThen,sliced,Addr.add]
def strip(k n:Int)(l:List NR):List NR:=(l.reverse.dropWhile (λr=>decide (r.k=k/\r.n=n))).reverse
theorem Bl{k n:Int}(l:List NR)(r:NR):strip k n (l++[r])=if r.k=k/\r.n=n then strip k n l else l++[r]:=by
 unfold strip;rw[List.reverse_append];show(List.dropWhile _ (r::l.reverse)).reverse=_;rw[aqb];by_cases h:r.k=k/\r.n=n;·rw[aG (by simpa using h),aG h]
 ·rw[aN (by simpa using h),aN h,awg,axf]
theorem vW(k n:Int)(l:List NR):(strip k n l).length<=l.length:=by
 unfold strip;rw[avc];exact aO (awd _).length_le jS
theorem kL{pr:List NR}{gs:List UH}(h:Sn pr gs)(hn:gs.Pairwise (λx y=>x.nm≠y.nm))(k n:Int)(nm:ByteArray):(TI k n gs nm).length<=pr.length:=by
 refine aO (vW k n _) ?_;rcases Oi nm gs with A|⟨C,G,D,rfl,A⟩
 ·rw[XW A];exact abc _
 ·rw[<-A,Kv hn];exact h.len G jS
theorem yL{α β:Type}{f:α->List β}{b:Nat}(h:∀x,(f x).length<=b):∀l:List α,(l.flatMap f).length<=l.length*b
 |[]=>jS
 |x::l=>by have:=yL h l;have:=h x;rw[acd,ay,aj,arc];omega
theorem rA{cd:Int->Int->Nat}{N L c:Nat}{a:Option Addr}{pr:List NR}{k n:Int}{x:Bool}(hL:pr.length=L)(Xl:L<=500)(hsz:∀r∈pr,r.nm.size<=1000/\r.cs.length<=1000/\∀c∈r.cs,c.right)(w:World)(hQ:UI N w a pr)(hN:N<=w.heap.size)
 (RH:∀W,Below w.heap.size w W->Calls prog 75 #[.agg #[.int .i64 k,.int .i64 n,.bool x,.slice a L c]] W λe w'=>e=.returned (.bool true)/\Below W.heap.size W w'):
 Calls prog 36 #[.agg #[.int .i64 k,.int .i64 n,.bool x,.slice a L c]] w (rB cd k n x pr w):=by
 have HL:=aT hL;have fS:=aT hsz;have HQ:=aT hQ;have tU:=aT RH;have Jw:= @apc prog;have HP:=aT ((Z7.new w VZ #[.int .i64 k,.int .i64 n,.bool x,.slice a L c]).alloc (.cells #[.int .i64 0,.int .i64 0,.bool false,.slice none 0 0] VZ));have HR:=aT (Z7.O9 w (.cells #[.int .i64 k,.int .i64 n,.bool x,.slice a L c] VZ) VZ #[.int .i64 0,.int .i64 0,.bool false,.slice none 0 0]);have HB:=aT (KM w (.cells #[.int .i64 k,.int .i64 n,.bool x,.slice a L c] VZ) (.cells #[.int .i64 0,.int .i64 0,.bool false,.slice none 0 0] VZ));clear hL hsz hQ RH;obtain⟨i0,XX,SC,Vo,TD⟩:=RP rF;go_enter func36,ntmps36;go_upto_region 1 with fail;generalize (w.alloc (.cells #[.int .i64 k,.int .i64 n,.bool x,.slice a L c] VZ)).alloc (.cells #[.int .i64 0,.int .i64 0,.bool false,.slice none 0 0] VZ)=w1 at*;obtain⟨R,hR⟩:=jX (w.heap.size+1);rw[hR] at HR ⊢;have tT:w.heap.size<R:=jO;clear hR;obtain⟨⟨p0,p1,p2,p3⟩,_⟩:=Z8 HP.out;go_wp2_with fail;refine(tU.out w1 HB.out).mono ?_;rintro e w2 ⟨rfl,hb⟩
 have Fu:Hid (U1 w.heap.size w2.heap.size w.heap.size R cd #[.int .i64 k,.int .i64 n,.bool x,.slice a L c] w [] [] (w2.alloc (.map #[] 0))):=
  ⟨(HP.out.below hb HP.out.lt).alloc _,(HR.out.below hb HR.out.lt).alloc _,U2.nil (lo:=w.heap.size) (w:=w2),Tt.nil,Sn.nil,((HB.out.trans (hb.mono HB.out.size))).alloc (aO HB.out.size hb.size) _,aO HB.out.size hb.size,aO (aO HB.out.size hb.size) (Yl w2 (.map #[] 0)).size⟩
 clear hb HP HR HB p0 p1 p2 p3 tU;go_upto_region 4 with fail;generalize w2.alloc (.map #[] 0)=w3 at*;generalize w2.heap.size=B at*;obtain⟨⟨p0,p1,p2,p3⟩,_⟩:=Z8 Fu.out.hp;go_upto_region 5 with fail;go_loopg [21] (L+1) (λgg iv wr=>∃(i:Nat) (gs:List UH),i<=L/\L-i<gg/\iv=.int .i64 (i:Int)/\Hid (U1 w.heap.size B w.heap.size R cd #[.int .i64 k,.int .i64 n,.bool x,.slice a L c] w (pr.take i) gs wr));case atStart=>exact⟨0,[],abc _,jO,rfl,Fu⟩
 case round=>
  obtain⟨i,gs,zm,VP,rfl,HI⟩:=hrel;clear Fu p0 p1 p2 p3;have Jz:=jW i;have yU:=jZ i;by_cases hlt:i<L
  ·have Y8:(i:Int)<(L:Int):=by omega
   obtain⟨r,hr⟩:∃r,pr[i]? =some r:=⟨_,aM (by rw[HL.out];exact hlt)⟩;obtain⟨g,off,u,rfl,U7,y0,y1,y2,y3,hcs⟩:=HQ.out i r hr;have hwb:=HI.out.Zs;have y0:=ZY hwb hN U7 y0;have y1:=ZY hwb hN U7 y1;have y2:=ZY hwb hN U7 y2;have y3:=ZY hwb hN U7 y3;have xr:=aT (hcs.below hwb hN);have HT:=aT (VS hr);obtain⟨hs1,hs2,hs3⟩:=fS.out r (af hr);have ni:=aT hs3;obtain⟨ua,uc,rfl⟩:=xr.out.form;clear hcs hr hs3 hwb;have HA:=aT (Z7.new wr TR #[.string r.nm,.int .i64 r.k,.int .i64 r.n,.slice ua r.cs.length uc]);have U:=aT (HI.out.al (.cells #[.string r.nm,.int .i64 r.k,.int .i64 r.n,.slice ua r.cs.length uc] TR));have zl:=aT (xr.out.below (Yl wr (.cells #[.string r.nm,.int .i64 r.k,.int .i64 r.n,.slice ua r.cs.length uc] TR)) (aO hN HI.out.NH.2));have hwr:w.heap.size<=wr.heap.size:=HI.out.NH.2;have HGA:Hid (∀G∈gs,wr.heap.size≠G.g):=λG hG e=>by have:G.g<wr.heap.size:=Q1 (HI.out.Ui.rows G hG).row rfl;omega
   clear xr HI;go_upto_region 7 with fail;clear y0 y1 y2 y3;generalize wr.alloc (.cells #[.string r.nm,.int .i64 r.k,.int .i64 r.n,.slice ua r.cs.length uc] TR)=w4 at*;generalize wr.heap.size=A at*;obtain⟨⟨a0,a1,a2,a3⟩,_⟩:=Z8 HA.out;have kK:=aT (wI (nm:=r.nm) (k:=r.k) (n:=r.n) rfl hs2 ni.out w4 zl.out (aO hN U.out.NH.2));obtain⟨Q,kJ⟩:=jX r.cs.length;have HQd:=aT kJ;rw[kJ] at kK hs2 HA;clear kJ a3;obtain⟨⟨_,_,_,a3⟩,_⟩:=Z8 HA.out;go_wp2_with fail;refine kK.out.mono ?_;rintro e w5 ⟨h,hb⟩;have sG:=aT (HA.out.below hb HA.out.lt);have yK:=aT (U.out.below hb);have mR:A<w5.heap.size:=sG.out.lt;rcases h with⟨hno,rfl⟩|⟨v,ns,hns,fR,rfl,hv⟩
   ·have dc:=aT hno;clear hno hb HA U kK;go_wp2_with fail;go_roundg (L-i);case measure=>omega
    case rel=>exact⟨i+1,gs,jO,jO,by go_num,(by rw[HT.out];exact(show U1 _ _ _ _ _ _ _ _ _ _ from {yK.out.al _ with rE:=yK.out.rE.gone dc.out,ok:=yK.out.ok.step r}))⟩
   ·have HNS:=aT hns;have mQ:=aT fR;have HV:=aT (Zd hv (show w.heap.size<=w4.heap.size from U.out.NH.2));obtain⟨va,T,rfl⟩:=Z1 hv;clear hns fR hv hb HA U kK;obtain⟨M,hM⟩:=jX ns.length;have HM:=aT hM;have HV:Hid (w5.ownsRow w.heap.size TC 4 (.slice va M T) ns.length (ns.flatMap cL)):=by rw[<-hM];exact HV
    rw[hM];clear hM;have mP:=aT (Z7.new w5 TR #[.string r.nm,.int .i64 r.k,.int .i64 r.n,.slice va M T]);have Gg:=aT (sG.out.alloc (.cells #[.string r.nm,.int .i64 r.k,.int .i64 r.n,.slice va M T] TR));have I:=aT (yK.out.al (.cells #[.string r.nm,.int .i64 r.k,.int .i64 r.n,.slice va M T] TR));have Bj:=aT (HV.out.alloc (.cells #[.string r.nm,.int .i64 r.k,.int .i64 r.n,.slice va M T] TR));have HGC:Hid (∀G∈gs,w5.heap.size≠G.g):=λG hG e=>by have:G.g<w5.heap.size:=Q1 (yK.out.Ui.rows G hG).row rfl;omega
    go_upto_region 8 with fail;clear sG yK HV;generalize w5.alloc (.cells #[.string r.nm,.int .i64 r.k,.int .i64 r.n,.slice va M T] TR)=w6 at*;generalize w5.heap.size=C at*;obtain⟨⟨a0,_,_,_⟩,_⟩:=Z8 Gg.out;obtain⟨⟨c0,c1,c2,c3⟩,_⟩:=Z8 mP.out;have hCM:=Tx Bj.out;rcases Oi r.nm gs with hno|⟨g1,G,g2,rfl,hG⟩
    ·have lk:=I.out.Ui.Xt (nm:=r.nm) jO hno;have dc:=aT hno;have HH:=aT (KE (rs:=[]) (c:=0) (nm:=r.nm) (k:=r.k) (n:=r.n) rfl jD (λr h=>by cases h) w6 (vX _ _) hCM (aR _));clear hno hCM;go_wp2_with fail;refine HH.out.mono ?_;rintro e w8 ⟨rfl,hb⟩;have kI:=aT (Gg.out.below hb Gg.out.lt);have Iq:=aT (mP.out.below hb mP.out.lt);have kH:=aT (I.out.below hb);have HV8:=aT (ZE Bj.out hb);clear hb HH Gg mP I Bj lk a0 c0 c1 c2 c3;simp only[List.any_nil];have fQ:=aT (kH.out.al (.cells #[.string r.nm,.int .i64 r.k,.int .i64 r.n,.slice va M T] TR)).drew;have HAb:Hid (Z7 (w8.alloc (.cells #[.string r.nm,.int .i64 r.k,.int .i64 r.n,.slice va M T] TR)).drew A TR #[.string r.nm,.int .i64 r.k,.int .i64 r.n,.slice ua Q uc]):=kI.out.alloc _;have HCb:Hid (Z7 (w8.alloc (.cells #[.string r.nm,.int .i64 r.k,.int .i64 r.n,.slice va M T] TR)).drew C TR #[.string r.nm,.int .i64 r.k,.int .i64 r.n,.slice va M T]):=Iq.out.alloc _;have HVb:Hid ((w8.alloc (.cells #[.string r.nm,.int .i64 r.k,.int .i64 r.n,.slice va M T] TR)).drew.ownsRow w.heap.size TC 4 (.slice va M T) ns.length (ns.flatMap cL)):=HV8.out.alloc _;have lk:=kH.out.drew.Ui.Xt (nm:=r.nm) jO dc.out;have lk2:=fQ.out.Ui.Xt (nm:=r.nm) jO dc.out;obtain⟨⟨a0,_,_,_⟩,_⟩:=Z8 kI.out;obtain⟨⟨c0,c1,c2,c3⟩,_⟩:=Z8 Iq.out;go_upto_region 9 with fail
     go_region_held_law (λw'=>w'.cell? ⟨A,0,none⟩=some (.string r.nm)/\w'.cell? ⟨C,0,none⟩=some (.string r.nm)/\w'.cell? ⟨C,1,none⟩=some (.int .i64 r.k)/\w'.cell? ⟨C,2,none⟩=some (.int .i64 r.n)/\w'.cell? ⟨C,3,none⟩=some (.slice va M T)) (first|assumption|exact hS7|exact gw|exact S9.of HAb.out HCb.out|exact S9.of kI.out Iq.out) (first
      |(refine step_append_lies _ rfl _ _ 49 rfl w.heap.size TR i0 (.agg #[.string ⟨#[]⟩,.int .i64 0,.int .i64 0,.slice none 0 0]) 4 56 underlying49 XX SC Vo TD rfl jD (.slice none 0 0) 0 [] rfl (akg _ _ _ _) ⟨w8.heap.size,0,none⟩ 1 1 [.string r.nm,.int .i64 r.k,.int .i64 r.n,.slice va M T] rfl rfl (World.news_of_block (Z7.new w8 _ _)) (by simp[Value.oneCell']) jD (by unfold maxLen;omega) jO fQ.out.NH.2 _ rfl ?_;intro gb cap w9 Y kG rz av0;obtain⟨hS7,W2,hup,gw,gs2,bP⟩:=U1.new (rz.resolve_left (by simp[Value.ownBlock])) fQ.out HAb.out HCb.out jO dc.out HVb.out HNS.out mQ.out Y kG;have mO:=aT bP;clear bP Y kG rz))
     all_goals (go_wp2_with fail;go_roundg (L-i);(case measure=>omega);(case rel=>exact⟨i+1,gs2,jO,jO,by go_num,by rw[HT.out];exact mO⟩))
    ·have fP:=I.out.ok.len G jS;have hGl:G.rs.length<=500:=aO fP (by rw[abg];omega)
     have HLK:Hid (∀X:World,U2 w.heap.size B X (g1++G::g2)->(Instr.lookup 191 (.map (some B)) (.string r.nm) false).run prog X=.ok (.slice (some ⟨G.g,0,none⟩) G.rs.length G.cap) X):=λX hX=>by have:=hX.ID (G:=G) jS;rw[hG] at this;exact this
     have lk:=HLK.out _ I.out.Ui;have HGn:=aT hG;have HH:=aT (KE (rs:=G.rs) (c:=G.cap) (nm:=r.nm) (k:=r.k) (n:=r.n) rfl jO (λq hq=>by obtain⟨_,q0,hq0,_,_,_,h5⟩:=I.out.ok.rs G jS q hq;have:=(fS.out q0 (alc hq0)).2.1;omega) w6 (TX.rows (I.out.Ui.rows G jS)) hCM (aR _))
     clear hG hCM fP;cases fO:G.rs.any (WA ns) with
     |true=>
      rw[fO] at HH;have HHt:Hid ((X1 (g1++G::g2) r.nm).any (WA ns)=true):=by show _=_;rw[<-HGn.out,Kv I.out.Ui.names];exact fO
      clear fO;go_wp2_with fail;refine HH.out.mono ?_;rintro e w8 ⟨rfl,hb⟩;have kH:=aT (I.out.below hb);clear hb HH Gg mP I Bj lk a0 c0 c1 c2 c3;go_wp2_with fail;go_roundg (L-i);case measure=>omega
      case rel=>exact⟨i+1,g1++G::g2,jO,jO,by go_num,(by rw[HT.out];exact(show U1 _ _ _ _ _ _ _ _ _ _ from {kH.out with rE:=kH.out.rE.hid HNS.out HHt.out,ok:=kH.out.ok.step r}))⟩
     |false=>
      rw[fO] at HH;have HHf:=aT fO;clear fO;go_wp2_with fail;refine HH.out.mono ?_;rintro e w8 ⟨rfl,hb⟩;have kI:=aT (Gg.out.below hb Gg.out.lt);have Iq:=aT (mP.out.below hb mP.out.lt);have kH:=aT (I.out.below hb);have HV8:=aT (ZE Bj.out hb);clear hb HH Gg mP I Bj lk a0 c0 c1 c2 c3;have fQ:=aT (kH.out.al (.cells #[.string r.nm,.int .i64 r.k,.int .i64 r.n,.slice va M T] TR)).drew;have HAb:Hid (Z7 (w8.alloc (.cells #[.string r.nm,.int .i64 r.k,.int .i64 r.n,.slice va M T] TR)).drew A TR #[.string r.nm,.int .i64 r.k,.int .i64 r.n,.slice ua Q uc]):=kI.out.alloc _;have HCb:Hid (Z7 (w8.alloc (.cells #[.string r.nm,.int .i64 r.k,.int .i64 r.n,.slice va M T] TR)).drew C TR #[.string r.nm,.int .i64 r.k,.int .i64 r.n,.slice va M T]):=Iq.out.alloc _;have HVb:Hid ((w8.alloc (.cells #[.string r.nm,.int .i64 r.k,.int .i64 r.n,.slice va M T] TR)).drew.ownsRow w.heap.size TC 4 (.slice va M T) ns.length (ns.flatMap cL)):=HV8.out.alloc _;have lk:=HLK.out _ kH.out.drew.Ui;have lk2:=HLK.out _ fQ.out.Ui;obtain⟨⟨a0,_,_,_⟩,_⟩:=Z8 kI.out;obtain⟨⟨c0,c1,c2,c3⟩,_⟩:=Z8 Iq.out;go_upto_region 9 with fail
      go_region_held_law (λw'=>w'.cell? ⟨A,0,none⟩=some (.string r.nm)/\w'.cell? ⟨C,0,none⟩=some (.string r.nm)/\w'.cell? ⟨C,1,none⟩=some (.int .i64 r.k)/\w'.cell? ⟨C,2,none⟩=some (.int .i64 r.n)/\w'.cell? ⟨C,3,none⟩=some (.slice va M T)) (first|assumption|exact hS7|exact gw|exact S9.of HAb.out HCb.out|exact S9.of kI.out Iq.out) (first
       |(refine step_append_lies _ rfl _ _ 49 rfl w.heap.size TR i0 (.agg #[.string ⟨#[]⟩,.int .i64 0,.int .i64 0,.slice none 0 0]) 4 56 underlying49 XX SC Vo TD rfl jD (.slice (some ⟨G.g,0,none⟩) G.rs.length G.cap) G.rs.length _ rfl (fQ.out.Ui.rows G jS).row ⟨w8.heap.size,0,none⟩ 1 1 [.string r.nm,.int .i64 r.k,.int .i64 r.n,.slice va M T] rfl rfl (World.news_of_block (Z7.new w8 _ _)) (by simp[Value.oneCell']) jD (by unfold maxLen;omega) jO fQ.out.NH.2 _ rfl ?_;intro gb cap w9 Y kG rz av0;obtain⟨hS7,W2,hup,gw,gs2,bP⟩:=U1.more fQ.out HAb.out HCb.out (HGA.out G jS) (HGC.out G jS) HGn.out HVb.out HNS.out mQ.out HHf.out Y kG (rz.imp (λe=>(ax e).symm) id);have mO:=aT bP;clear bP Y kG rz))
      all_goals (go_wp2_with fail;go_roundg (L-i);(case measure=>omega);(case rel=>exact⟨i+1,gs2,jO,jO,by go_num,by rw[HT.out];exact mO⟩))
  ·obtain rfl:i=L:=by omega
   have Y8:¬(i:Int)<(i:Int):=jO;have U:Hid (U1 w.heap.size B w.heap.size R cd #[.int .i64 k,.int .i64 n,.bool x,.slice a i c] w pr gs wr):=by have h:=HI.out;rwa [abd (by rw[HL.out];exact aR _)] at h
   obtain⟨⟨p0,p1,p2,_⟩,_⟩:=Z8 U.out.hp;have Cg:=aT (Z7.new wr VZ #[.int .i64 k,.int .i64 n,.bool x,.slice none 0 0]);have cX:=aT (U.out.al (.cells #[.int .i64 k,.int .i64 n,.bool x,.slice none 0 0] VZ));have hwr:w.heap.size<=wr.heap.size:=HI.out.NH.2;have hne:w.heap.size≠wr.heap.size/\R≠wr.heap.size:=⟨Nat.ne_of_lt U.out.hp.lt,Nat.ne_of_lt U.out.hr.lt⟩;clear HI;go_upto_region 12 with fail;clear p0 p1 p2 U;generalize wr.alloc (.cells #[.int .i64 k,.int .i64 n,.bool x,.slice none 0 0] VZ)=w4 at*;generalize wr.heap.size=O at*;have av1:gs.length<=500:=aO cX.out.ok.cnt (by rw[HL.out];exact Xl);have HS:=aT (DI (W:=w4) (ks:=gs.map (·.nm)) cX.out.Ui.map (by unfold RM;rw[akb,akb];rfl) (λs hs=>by obtain⟨G,hG,rfl⟩:=ai.1 hs;exact cX.out.Ui.size G hG) (by rw[aad];omega))
   go_wp2_with fail;refine(vY (some B) w4).mono ?_;rintro e w5 ⟨rfl,rfl⟩;go_wp2_with fail;refine HS.out.mono ?_;rintro e w6 ⟨vs,ss,rfl,yJ,hrow,hb⟩;have HSS:=aT yJ;have hM:ss.length=gs.length:=by rw[yJ.length_eq,aad]
   obtain⟨sa,sc,rfl⟩:=Z1 hrow;have hO6:=Cg.out.below hb Cg.out.lt;have fN:=cX.out.below hb
   have HJ0:Hid (Ni w.heap.size B w.heap.size R O w6.heap.size w4.heap.size cd k n x (.slice a i c) w pr gs ss (.slice sa ss.length sc) (.slice none 0 0) [] [] w6):=
    ⟨fN,hO6,rfl,akg _ _ _ _,λj u r h=>(by simp at h),hrow,λG hG=>Q1 (fN.Ui.rows G hG).row rfl,fN.Ui.map.lt,fN.NH.2,aR _,hwr,hne.1,hne.2⟩
   clear yJ hrow hb hO6 fN HS cX Cg;obtain⟨M,hMd⟩:=jX ss.length;have HMd:=aT hMd;rw[hMd] at hM HJ0 ⊢;have hM5:M<=500:=jO;clear hMd hM;go_upto_region 13 with fail;go_loopg [60] (M+1) (λgg iv wr=>∃(q:Nat) (vo:Value) (us:List Value),q<=M/\M-q<gg/\iv=.int .i64 (q:Int)/\Hid (Ni w.heap.size B w.heap.size R O w6.heap.size w4.heap.size cd k n x (.slice a i c) w pr gs ss (.slice sa M sc) vo ((ss.take q).flatMap (TI k n gs)) us wr));case atStart=>exact⟨0,.slice none 0 0,[],abc _,jO,rfl,HJ0⟩
   case round=>
    obtain⟨q,vo,us,hqM,lS,rfl,Z⟩:=hrel;clear HJ0;have q0:=jZ q;have kF:=jW q;by_cases hq:q<M
    ·have kW:(q:Int)<(M:Int):=by omega
     obtain⟨nm,Ip⟩:∃nm,ss[q]? =some nm:=⟨_,aM (by rw[HMd.out];exact hq)⟩;obtain⟨gS,hsa⟩:∃gS,sa=some ⟨gS,0,none⟩:=by
      rcases Z.out.nms.2 with⟨e,h0⟩|⟨gS,cap,cur,e,_⟩;·rw[HMd.out] at h0;omega
      ·injection e with e;exact⟨gS,e⟩
     subst hsa;have yS:wr.cell? ⟨gS,q,none⟩=some (.string nm):=by have h0:=Z.out.nms;rw[HMd.out] at h0;have h1:=h0.cellAt q jO;rw[h1,ada,Ip];rfl
     obtain⟨G,mX,hG⟩:∃G,G∈gs/\G.nm=nm:=by have:=HSS.out.mem_iff.1 (af Ip);obtain⟨G,h1,h2⟩:=ai.1 this;exact⟨G,h1,h2⟩
     have HSG:Hid (TI k n gs nm=strip k n G.rs):=by
      show TI k n gs nm=_;rcases Oi nm gs with h1|⟨g1,G2,g2,e,h1⟩;·exact absurd hG (h1 G mX)
      ·have hGG:G2=G:=by
        subst e;rcases abe.1 mX with hm|hm;·exact absurd (hG.trans h1.symm) ((afa.1 Z.out.inv.Ui.names).2.2 G hm G2 jS)
        ·rcases abf.1 hm with rfl|hm;·rfl
         ·exact absurd (h1.trans hG.symm) ((aha.1 (afa.1 Z.out.inv.Ui.names).2.1).1 G hm)
       subst hGG;unfold TI strip;have h3:X1 gs nm=G2.rs:=by have h4:=Z.out.inv.Ui.names;rw[e] at h4 ⊢;rw[<-h1];exact Kv h4
       rw[h3]
     have wD:=aT (VS Ip);have lk:=Z.out.inv.Ui.ID mX;rw[hG] at lk;unfold UH.v at lk;have HGm:=aT mX;have hGl:G.rs.length<=500:=aO (Z.out.inv.ok.len G mX) (by rw[HL.out];exact Xl);have hGc:G.rs.length<=G.cap:=(Lt (Z.out.inv.Ui.rows G mX).row).1;clear Ip hG mX;go_upto_region 15 with fail;go_upto_region 16 with fail;clear yS lk;go_loopg [12] (G.rs.length+1) (λgg3 s12 wr=>∃m:Nat,m<=G.rs.length/\m<gg3/\s12=.slice (some ⟨G.g,0,none⟩) m G.cap/\Hid (Ni w.heap.size B w.heap.size R O w6.heap.size w4.heap.size cd k n x (.slice a i c) w pr gs ss (.slice (some ⟨gS,0,none⟩) M sc) vo ((ss.take q).flatMap (TI k n gs)) us wr)/\Hid (TI k n gs nm=strip k n (G.rs.take m)));case atStart=>exact⟨G.rs.length,aR _,jO,rfl,Z,(by rw[List.take_length];exact HSG)⟩
     case round=>
      obtain⟨m,hm,ai2,rfl,HJm,HSm⟩:=hrel;clear Z HSG;obtain⟨⟨p0,p1,_,_⟩,_⟩:=Z8 HJm.out.inv.hp;go_upto_region 16 with fail;go_cut [81] from 67 to 86 (λs wx=>∃r:Bool,s=.bool r/\Hid (r=true->0<m/\strip k n (G.rs.take m)=strip k n (G.rs.take (m-1)))/\Hid (r=false->strip k n (G.rs.take m)=G.rs.take m)/\Hid (Ni w.heap.size B w.heap.size R O w6.heap.size w4.heap.size cd k n x (.slice a i c) w pr gs ss (.slice (some ⟨gS,0,none⟩) M sc) vo ((ss.take q).flatMap (TI k n gs)) us wx))
      case first=>
       by_cases Cj:m=0;·subst Cj;go_quiet (fail);go_wp2_with fail;go_meet;exact⟨_,rfl,(show Hid _ from λe=>by cases e),(show Hid _ from λ_=>rfl),aT (HJm.out.dn _)⟩
       ·obtain⟨e,he⟩:=jX (m-1);have hmz:decide ((0:Int)<(m:Int))=true:=by simp;omega
        have au3:(0:Int)<(m:Int):=jO;have zi:decide (0<m)=true:=adb jO;have au4:0<m:=jO;have ct:IntKind.i64.wrap ((m:Int)-1)=(e:Int):=by rw[aJ _ jO];omega
        have b0:=jZ e;have b1:(e:Int)<(m:Int):=jO;have tV:e<G.rs.length:=jO;obtain⟨rr,tR⟩:∃rr,G.rs[e]? =some rr:=⟨_,aM tV⟩;have D:=HJm.out.inv.Ui.rows G HGm.out;obtain⟨uu,huu⟩:∃uu,G.us[e]? =some uu:=⟨_,aM (by rw[D.len];exact tV)⟩;have yk:wr.cell? ⟨G.g,e*4+1,none⟩=some (.int .i64 rr.k):=by have:=World.ownsRow.cellAt (show wr.ownsRow w.heap.size TR 4 (.slice (some ⟨G.g,0,none⟩) G.rs.length G.cap) G.rs.length (YG G.rs G.us) from D.row) (e*4+1) jO;rw[this,RN _ _ _ _ _ tR huu 1 jD];rfl
        have yn:wr.cell? ⟨G.g,e*4+2,none⟩=some (.int .i64 rr.n):=by have:=World.ownsRow.cellAt (show wr.ownsRow w.heap.size TR 4 (.slice (some ⟨G.g,0,none⟩) G.rs.length G.cap) G.rs.length (YG G.rs G.us) from D.row) (e*4+2) jO;rw[this,RN _ _ _ _ _ tR huu 2 jD];rfl
        have fM:G.rs.take m=G.rs.take e++[rr]:=by have:m=e+1:=jO;rw[this];exact VS tR
        have HST:Hid (strip k n (G.rs.take m)=if rr.k=k/\rr.n=n then strip k n (G.rs.take e) else G.rs.take m):=by show strip k n (G.rs.take m)=_;rw[fM];exact Bl _ _
        have HE:Hid (m-1=e):=he;clear tR D huu fM he;by_cases hk:rr.k=k/\rr.n=n
        ·have Nt:Hid (strip k n (G.rs.take m)=strip k n (G.rs.take (m-1))):=by
          show _=_;rw[HST.out,aG hk,HE.out]
         rw[hk.1] at yk;rw[hk.2] at yn;clear hk;go_quiet (fail);go_wp2_with fail;go_meet;exact⟨_,rfl,(show Hid _ from λ_=>⟨jO,Nt.out⟩),(show Hid _ from λe=>by cases e),aT (HJm.out.dn _)⟩
        ·have hea:=au9 hk
         have Nt:Hid (strip k n (G.rs.take m)=G.rs.take m):=by show _=_;rw[HST.out,aN hk]
         clear hk;generalize rr.k=rk at*;generalize rr.n=rn at*;go_quiet (fail);go_wp2_with fail;go_meet;exact⟨_,rfl,(show Hid _ from λe=>by cases e),(show Hid _ from λ_=>Nt.out),aT (HJm.out.dn _)⟩
      case rest=>
       obtain⟨r,rfl,sY,tz,J⟩:=hcut;clear HJm p0 p1;cases r with
       |true=>
        obtain⟨e,he⟩:=jX (m-1);have Cj:=(sY.out rfl).1;have TZ:Hid (TI k n gs nm=strip k n (G.rs.take e)):=by show _=_;rw[HSm.out,(sY.out rfl).2,he]
        have ct:IntKind.i64.wrap ((m:Int)-1)=(e:Int):=by rw[aJ _ jO];omega
        have sl:=λW=>DG W G.g m G.cap e jO
        have hem:e<=G.rs.length/\e<m:=jO;clear he;go_wp2_with fail;go_roundg m;case measure=>omega
        case rel=>exact⟨e,hem.1,hem.2,rfl,J,TZ⟩
       |false=>
        have TZ:Hid (TI k n gs nm=G.rs.take m):=HSm.out.trans (tz.out rfl);have HBo:Hid (((ss.take q).flatMap (TI k n gs)).length<=250000):=by
         have h1:=yL (kL J.out.inv.ok J.out.inv.Ui.names k n) (ss.take q);have h2:(ss.take q).length<=500:=by rw[abg];omega
         have h3:(ss.take q).length*pr.length<=500*500:=Nat.mul_le_mul h2 (by rw[HL.out];exact Xl);show _<=_;omega
        have HX:Hid (((ss.take q).flatMap (TI k n gs))++G.rs.take m=(ss.take (q+1)).flatMap (TI k n gs)):=by show _=_;rw[wD.out,acb,acd,asg,ade,TZ.out]
        generalize (ss.take q).flatMap (TI k n gs)=rs at*;have hbo:rs.length<=250000:=HBo.out;obtain⟨va,T,rfl⟩:=Z1 J.out.row;obtain⟨⟨_,_,_,o3⟩,_,_,_,f3⟩:=Z8 J.out.out;have D:=J.out.inv.Ui.rows G HGm.out;have HFT:=aT (Bo m G.rs G.us D.len);have mQ:Hid ((YG (G.rs.take m) (G.us.take m)).length=m*4):=by show _=_;rw[QY _ _ (by rw[abg,abg,D.len]),abg];omega
        have rV:Hid (∀u∈YG (G.rs.take m) (G.us.take m),u.oneCell'=true):=Ir _ _ (λu hu=>row_one D u (alc hu));have fX:Hid (∀j u,(YG (G.rs.take m) (G.us.take m))[j]? =some u->wc.cell? ((⟨G.g,0,none⟩:Addr).add j)=some u):=λj u hu=>by
         refine World.ownsRow.cells (v:=G.v) D.row rfl j u ?_;rw[HFT.out,aie] at hu;split at hu;·exact hu
         ·cases hu
        clear D;go_upto_region 18 with fail
        go_wp2_with (at_builtin;(refine adg _ rfl _ _ 49 rfl w6.heap.size TR i0 (.agg #[.string ⟨#[]⟩,.int .i64 0,.int .i64 0,.slice none 0 0]) 4 56 underlying49 XX SC Vo TD rfl jD _ rs.length _ rfl J.out.row ⟨G.g,0,none⟩ m G.cap _ rfl mQ.out fX.out rV.out (by unfold maxLen;omega) jO J.out.old.2.2.2.1 ?_;intro v' w7 hown' hgrow _;obtain⟨cg,vc',rfl⟩:=Z1 hown';have HJ7:=aT (J.out.app HGm.out hm hown' hgrow);have hO7:=J.out.out.kept hgrow (λe=>YZ J.out.row J.out.out jD e.symm);obtain⟨⟨_,_,_,o7⟩,_,_,_,f7⟩:=Z8 hO7;clear hown' hgrow hO7))
        go_wp2_with fail;go_roundg (M-q);case measure=>omega
        case rel=>exact⟨q+1,_,_,jO,jO,by go_num,(by rw[<-HX.out];exact HJ7)⟩
    ·obtain rfl:q=M:=by omega
     have kW:¬(q:Int)<(q:Int):=jO;have HX:Hid ((ss.take q).flatMap (TI k n gs)=ss.flatMap (TI k n gs)):=by show _=_;rw[abd (by rw[HMd.out];exact aR _)]
     obtain⟨va,T,rfl⟩:=Z1 Z.out.row;obtain⟨⟨o0,o1,o2,o3⟩,_⟩:=Z8 Z.out.out;have kE:=Z.out.inv.hr;obtain⟨⟨r0,r1,r2,r3⟩,f0,f1,f2,f3⟩:=Z8 kE;generalize hrs:(ss.take q).flatMap (TI k n gs)=rs at*;go_wp2_with fail;have c4:∀{base e s n0:Nat} {u:Value} {xs:List Value},wr.ownsRow base e s u n0 xs->e≠VZ->((((wr.setCell ⟨R,0,none⟩ (.int .i64 k)).setCell ⟨R,1,none⟩ (.int .i64 n)).setCell ⟨R,2,none⟩ (.bool x)).setCell ⟨R,3,none⟩ (.slice va rs.length T)).ownsRow base e s u n0 xs:=λ{base e s n0 u xs} h1 ht=>
      ZV (ZV (ZV (ZV h1 kE ht 0 _) (kE.set 0 _) ht 1 _) ((kE.set 0 _).set 1 _) ht 2 _) (((kE.set 0 _).set 1 _).set 2 _) ht 3 _
     refine aag (kM rfl (ZG kE _ _ _ _) rfl) rfl ?_;refine⟨_,us,ss,gs,rfl,HSS.out,Z.out.inv.Ui.names,Z.out.inv.rE,Z.out.inv.ok,?_,ZF Z.out.inv.Zs (ace tT) _ _ _ _⟩;rw[<-HX.out];exact⟨Z.out.len,Zd (c4 Z.out.row jD) Z.out.old.2.2.1,λj u r hu hr=>c4 (Z.out.cs j u r hu hr) jD⟩
end Go.Proofs.YtclgigmgbebhgaaGreatDoor
namespace Go.Proofs.YtclgigmgbebhgaaGreatDoor
open Tryz
open Go Go.Proofs Go.RowKit
def YO(l:List Z4.Z2)(nm:ByteArray):Z4.Z2:=if Z4.firstIdx (Z4.RI nm) l<0 then Z4.Z2.zero else l[(Z4.firstIdx (Z4.RI nm) l).toNat]!
def O4(l:List Z4.Z2)(nm:ByteArray):Bool:=decide (0<(YO l nm).Yv)
theorem Kt(t:ByteArray)(sv:Value)(l:List Z4.Z2)(w:World)(A:l.length<=1000000)(C:Z4.X2 w sv l)(I:Z4.Zt l):
 Calls prog 41 #[sv,.string t] w λe w'=>∃(D:Int) (b:Bool),e=.returned (.tuple #[(YO l t).val,.int .i64 D,.bool b])/\(b=true↔0<=Z4.firstIdx (Z4.RI t) l)/\Below w.heap.size w w':=by
 refine(Z4.find_ok t sv l w A C I).mono ?_;rintro e w' ⟨rfl,hb⟩;unfold Z4.Lr YO;by_cases h:Z4.firstIdx (Z4.RI t) l<0;·rw[aG h,aG h];exact⟨0,false,rfl,by simp;omega,hb⟩
 ·rw[aN h,aN h];exact⟨_,true,rfl,by simp;omega,hb⟩
theorem vV(nm:ByteArray)(sv:Value)(l:List Z4.Z2)(w:World)(C:l.length<=1000000)(Z:Z4.X2 w sv l)(hT:Z4.Zt l):
 Calls prog 85 #[sv,.string nm] w λe w'=>∃d:Bool,e=.returned (.tuple #[.bool d,.bool (O4 l nm)])/\Below w.heap.size w w':=by
 have Hf:=aT (Kt nm sv l w C Z hT);have D:Hid (O4 l nm=decide (0<(YO l nm).Yv)):=rfl;generalize O4 l nm=mb at*;clear Z;generalize YO l nm=y at*;obtain⟨yn,y0,y1,I,T,y4,U,ys⟩:=y;unfold Z4.Z2.val at Hf;dsimp only at*;go_enter func85,ntmps85;go_wp2_with fail;refine Hf.mono ?_;rintro e w1 ⟨kk,b,rfl,-,A⟩;have J:=Z7.new w1 40 #[.string yn,.int .i64 y0,.int .i64 y1,.int .i64 I,.int .i64 T,.int .i64 y4,.int .i64 U,.int .i64 ys];obtain⟨_,_,_,c3,_,_,c6⟩:=J.q7;have Y:=aT (A.alloc A.size (.cells #[.string yn,.int .i64 y0,.int .i64 y1,.int .i64 I,.int .i64 T,.int .i64 y4,.int .i64 U,.int .i64 ys] 40));clear A J;cases b with
 |false=>
  go_wp2_with fail;go_quiet (fail);go_wp2;go_ret2;exact⟨_,by rw[D.out];rfl,KF Y _⟩
 |true=>
  go_wp2_with fail;go_quiet (fail);go_wp2;go_ret2;exact⟨_,by rw[D.out];rfl,KF Y _⟩
theorem vU{nm:ByteArray}{k n:Int}{ua:Option Addr}{K uc B:Nat}(sv:Value)(l:List Z4.Z2)(W:World)(I:l.length<=1000000)(Z:Z4.X2 W sv l)(hT:Z4.Zt l)(hB:Z7 W B 41 #[sv]):
 Calls prog 84 #[.agg #[.string nm,.int .i64 k,.int .i64 n,.slice ua K uc],.pointer (some ⟨B,0,none⟩)] W λe w'=>e=.returned (.bool (O4 l nm&&decide (0<K)))/\Below W.heap.size W w':=by
 have A:=Yl W (.cells #[.string nm,.int .i64 k,.int .i64 n,.slice ua K uc] TR);have Y:=aT (vV nm sv l (W.alloc (.cells #[.string nm,.int .i64 k,.int .i64 n,.slice ua K uc] TR)) I (Z.below A) hT);have J:=aT (Z7.new W TR #[.string nm,.int .i64 k,.int .i64 n,.slice ua K uc]);have D:=aT (hB.alloc (.cells #[.string nm,.int .i64 k,.int .i64 n,.slice ua K uc] TR));have T:=aT A;clear A Z hB;generalize O4 l nm=mb at*;go_enter func84,ntmps84;go_upto_region 1 with fail;generalize W.alloc (.cells #[.string nm,.int .i64 k,.int .i64 n,.slice ua K uc] TR)=w1 at*;obtain⟨⟨p0,_,_,_⟩,_⟩:=Z8 J;have b0:=D.e0;go_wp2_with fail;refine Y.mono ?_;rintro e w2 ⟨d,rfl,hb⟩;have U:=aT (J.below hb J.lt);have C:=aT (T.trans (hb.mono T.size));clear hb J T D Y b0 p0;obtain⟨⟨_,_,_,p3⟩,_⟩:=Z8 U;cases mb with
 |false=>
  go_wp2_with fail;go_ret;exact⟨jS,C⟩
 |true=>
  go_wp2_with fail;go_ret;exact⟨jS,C⟩
end Go.Proofs.YtclgigmgbebhgaaGreatDoor
