/- TopAsks: part 10: TopN8 TopN9 TopRes8. -/
import Derived.Test.YtclgigmgbebhgaaGreatDoorA09
set_option linter.unusedVariables false
set_option linter.unusedSimpArgs false
set_option maxRecDepth 100000
set_option maxHeartbeats 16000000
namespace Go.Proofs.YtclgigmgbebhgaaGreatDoor
open Tryz
open Go Go.Proofs Go.RowKit
section
variable (cd:Int->Int->Nat)
def trO(r:NR):Z3:=(r.cs,cd r.k r.n)
def ofName(nm:ByteArray)(l:List NR):List NR:=l.filter λr=>decide (r.nm=nm)
def X0(gs:List UL)(nm:ByteArray):List NR:=gs.flatMap λG=>if G.nm=nm then G.rs else []
def Tu(pr:List NR)(gs:List UL):Prop:=∀nm,Ub ((ofName nm pr).map (trO cd)) ((X0 gs nm).map (trO cd))
structure Sk(pr:List NR)(gs:List UL):Prop where
 rs:∀G∈gs,∀r∈G.rs,r.nm=G.nm/\∃q∈pr,q.nm=r.nm/\q.k=r.k/\q.n=r.n/\r.cs.length<=q.cs.length
 ne:∀G∈gs,G.rs≠[]
 len:∀G∈gs,G.rs.length<=pr.length
 cnt:gs.length<=pr.length
variable {cd} {pr:List NR} {gs:List UL}
theorem UJ(nm:ByteArray)(pr:List NR)(r:NR):ofName nm (pr++[r])=ofName nm pr++(if r.nm=nm then [r] else []):=by
 unfold ofName;rw[ayf]
 congr 1
 by_cases h:r.nm=nm<;>simp[h]
theorem XV{nm:ByteArray}(h:∀G∈gs,G.nm≠nm):X0 gs nm=[]:=by
 unfold X0;rw[List.flatMap_eq_nil_iff];intro G A;rw[aN (h G A)]
theorem Nu(a b:List UL)(nm:ByteArray):X0 (a++b) nm=X0 a nm++X0 b nm:=by unfold X0;rw[aca]
theorem O9(G:UL)(b:List UL)(nm:ByteArray):X0 (G::b) nm=(if G.nm=nm then G.rs else [])++X0 b nm:=by unfold X0;rw[acb]
theorem Tu.gone(h:Tu cd pr gs){r:NR}(hr:Uc r.cs none):Tu cd (pr++[r]) gs:=by
 intro nm;rw[UJ];by_cases e:r.nm=nm;·rw[aH e,adb];exact(h nm).gone hr
 ·rw[aN e,ade];exact h nm
theorem I0{rs:List NR}{ns:List Z5}:rs.any (WG ns)=true↔G0 (rs.map (trO cd)) ns:=by
 unfold G0;rw[akg];constructor
 ·rintro⟨r,hr,h⟩;refine⟨trO cd r,ah.2 ⟨r,hr,rfl⟩,?_⟩;unfold WG at h;have A:r.cs=[]\/r.cs=ns:=by simpa using h
  exact A
 ·rintro⟨x,hx,h⟩;obtain⟨r,hr,rfl⟩:=ah.1 hx;refine⟨r,hr,?_⟩;unfold WG;have h:r.cs=[]\/r.cs=ns:=h;simpa using h
theorem Tu.hid(h:Tu cd pr gs){r:NR}{ns:List Z5}(hr:Uc r.cs (some ns))(A:(X0 gs r.nm).any (WG ns)=true):Tu cd (pr++[r]) gs:=by
 intro nm;rw[UJ];by_cases e:r.nm=nm;·subst e;rw[aH rfl,adb];exact(h r.nm).hid hr (I0.1 A)
 ·rw[aN e,ade];exact h nm
theorem Tu.more{g1 g2:List UL}{G:UL}(h:Tu cd pr (g1++G::g2))(hn:(g1++G::g2).Pairwise (λx y=>x.nm≠y.nm)){r:NR}{ns:List Z5}(hr:Uc r.cs (some ns))(A:G.nm=r.nm)(I:G.rs.any (WG ns)=false)(gb cap:Nat)(u:Value):
 Tu cd (pr++[r]) (g1++⟨G.nm,gb,cap,G.rs++[⟨r.nm,r.k,r.n,ns⟩],G.us++[u]⟩::g2):=by
 have D:∀x∈g1,x.nm≠G.nm:=λx hx=>(afc.1 hn).2.2 x hx G jS
 have C:∀x∈g2,x.nm≠G.nm:=λx hx e=>(age.1 (afc.1 hn).2.1).1 x hx e.symm
 intro nm;have:=h nm;rw[UJ];rw[Nu,O9] at this ⊢;by_cases e:r.nm=nm;·subst e;rw[aH A,XV (λx hx=>by rw[<-A];exact D x hx),XV (λx hx=>by rw[<-A];exact C x hx),ahe,ade] at this;rw[aH rfl,aH A,XV (λx hx=>by rw[<-A];exact D x hx),XV (λx hx=>by rw[<-A];exact C x hx),ahe,ade,adb,adb];exact this.more hr (λe2=>by rw[I0.2 e2] at I;cases I)
 ·rw[aN (by rw[A];exact e)] at this;rw[aN e,aN (show ¬G.nm=nm by rw[A];exact e),ade];exact this
theorem Tu.new(h:Tu cd pr gs){r:NR}{ns:List Z5}(hr:Uc r.cs (some ns))(hn:∀G∈gs,G.nm≠r.nm)(gb cap:Nat)(u:Value):
 Tu cd (pr++[r]) (gs++[⟨r.nm,gb,cap,[⟨r.nm,r.k,r.n,ns⟩],[u]⟩]):=by
 intro nm;have:=h nm;rw[UJ,Nu,O9];by_cases e:r.nm=nm;·subst e;rw[XV hn] at this ⊢;rw[aH rfl,aH rfl,adb];have A:=this.more (ns:=ns) (code:=cd r.k r.n) hr (λ⟨x,hx,_⟩=>by cases hx);exact A
 ·rw[aN e,aN (show ¬r.nm=nm from e),ade];show Ub _ ((X0 gs nm++([]++[])).map (trO cd));rw[ade,ade];exact this
theorem Tu.nil:Tu cd [] []:=λnm=>Ub.nil
theorem Sk.step(h:Sk pr gs)(r:NR):Sk (pr++[r]) gs:=
 ⟨λG A x hx=>by obtain⟨D,q,I,C⟩:=h.rs G A x hx;exact⟨D,q,abe.2 (.inl I),C⟩,h.ne,λG A=>by rw[ay];exact Nat.le_add_right_of_le (h.len G A),by rw[ay];exact Nat.le_add_right_of_le h.cnt⟩
theorem Sk.nil:Sk [] []:=⟨λG h=>(by cases h),λG h=>(by cases h),λG h=>(by cases h),aP _⟩
theorem Sk.more{g1 g2:List UL}{G:UL}(h:Sk pr (g1++G::g2)){r:NR}{ns:List Z5}(hl:ns.length<=r.cs.length)(A:G.nm=r.nm)(gb cap:Nat)(u:Value):
 Sk (pr++[r]) (g1++⟨G.nm,gb,cap,G.rs++[⟨r.nm,r.k,r.n,ns⟩],G.us++[u]⟩::g2):=by
 have hs:=h.step r;refine⟨λX hX x hx=> ?_,λX hX=> ?_,λX hX=> ?_,?_⟩
 ·rcases abe.1 hX with hX|hX;·exact hs.rs X (by simp[hX]) x hx
  ·rcases abf.1 hX with rfl|hX
   ·rcases abe.1 hx with hx|hx;·exact hs.rs G jS x hx
    ·rw[aaa.1 hx];exact⟨A.symm,r,jS,rfl,rfl,rfl,hl⟩
   ·exact hs.rs X (by simp[hX]) x hx
 ·rcases abe.1 hX with hX|hX;·exact hs.ne X (by simp[hX])
  ·rcases abf.1 hX with rfl|hX;·simp
   ·exact hs.ne X (by simp[hX])
 ·rcases abe.1 hX with hX|hX;·exact hs.len X (by simp[hX])
  ·rcases abf.1 hX with rfl|hX;·have:=h.len G jS;rw[ay,ay];simpa using this
   ·exact hs.len X (by simp[hX])
 ·have:=hs.cnt;simpa using this
theorem Sk.new(h:Sk pr gs){r:NR}{ns:List Z5}(hl:ns.length<=r.cs.length)(gb cap:Nat)(u:Value):Sk (pr++[r]) (gs++[⟨r.nm,gb,cap,[⟨r.nm,r.k,r.n,ns⟩],[u]⟩]):=by
 have hs:=h.step r;refine⟨λX hX x hx=> ?_,λX hX=> ?_,λX hX=> ?_,?_⟩
 ·rcases abe.1 hX with hX|hX;·exact hs.rs X hX x hx
  ·rw[aaa.1 hX] at hx ⊢;rw[aaa.1 hx];exact⟨rfl,r,jS,rfl,rfl,rfl,hl⟩
 ·rcases abe.1 hX with hX|hX;·exact hs.ne X hX
  ·rw[aaa.1 hX];simp
 ·rcases abe.1 hX with hX|hX;·exact hs.len X hX
  ·rw[aaa.1 hX,ay];show 1<=_+1;omega
 ·have:=h.cnt;rw[ay,ay];simpa using this
end
end Go.Proofs.YtclgigmgbebhgaaGreatDoor
namespace Go.Proofs.YtclgigmgbebhgaaGreatDoor
open Tryz
open Go Go.Proofs Go.RowKit Go.Maps Go.WideMaps Go.ChangeMaps
abbrev V1:Nat:=51
theorem rY:(prog.info? TR).map (λi=>(i.zero,i.size,i.bytes))=some (some (.agg #[.string ⟨#[]⟩,.int .i64 0,.int .i64 0,.slice none 0 0]),4,56):=jK
structure U5(lo B P R:Nat)(cd:Int->Int->Nat)(pc:Array Value)(w:World)(pr:List NR)(gs:List UL)(W:World):Prop where
 hp:Z8 W P V1 pc
 hr:Z8 W R V1 #[.int .i64 0,.int .i64 0,.bool false,.slice none 0 0]
 Uk:U6 lo B W gs
 rX:Tu cd pr gs
 ok:Sk pr gs
 Zs:Below lo w W
 NT:lo<=B/\lo<=W.heap.size
section
variable {lo B P R:Nat} {cd:Int->Int->Nat} {pc:Array Value} {w W W':World} {pr:List NR} {gs:List UL}
theorem U5.below(h:U5 lo B P R cd pc w pr gs W)(hb:Below W.heap.size W W'):U5 lo B P R cd pc w pr gs W':=
 ⟨h.hp.below hb h.hp.lt,h.hr.below hb h.hr.lt,h.Uk.Zs hb,h.rX,h.ok,h.Zs.trans (hb.mono h.NT.2),h.NT.1,aO h.NT.2 hb.size⟩
theorem U5.drew(h:U5 lo B P R cd pc w pr gs W):U5 lo B P R cd pc w pr gs W.drew:=h.below (aG _ W).drew
theorem U5.al(h:U5 lo B P R cd pc w pr gs W)(o:Obj):U5 lo B P R cd pc w pr gs (W.alloc o):=h.below (Yk W o)
def S9(A C:Nat)(nm:ByteArray)(k n:Int)(v:Value)(W:World):Prop:=W.cell? ⟨A,0,none⟩=some (.string nm)/\W.cell? ⟨C,0,none⟩=some (.string nm)/\W.cell? ⟨C,1,none⟩=some (.int .i64 k)/\W.cell? ⟨C,2,none⟩=some (.int .i64 n)/\W.cell? ⟨C,3,none⟩=some v
theorem S9.of{A C:Nat}{nm:ByteArray}{k n:Int}{u v:Value}{X:World}(ha:Z8 X A TR #[.string nm,.int .i64 k,.int .i64 n,u])(hc:Z8 X C TR #[.string nm,.int .i64 k,.int .i64 n,v]):S9 A C nm k n v X:=by
 obtain⟨⟨a0,_,_,_⟩,_⟩:=Z7 ha;obtain⟨⟨b0,J,D,I⟩,_⟩:=Z7 hc;exact⟨a0,b0,J,D,I⟩
theorem zg{X:World}{A t:Nat}{cs:Array Value}(h:Z8 X A t cs)(hm:U6 lo B X gs):A≠B:=λe=>by
 subst e;exact KV hm.map _ _ h
def rW(lo B P R:Nat)(cd:Int->Int->Nat)(pc:Array Value)(w:World)(pr:List NR)(A C:Nat)(nm:ByteArray)(k n:Int)(v:Value)(gb cap m:Nat)(W7:World):Prop:=
 S9 A C nm k n v W7/\∃W2,(Instr.mapUpdate 191 (.map (some B)) (.string nm) (.slice (some ⟨gb,0,none⟩) m cap)).run prog W7=.ok () W2/\S9 A C nm k n v W2/\∃gs,U5 lo B P R cd pc w pr gs W2
theorem U5.more{g1 g2:List UL}{G:UL}{A C gb cap:Nat}{r:NR}{ns:List Z5}{u v:Value}{W7:World}(h:U5 lo B P R cd pc w pr (g1++G::g2) W)(ha:Z8 W A TR #[.string r.nm,.int .i64 r.k,.int .i64 r.n,u])(hc:Z8 W C TR #[.string r.nm,.int .i64 r.k,.int .i64 r.n,v])(hA:A≠G.g)(hC:C≠G.g)(hG:G.nm=r.nm)(hv:W.ownsRow lo TC 4 v ns.length (ns.flatMap cL))(hr:Uc r.cs (some ns))(hl:ns.length<=r.cs.length)(hh:G.rs.any (WG ns)=false)
 (J:W7.ownsRow lo TR 4 (.slice (some ⟨gb,0,none⟩) (G.rs.length+1) cap) (G.rs.length+1) (YG G.rs G.us++[.string r.nm,.int .i64 r.k,.int .i64 r.n,v])) (D:W.grownBy W7 (some G.g)) (Y:gb=G.g\/gb=W.heap.size):
 rW lo B P R cd pc w (pr++[r]) A C r.nm r.k r.n v gb cap (G.rs.length+1) W7:=by
 have Z:P≠G.g:=λe=>YZ (h.Uk.rows G jS).row h.hp jD (by rw[e];rfl)
 have T:R≠G.g:=λe=>YZ (h.Uk.rows G jS).row h.hr jD (by rw[e];rfl)
 obtain⟨W2,h1,h2,I⟩:=h.Uk.more (r:=⟨r.nm,r.k,r.n,ns⟩) (u:=v) D J Y hv;have ne:∀{X:Nat},X≠G.g->some X≠some G.g:=λhx e=>hx (au e)
 have nb:∀{X t:Nat} {cs:Array Value},Z8 W X t cs->some X≠some B:=λhx e=>zg hx h.Uk (au e)
 have aC8:G.g<W.heap.size:=Q4 (h.Uk.rows G jS).row rfl;have hBlt:=h.Uk.map.lt;have aC9:lo<=G.g:=((h.Uk.rows G jS).row.lt G.g rfl).1;have U:Below lo W W7:=(aG lo W).grown D h.NT.2 (λk e=>by have:=au e;omega);refine⟨S9.of (ha.kept D (ne hA)) (hc.kept D (ne hC)),W2,by rw[<-hG];exact h1,S9.of ((ha.kept D (ne hA)).kept I (nb ha)) ((hc.kept D (ne hC)).kept I (nb hc)),_,⟨(h.hp.kept D (ne Z)).kept I (nb h.hp),(h.hr.kept D (ne T)).kept I (nb h.hr),h2,?_,h.ok.more hl hG gb cap v,(h.Zs.trans U).grown I (aO h.NT.2 D.size) (λk e=>by have:=au e;have:=h.NT.1;omega),h.NT.1,aO h.NT.2 (aO D.size I.size)⟩⟩;exact h.rX.more h.Uk.names hr hG hh gb cap v
theorem U5.new{A C gb cap:Nat}(U:gb=W.heap.size){r:NR}{ns:List Z5}{u v:Value}{W7:World}(h:U5 lo B P R cd pc w pr gs W)(ha:Z8 W A TR #[.string r.nm,.int .i64 r.k,.int .i64 r.n,u])(hc:Z8 W C TR #[.string r.nm,.int .i64 r.k,.int .i64 r.n,v])(hs:r.nm.size<=1000000)(hn:∀G∈gs,G.nm≠r.nm)(hv:W.ownsRow lo TC 4 v ns.length (ns.flatMap cL))(hr:Uc r.cs (some ns))(hl:ns.length<=r.cs.length)
 (J:W7.ownsRow lo TR 4 (.slice (some ⟨gb,0,none⟩) 1 cap) 1 [.string r.nm,.int .i64 r.k,.int .i64 r.n,v]) (D:W.grownBy W7 none):
 rW lo B P R cd pc w (pr++[r]) A C r.nm r.k r.n v gb cap 1 W7:=by
 subst U;obtain⟨W2,h1,Z,I⟩:=h.Uk.new (r:=⟨r.nm,r.k,r.n,ns⟩) (u:=v) hs hn D J hv;have nb:∀{X t:Nat} {cs:Array Value},Z8 W X t cs->some X≠some B:=λhx e=>zg hx h.Uk (au e)
 have no:∀X:Nat,some X≠none:=λ_ e=>by cases e
 have Y:=h.Uk.map.lt;have T:Below lo W W7:=(aG lo W).grown D h.NT.2 (λk e=>by cases e);exact⟨S9.of (ha.kept D (no _)) (hc.kept D (no _)),W2,h1,S9.of ((ha.kept D (no _)).kept I (nb ha)) ((hc.kept D (no _)).kept I (nb hc)),_,⟨(h.hp.kept D (no _)).kept I (nb h.hp),(h.hr.kept D (no _)).kept I (nb h.hr),Z,h.rX.new hr hn _ cap v,h.ok.new hl _ cap v,(h.Zs.trans T).grown I (aO h.NT.2 D.size) (λk e=>by have:=au e;have:=h.NT.1;omega),h.NT.1,aO h.NT.2 (aO D.size I.size)⟩⟩
end
theorem wO(N:Nat)(W:World):UM N W none []:=λi r h=>by simp at h
theorem Ou(nm:ByteArray):∀gs:List UL,(∀G∈gs,G.nm≠nm)\/∃C G D,gs=C++G::D/\G.nm=nm
 |[]=>.inl (λG h=>by cases h)
 |X::gs=>by
  by_cases e:X.nm=nm;·exact .inr ⟨[],X,gs,rfl,e⟩
  ·rcases Ou nm gs with h|⟨C,G,D,J,I⟩
   ·exact .inl (λG A=>by
     rcases abf.1 A with rfl|A;·exact e
     ·exact h G A)
   ·exact .inr ⟨X::C,G,D,by rw[J];rfl,I⟩
theorem KP{g1 g2:List UL}{G:UL}(hn:(g1++G::g2).Pairwise (λx y=>x.nm≠y.nm)):X0 (g1++G::g2) G.nm=G.rs:=by
 have C:∀x∈g1,x.nm≠G.nm:=λx hx=>(afc.1 hn).2.2 x hx G jS
 have A:∀x∈g2,x.nm≠G.nm:=λx hx e=>(age.1 (afc.1 hn).2.1).1 x hx e.symm
 rw[Nu,O9,XV C,XV A,aH rfl,ahe,ade]
def TK(k n:Int)(gs:List UL)(nm:ByteArray):List NR:=((X0 gs nm).reverse.dropWhile (λr=>decide (r.k=k/\r.n=n))).reverse
def rV(cd:Int->Int->Nat)(k n:Int)(x:Bool)(pr:List NR)(w:World)(e:Ending)(w':World):Prop:=
 ∃(v:Value) (us:List Value) (ss:List ByteArray) (gs:List UL),e=.returned (.tuple #[.agg #[.int .i64 k,.int .i64 n,.bool x,v],.int .i64 0])/\ss.Perm (gs.map (·.nm))/\gs.Pairwise (λx y=>x.nm≠y.nm)/\Tu cd pr gs/\Sk pr gs/\
  TZ w.heap.size w' v (ss.flatMap (TK k n gs)) us/\Below w.heap.size w w'
theorem Nt:∀(a b:List NR) (ua A:List Value),ua.length=a.length->YG (a++b) (ua++A)=YG a ua++YG b A
 |[],b,[],A,_=>rfl
 |x::a,b,y::ua,A,h=>by show rC x y++YG (a++b) (ua++A)=rC x y++YG a ua++YG b A;rw[Nt a b ua A (by simpa using h),aba]
theorem Q3:∀(a:List NR) (ua:List Value),ua.length=a.length->(YG a ua).length=a.length*4
 |[],[],_=>rfl
 |x::a,y::ua,h=>by show(rC x y++YG a ua).length=_;rw[ay,Q3 a ua (by simpa using h)];show 4+_=(a.length+1)*4;omega
theorem Cg(m:Nat):∀(a:List NR) (ua:List Value),ua.length=a.length->YG (a.take m) (ua.take m)=(YG a ua).take (m*4):=λa ua h=>by
 have A:=Nt (a.take m) (a.drop m) (ua.take m) (ua.drop m) (by rw[abg,abg,h]);rw[aoc,aoc] at A;have C:=Q3 (a.take m) (ua.take m) (by rw[abg,abg,h]);by_cases hm:m<=a.length;·rw[A,List.take_left' (by rw[C,abg,Nat.min_eq_left hm])]
 ·rw[abd jO,abd jO,abd (by rw[Q3 a ua h];omega)]
theorem IZ:∀(a:List NR) (ua:List Value),(∀u∈ua,u.oneCell'=true)->∀v∈YG a ua,v.oneCell'=true
 |[],_,_,v,hv=>by cases hv
 |_::_,[],_,v,hv=>by cases hv
 |x::a,y::ua,h,v,hv=>by
  have hv:v∈rC x y++YG a ua:=hv;rcases abe.1 hv with hv|hv
  ·unfold rC at hv;simp at hv;rcases hv with rfl|rfl|rfl|rfl;·rfl
   ·rfl
   ·rfl
   ·exact h v jS
  ·exact IZ a ua (λu hu=>h u (by simp[hu])) v hv
theorem row_one{lo:Nat}{W:World}{v:Value}{rs:List NR}{us:List Value}(h:TZ lo W v rs us):∀u∈us,u.oneCell'=true:=λu hu=>by
 obtain⟨i,hi,rfl⟩:=ahd.1 hu;have hr:i<rs.length:=by rw[<-h.len];exact hi
 obtain⟨a,c,e⟩:=ZY (h.cs i _ rs[i] (aM hi) (aM hr));rw[e];rfl
structure Ns(lo B P R O BO SB:Nat)(cd:Int->Int->Nat)(k n:Int)(x:Bool)(ra:Value)(w:World)(pr:List NR)(gs:List UL)(ss:List ByteArray)(vs:Value)(vo:Value)(rs:List NR)(us:List Value)(W:World):Prop where
 inv:U5 lo B P R cd #[.int .i64 k,.int .i64 n,.bool x,ra] w pr gs W
 out:Z8 W O V1 #[.int .i64 k,.int .i64 n,.bool x,vo]
 len:us.length=rs.length
 row:W.ownsRow BO TR 4 vo rs.length (YG rs us)
 cs:∀(j:Nat) (u:Value) (r:NR),us[j]? =some u->rs[j]? =some r->W.ownsRow lo TC 4 u r.cs.length (r.cs.flatMap cL)
 nms:W.ownsRow SB 9 1 vs ss.length (ss.map Value.string)
 old:(∀G∈gs,G.g<BO)/\B<BO/\lo<=BO/\BO<=W.heap.size/\lo<=O/\P≠O/\R≠O
section
variable {lo B P R O BO SB:Nat} {cd:Int->Int->Nat} {k n:Int} {x:Bool} {ra:Value} {w W W':World} {pr:List NR} {gs:List UL} {ss:List ByteArray} {vs vo:Value} {rs:List NR} {us:List Value}
theorem Ns.Zs(h:Ns lo B P R O BO SB cd k n x ra w pr gs ss vs vo rs us W)(hb:Below W.heap.size W W'):Ns lo B P R O BO SB cd k n x ra w pr gs ss vs vo rs us W':=
 ⟨h.inv.below hb,h.out.below hb h.out.lt,h.len,ZF h.row hb,λj u r hu hr=>ZF (h.cs j u r hu hr) hb,ZF h.nms hb,h.old.1,h.old.2.1,h.old.2.2.1,aO h.old.2.2.2.1 hb.size,h.old.2.2.2.2⟩
theorem Ns.dn(h:Ns lo B P R O BO SB cd k n x ra w pr gs ss vs vo rs us W)(q:Nat):Ns lo B P R O BO SB cd k n x ra w pr gs ss vs vo rs us (W.drewN q):=h.Zs (KY (aG _ W) q)
theorem Ns.app{G:UL}{m:Nat}{nk:Value}(h:Ns lo B P R O BO SB cd k n x ra w pr gs ss vs vo rs us W)(hG:G∈gs)(hm:m<=G.rs.length)(hown:W'.ownsRow BO TR 4 nk (rs.length+m) (YG rs us++YG (G.rs.take m) (G.us.take m)))(D:W.grownBy W' vo.ownBlock):
 Ns lo B P R O BO SB cd k n x ra w pr gs ss vs nk (rs++G.rs.take m) (us++G.us.take m) (W'.setCell ⟨O,3,none⟩ nk):=by
 have J:∀j,vo.ownBlock=some j->BO<=j:=λj e=>(h.row.lt j e).1
 have hGr:=h.inv.Uk.rows G hG;have nT:∀{X t:Nat} {cs:Array Value},Z8 W X t cs->TR≠t->some X≠vo.ownBlock:=λhx ht e=>YZ h.row hx ht e.symm
 have nB:some B≠vo.ownBlock:=λe=>by have:=J B e.symm;have:=h.old.2.1;omega
 have A:=h.out.kept D (nT h.out jD);have kT:∀{base e s n:Nat} {u:Value} {xs:List Value},W.ownsRow base e s u n xs->TR≠e->e≠V1->(W'.setCell ⟨O,3,none⟩ nk).ownsRow base e s u n xs:=λ{base e s n u xs} T ht ht2=>by
  refine ZW (T.kept D ?_) A ht2 3 _;rcases T.2 with⟨rfl,_⟩|⟨g,cap,cur,rfl,_,hb,_⟩;·exact .inl rfl
  ·exact .inr (λe2=>nT (show Z8 W g e cur from hb) ht e2)
 have sO:∀Y:World,Y.grownBy (Y.setCell ⟨O,3,none⟩ nk) (some O):=λY=>⟨rfl,rfl,rfl,jS,λi _ I=>afd Y ⟨O,3,none⟩ nk i (λe=>I (by rw[e]))⟩
 have C:=h.inv.Uk.map;have hBO:B≠O:=λe=>by subst e;exact KV C _ _ h.out
 have aq3:U6 lo B (W'.setCell ⟨O,3,none⟩ nk) gs:=by
  refine⟨(C.kept D nB).kept (sO W') (λe=>hBO (au e)),λX hX=> ?_,h.inv.Uk.names,h.inv.Uk.wY,h.inv.Uk.size⟩;have T:=(h.inv.Uk.rows X hX).grown D (λj e=>⟨λe2=>by have h3:X.g=j:=au e2;have:=J j e;have:=h.old.1 X hX;omega,λcs hb=>YZ h.row hb jD e⟩)
  refine T.grown (sO W') (λj e=> ?_);have e3:O=j:=au e;subst e3;exact⟨YZ T.row A jD,λcs hb=>by have h3:=(show W'.heap[O]? =_ from A).symm.trans hb;simp only[aka,aye] at h3;exact absurd h3.2.1 jD⟩
 have Z:Below lo w (W'.setCell ⟨O,3,none⟩ nk):=(h.inv.Zs.grown D h.inv.NT.2 (λj e=>aO h.old.2.2.1 (J j e))).setCell (p:=⟨O,3,none⟩) h.old.2.2.2.2.1 _;have hsz:W.heap.size<=(W'.setCell ⟨O,3,none⟩ nk).heap.size:=by have:=D.size;simpa using this
 have kB:∀{X:Nat} {cs:Array Value},Z8 W X V1 cs->X≠O->Z8 (W'.setCell ⟨O,3,none⟩ nk) X V1 cs:=λhx I=>(hx.kept D (nT hx jD)).other I 3 _
 have im:(G.rs.take m).length=m:=by rw[abg];omega
 have hul:(G.us.take m).length=m:=by rw[abg,hGr.len];omega
 refine⟨⟨kB h.inv.hp h.old.2.2.2.2.2.1,kB h.inv.hr h.old.2.2.2.2.2.2,aq3,h.inv.rX,h.inv.ok,Z,h.inv.NT.1,aO h.inv.NT.2 hsz⟩,A.set 3 _,by rw[ay,ay,im,hul,h.len],?_,λj u r hu hr=> ?_,kT h.nms jD jD,h.old.1,h.old.2.1,h.old.2.2.1,aO h.old.2.2.2.1 hsz,h.old.2.2.2.2⟩;·rw[ay,im,Nt _ _ _ _ h.len];exact ZW hown A jD 3 _
 ·by_cases hj:j<rs.length;·rw[abc (by rw[h.len];exact hj)] at hu;rw[abc hj] at hr;exact kT (h.cs j u r hu hr) jD jD
  ·rw[aae (by rw[h.len];omega),h.len] at hu;rw[aae jO] at hr;rw[aif] at hu hr;split at hr;·rename_i U;rw[aH U] at hu;exact kT (hGr.cs _ u r hu hr) jD jD
   ·cases hr
end
theorem lq{fn:Func}{t u:Tmp}(h:fn.results=#[.cell t V1,.tmp u]){tmps:Array Value}{W:World}{R:Nat}{c0 c1 c2 c3:Value}(hb:Z8 W R V1 #[c0,c1,c2,c3])(ht:tmps.getD t undef=.pointer (some ⟨R,0,none⟩)):(results fn tmps).run prog W=.ok (.tuple #[.agg #[c0,c1,c2,c3],tmps.getD u undef]) W:=by
 obtain⟨⟨e0,e1,e2,e3⟩,_⟩:=Z7 hb;rw[aja] at ht;simp[results,h,go_sem,ht,e0,e1,e2,e3]
theorem aq4{a b c d:Int}(h:¬(a=c/\b=d))(w:World):(Go.binOp .eql 48 (.agg #[.int .i64 a,.int .i64 b]) (.agg #[.int .i64 c,.int .i64 d])).run prog w=.ok (.bool false) w:=by
 simp[go_sem];omega
theorem cR:∀w,(Go.sizeOf TR).run prog w=.ok 4 w:=λ_=>jK
theorem Ee(W:World)(g n C k:Nat)(hk:k<=C):(Instr.slice 49 (.slice (some ⟨g,0,none⟩) n C) none (some (.int .i64 k)) none).run prog W=.ok (.slice (some ⟨g,0,none⟩) k C) W:=by
 have A:prog.underlying 49=some (.slice (prog.elem 49)):=by simp[Program.elem,underlying49]
 have D:prog.elem 49=TR:=by simp[Program.elem,underlying49]
 rw[run_slice_h W _ _ _ _ A .i64 _ jO jO,D,cR];simp[Result.andThen,sliced,Addr.add]
def strip(k n:Int)(l:List NR):List NR:=(l.reverse.dropWhile (λr=>decide (r.k=k/\r.n=n))).reverse
theorem Cf{k n:Int}(l:List NR)(r:NR):strip k n (l++[r])=if r.k=k/\r.n=n then strip k n l else l++[r]:=by
 unfold strip;rw[List.reverse_append];show(List.dropWhile _ (r::l.reverse)).reverse=_;rw[aqa];by_cases h:r.k=k/\r.n=n;·rw[aH (by simpa using h),aH h]
 ·rw[aN (by simpa using h),aN h,awe,axd]
theorem wN(k n:Int)(l:List NR):(strip k n l).length<=l.length:=by
 unfold strip;rw[ava];exact aO (awa _).length_le jS
theorem lp{pr:List NR}{gs:List UL}(h:Sk pr gs)(hn:gs.Pairwise (λx y=>x.nm≠y.nm))(k n:Int)(nm:ByteArray):(TK k n gs nm).length<=pr.length:=by
 refine aO (wN k n _) ?_;rcases Ou nm gs with A|⟨C,G,D,rfl,A⟩
 ·rw[XV A];exact abb _
 ·rw[<-A,KP hn];exact h.len G jS
theorem ze{α β:Type}{f:α->List β}{b:Nat}(h:∀x,(f x).length<=b):∀l:List α,(l.flatMap f).length<=l.length*b
 |[]=>jS
 |x::l=>by have:=ze h l;have:=h x;rw[acb,ay,aj,arb];omega
theorem rU{cd:Int->Int->Nat}{N L c:Nat}{a:Option Addr}{pr:List NR}{k n:Int}{x:Bool}(hL:pr.length=L)(XA:L<=500)(hsz:∀r∈pr,r.nm.size<=1000/\r.cs.length<=1000/\∀c∈r.cs,c.right)(w:World)(hQ:UM N w a pr)(hN:N<=w.heap.size)
 (RJ:∀W,Below w.heap.size w W->Calls prog 75 #[.agg #[.int .i64 k,.int .i64 n,.bool x,.slice a L c]] W λe w'=>e=.returned (.bool true)/\Below W.heap.size W w'):
 Calls prog 36 #[.agg #[.int .i64 k,.int .i64 n,.bool x,.slice a L c]] w (rV cd k n x pr w):=by
 have HL:=aT hL;have gR:=aT hsz;have HQ:=aT hQ;have uv:=aT RJ;have JO:= @apb prog;have HP:=aT ((Z8.new w V1 #[.int .i64 k,.int .i64 n,.bool x,.slice a L c]).alloc (.cells #[.int .i64 0,.int .i64 0,.bool false,.slice none 0 0] V1));have HR:=aT (Z8.OE w (.cells #[.int .i64 k,.int .i64 n,.bool x,.slice a L c] V1) V1 #[.int .i64 0,.int .i64 0,.bool false,.slice none 0 0]);have HB:=aT (JK w (.cells #[.int .i64 k,.int .i64 n,.bool x,.slice a L c] V1) (.cells #[.int .i64 0,.int .i64 0,.bool false,.slice none 0 0] V1));clear hL hsz hQ RJ;obtain⟨i0,XW,SC,Vo,TF⟩:=PH rY;go_enter func36,ntmps36;go_upto_region 1 with fail;generalize (w.alloc (.cells #[.int .i64 k,.int .i64 n,.bool x,.slice a L c] V1)).alloc (.cells #[.int .i64 0,.int .i64 0,.bool false,.slice none 0 0] V1)=w1 at*;obtain⟨R,hR⟩:=jX (w.heap.size+1);rw[hR] at HR ⊢;have ur:w.heap.size<R:=jO;clear hR;obtain⟨⟨p0,p1,p2,p3⟩,_⟩:=Z7 HP.out;go_wp2_with fail;refine(uv.out w1 HB.out).mono ?_;rintro e w2 ⟨rfl,hb⟩
 have FW:Hid (U5 w.heap.size w2.heap.size w.heap.size R cd #[.int .i64 k,.int .i64 n,.bool x,.slice a L c] w [] [] (w2.alloc (.map #[] 0))):=
  ⟨(HP.out.below hb HP.out.lt).alloc _,(HR.out.below hb HR.out.lt).alloc _,U6.nil (lo:=w.heap.size) (w:=w2),Tu.nil,Sk.nil,((HB.out.trans (hb.mono HB.out.size))).alloc (aO HB.out.size hb.size) _,aO HB.out.size hb.size,aO (aO HB.out.size hb.size) (Yk w2 (.map #[] 0)).size⟩
 clear hb HP HR HB p0 p1 p2 p3 uv;go_upto_region 4 with fail;generalize w2.alloc (.map #[] 0)=w3 at*;generalize w2.heap.size=B at*;obtain⟨⟨p0,p1,p2,p3⟩,_⟩:=Z7 FW.out.hp;go_upto_region 5 with fail;go_loopg [21] (L+1) (λgg iv wr=>∃(i:Nat) (gs:List UL),i<=L/\L-i<gg/\iv=.int .i64 (i:Int)/\Hid (U5 w.heap.size B w.heap.size R cd #[.int .i64 k,.int .i64 n,.bool x,.slice a L c] w (pr.take i) gs wr));case atStart=>exact⟨0,[],abb _,jO,rfl,FW⟩
 case round=>
  obtain⟨i,gs,tM,VM,rfl,HI⟩:=hrel;clear FW p0 p1 p2 p3;have JS:=jW i;have Cq:=jZ i;by_cases hlt:i<L
  ·have Zc:(i:Int)<(L:Int):=by omega
   obtain⟨r,hr⟩:∃r,pr[i]? =some r:=⟨_,aM (by rw[HL.out];exact hlt)⟩;obtain⟨g,off,u,rfl,Va,y0,y1,y2,y3,hcs⟩:=HQ.out i r hr;have hwb:=HI.out.Zs;have y0:=ZZ hwb hN Va y0;have y1:=ZZ hwb hN Va y1;have y2:=ZZ hwb hN Va y2;have y3:=ZZ hwb hN Va y3;have xS:=aT (hcs.below hwb hN);have HT:=aT (VT hr);obtain⟨hs1,hs2,hs3⟩:=gR.out r (ag hr);have nw:=aT hs3;obtain⟨ua,uc,rfl⟩:=xS.out.form;clear hcs hr hs3 hwb;have HA:=aT (Z8.new wr TR #[.string r.nm,.int .i64 r.k,.int .i64 r.n,.slice ua r.cs.length uc]);have Y:=aT (HI.out.al (.cells #[.string r.nm,.int .i64 r.k,.int .i64 r.n,.slice ua r.cs.length uc] TR));have zz:=aT (xS.out.below (Yk wr (.cells #[.string r.nm,.int .i64 r.k,.int .i64 r.n,.slice ua r.cs.length uc] TR)) (aO hN HI.out.NT.2));have hwr:w.heap.size<=wr.heap.size:=HI.out.NT.2;have HGA:Hid (∀G∈gs,wr.heap.size≠G.g):=λG hG e=>by have:G.g<wr.heap.size:=Q4 (HI.out.Uk.rows G hG).row rfl;omega
   clear xS HI;go_upto_region 7 with fail;clear y0 y1 y2 y3;generalize wr.alloc (.cells #[.string r.nm,.int .i64 r.k,.int .i64 r.n,.slice ua r.cs.length uc] TR)=w4 at*;generalize wr.heap.size=A at*;obtain⟨⟨a0,a1,a2,a3⟩,_⟩:=Z7 HA.out;have uo:=aT (xd (nm:=r.nm) (k:=r.k) (n:=r.n) rfl hs2 nw.out w4 zz.out (aO hN Y.out.NT.2));obtain⟨Q,lj⟩:=jX r.cs.length;have HQd:=aT lj;rw[lj] at uo hs2 HA;clear lj a3;obtain⟨⟨_,_,_,a3⟩,_⟩:=Z7 HA.out;go_wp2_with fail;refine uo.out.mono ?_;rintro e w5 ⟨h,hb⟩;have s6:=aT (HA.out.below hb HA.out.lt);have yZ:=aT (Y.out.below hb);have um:A<w5.heap.size:=s6.out.lt;rcases h with⟨hno,rfl⟩|⟨v,ns,hns,hnl,rfl,hv⟩
   ·have dZ:=aT hno;clear hno hb HA Y uo;go_wp2_with fail;go_roundg (L-i);case measure=>omega
    case rel=>exact⟨i+1,gs,jO,jO,by go_num,(by rw[HT.out];exact(show U5 _ _ _ _ _ _ _ _ _ _ from {yZ.out.al _ with rX:=yZ.out.rX.gone dZ.out,ok:=yZ.out.ok.step r}))⟩
   ·have HNS:=aT hns;have HNL:=aT hnl;have HV:=aT (Ze hv (show w.heap.size<=w4.heap.size from Y.out.NT.2));obtain⟨va,J,rfl⟩:=ZY hv;clear hns hnl hv hb HA Y uo;obtain⟨M,hM⟩:=jX ns.length;have HM:=aT hM;have HV:Hid (w5.ownsRow w.heap.size TC 4 (.slice va M J) ns.length (ns.flatMap cL)):=by rw[<-hM];exact HV
    rw[hM];clear hM;have nj:=aT (Z8.new w5 TR #[.string r.nm,.int .i64 r.k,.int .i64 r.n,.slice va M J]);have GJ:=aT (s6.out.alloc (.cells #[.string r.nm,.int .i64 r.k,.int .i64 r.n,.slice va M J] TR));have T:=aT (yZ.out.al (.cells #[.string r.nm,.int .i64 r.k,.int .i64 r.n,.slice va M J] TR));have uk:=aT (HV.out.alloc (.cells #[.string r.nm,.int .i64 r.k,.int .i64 r.n,.slice va M J] TR));have HGC:Hid (∀G∈gs,w5.heap.size≠G.g):=λG hG e=>by have:G.g<w5.heap.size:=Q4 (yZ.out.Uk.rows G hG).row rfl;omega
    go_upto_region 8 with fail;clear s6 yZ HV;generalize w5.alloc (.cells #[.string r.nm,.int .i64 r.k,.int .i64 r.n,.slice va M J] TR)=w6 at*;generalize w5.heap.size=C at*;obtain⟨⟨a0,_,_,_⟩,_⟩:=Z7 GJ.out;obtain⟨⟨c0,c1,c2,c3⟩,_⟩:=Z7 nj.out;have hCM:=Tz uk.out;rcases Ou r.nm gs with hno|⟨g1,G,g2,rfl,hG⟩
    ·have lk:=T.out.Uk.Xt (nm:=r.nm) jO hno;have dZ:=aT hno;have HH:=aT (KX (rs:=[]) (c:=0) (nm:=r.nm) (k:=r.k) (n:=r.n) rfl jD (λr h=>by cases h) w6 (wO _ _) hCM (aP _));clear hno hCM;go_wp2_with fail;refine HH.out.mono ?_;rintro e w8 ⟨rfl,hb⟩;have lh:=aT (GJ.out.below hb GJ.out.lt);have IY:=aT (nj.out.below hb nj.out.lt);have lg:=aT (T.out.below hb);have HV8:=aT (ZF uk.out hb);clear hb HH GJ nj T uk lk a0 c0 c1 c2 c3;simp only[List.any_nil];have gQ:=aT (lg.out.al (.cells #[.string r.nm,.int .i64 r.k,.int .i64 r.n,.slice va M J] TR)).drew;have HAb:Hid (Z8 (w8.alloc (.cells #[.string r.nm,.int .i64 r.k,.int .i64 r.n,.slice va M J] TR)).drew A TR #[.string r.nm,.int .i64 r.k,.int .i64 r.n,.slice ua Q uc]):=lh.out.alloc _;have HCb:Hid (Z8 (w8.alloc (.cells #[.string r.nm,.int .i64 r.k,.int .i64 r.n,.slice va M J] TR)).drew C TR #[.string r.nm,.int .i64 r.k,.int .i64 r.n,.slice va M J]):=IY.out.alloc _;have HVb:Hid ((w8.alloc (.cells #[.string r.nm,.int .i64 r.k,.int .i64 r.n,.slice va M J] TR)).drew.ownsRow w.heap.size TC 4 (.slice va M J) ns.length (ns.flatMap cL)):=HV8.out.alloc _;have lk:=lg.out.drew.Uk.Xt (nm:=r.nm) jO dZ.out;have lk2:=gQ.out.Uk.Xt (nm:=r.nm) jO dZ.out;obtain⟨⟨a0,_,_,_⟩,_⟩:=Z7 lh.out;obtain⟨⟨c0,c1,c2,c3⟩,_⟩:=Z7 IY.out;go_upto_region 9 with fail
     go_region_held_law (λw'=>w'.cell? ⟨A,0,none⟩=some (.string r.nm)/\w'.cell? ⟨C,0,none⟩=some (.string r.nm)/\w'.cell? ⟨C,1,none⟩=some (.int .i64 r.k)/\w'.cell? ⟨C,2,none⟩=some (.int .i64 r.n)/\w'.cell? ⟨C,3,none⟩=some (.slice va M J)) (first|assumption|exact hS7|exact il|exact S9.of HAb.out HCb.out|exact S9.of lh.out IY.out) (first
      |(refine step_append_lies _ rfl _ _ 49 rfl w.heap.size TR i0 (.agg #[.string ⟨#[]⟩,.int .i64 0,.int .i64 0,.slice none 0 0]) 4 56 underlying49 XW SC Vo TF rfl jD (.slice none 0 0) 0 [] rfl (ane _ _ _ _) ⟨w8.heap.size,0,none⟩ 1 1 [.string r.nm,.int .i64 r.k,.int .i64 r.n,.slice va M J] rfl rfl (World.news_of_block (Z8.new w8 _ _)) (by simp[Value.oneCell']) jD (by unfold maxLen;omega) jO gQ.out.NT.2 _ rfl ?_;intro gb cap w9 U lf rT aq5;obtain⟨hS7,W2,hup,il,gs2,cQ⟩:=U5.new (rT.resolve_left (by simp[Value.ownBlock])) gQ.out HAb.out HCb.out jO dZ.out HVb.out HNS.out HNL.out U lf;have ni:=aT cQ;clear cQ U lf rT))
     all_goals (go_wp2_with fail;go_roundg (L-i);(case measure=>omega);(case rel=>exact⟨i+1,gs2,jO,jO,by go_num,by rw[HT.out];exact ni⟩))
    ·have gM:=T.out.ok.len G jS;have hGl:G.rs.length<=500:=aO gM (by rw[abg];omega)
     have HLK:Hid (∀X:World,U6 w.heap.size B X (g1++G::g2)->(Instr.lookup 191 (.map (some B)) (.string r.nm) false).run prog X=.ok (.slice (some ⟨G.g,0,none⟩) G.rs.length G.cap) X):=λX hX=>by have:=hX.I6 (G:=G) jS;rw[hG] at this;exact this
     have lk:=HLK.out _ T.out.Uk;have HGn:=aT hG;have HH:=aT (KX (rs:=G.rs) (c:=G.cap) (nm:=r.nm) (k:=r.k) (n:=r.n) rfl jO (λq hq=>by obtain⟨_,q0,hq0,_,_,_,h5⟩:=T.out.ok.rs G jS q hq;have:=(gR.out q0 (ald hq0)).2.1;omega) w6 (TZ.rows (T.out.Uk.rows G jS)) hCM (aP _))
     clear hG hCM gM;cases rS:G.rs.any (WG ns) with
     |true=>
      rw[rS] at HH;have HHt:Hid ((X0 (g1++G::g2) r.nm).any (WG ns)=true):=by show _=_;rw[<-HGn.out,KP T.out.Uk.names];exact rS
      clear rS;go_wp2_with fail;refine HH.out.mono ?_;rintro e w8 ⟨rfl,hb⟩;have lg:=aT (T.out.below hb);clear hb HH GJ nj T uk lk a0 c0 c1 c2 c3;go_wp2_with fail;go_roundg (L-i);case measure=>omega
      case rel=>exact⟨i+1,g1++G::g2,jO,jO,by go_num,(by rw[HT.out];exact(show U5 _ _ _ _ _ _ _ _ _ _ from {lg.out with rX:=lg.out.rX.hid HNS.out HHt.out,ok:=lg.out.ok.step r}))⟩
     |false=>
      rw[rS] at HH;have HHf:=aT rS;clear rS;go_wp2_with fail;refine HH.out.mono ?_;rintro e w8 ⟨rfl,hb⟩;have lh:=aT (GJ.out.below hb GJ.out.lt);have IY:=aT (nj.out.below hb nj.out.lt);have lg:=aT (T.out.below hb);have HV8:=aT (ZF uk.out hb);clear hb HH GJ nj T uk lk a0 c0 c1 c2 c3;have gQ:=aT (lg.out.al (.cells #[.string r.nm,.int .i64 r.k,.int .i64 r.n,.slice va M J] TR)).drew;have HAb:Hid (Z8 (w8.alloc (.cells #[.string r.nm,.int .i64 r.k,.int .i64 r.n,.slice va M J] TR)).drew A TR #[.string r.nm,.int .i64 r.k,.int .i64 r.n,.slice ua Q uc]):=lh.out.alloc _;have HCb:Hid (Z8 (w8.alloc (.cells #[.string r.nm,.int .i64 r.k,.int .i64 r.n,.slice va M J] TR)).drew C TR #[.string r.nm,.int .i64 r.k,.int .i64 r.n,.slice va M J]):=IY.out.alloc _;have HVb:Hid ((w8.alloc (.cells #[.string r.nm,.int .i64 r.k,.int .i64 r.n,.slice va M J] TR)).drew.ownsRow w.heap.size TC 4 (.slice va M J) ns.length (ns.flatMap cL)):=HV8.out.alloc _;have lk:=HLK.out _ lg.out.drew.Uk;have lk2:=HLK.out _ gQ.out.Uk;obtain⟨⟨a0,_,_,_⟩,_⟩:=Z7 lh.out;obtain⟨⟨c0,c1,c2,c3⟩,_⟩:=Z7 IY.out;go_upto_region 9 with fail
      go_region_held_law (λw'=>w'.cell? ⟨A,0,none⟩=some (.string r.nm)/\w'.cell? ⟨C,0,none⟩=some (.string r.nm)/\w'.cell? ⟨C,1,none⟩=some (.int .i64 r.k)/\w'.cell? ⟨C,2,none⟩=some (.int .i64 r.n)/\w'.cell? ⟨C,3,none⟩=some (.slice va M J)) (first|assumption|exact hS7|exact il|exact S9.of HAb.out HCb.out|exact S9.of lh.out IY.out) (first
       |(refine step_append_lies _ rfl _ _ 49 rfl w.heap.size TR i0 (.agg #[.string ⟨#[]⟩,.int .i64 0,.int .i64 0,.slice none 0 0]) 4 56 underlying49 XW SC Vo TF rfl jD (.slice (some ⟨G.g,0,none⟩) G.rs.length G.cap) G.rs.length _ rfl (gQ.out.Uk.rows G jS).row ⟨w8.heap.size,0,none⟩ 1 1 [.string r.nm,.int .i64 r.k,.int .i64 r.n,.slice va M J] rfl rfl (World.news_of_block (Z8.new w8 _ _)) (by simp[Value.oneCell']) jD (by unfold maxLen;omega) jO gQ.out.NT.2 _ rfl ?_;intro gb cap w9 U lf rT aq5;obtain⟨hS7,W2,hup,il,gs2,cQ⟩:=U5.more gQ.out HAb.out HCb.out (HGA.out G jS) (HGC.out G jS) HGn.out HVb.out HNS.out HNL.out HHf.out U lf (rT.imp (λe=>(au e).symm) id);have ni:=aT cQ;clear cQ U lf rT))
      all_goals (go_wp2_with fail;go_roundg (L-i);(case measure=>omega);(case rel=>exact⟨i+1,gs2,jO,jO,by go_num,by rw[HT.out];exact ni⟩))
  ·obtain rfl:i=L:=by omega
   have Zc:¬(i:Int)<(i:Int):=jO;have Y:Hid (U5 w.heap.size B w.heap.size R cd #[.int .i64 k,.int .i64 n,.bool x,.slice a i c] w pr gs wr):=by have h:=HI.out;rwa [abd (by rw[HL.out];exact aP _)] at h
   obtain⟨⟨p0,p1,p2,_⟩,_⟩:=Z7 Y.out.hp;have wZ:=aT (Z8.new wr V1 #[.int .i64 k,.int .i64 n,.bool x,.slice none 0 0]);have dT:=aT (Y.out.al (.cells #[.int .i64 k,.int .i64 n,.bool x,.slice none 0 0] V1));have hwr:w.heap.size<=wr.heap.size:=HI.out.NT.2;have hne:w.heap.size≠wr.heap.size/\R≠wr.heap.size:=⟨Nat.ne_of_lt Y.out.hp.lt,Nat.ne_of_lt Y.out.hr.lt⟩;clear HI;go_upto_region 12 with fail;clear p0 p1 p2 Y;generalize wr.alloc (.cells #[.int .i64 k,.int .i64 n,.bool x,.slice none 0 0] V1)=w4 at*;generalize wr.heap.size=O at*;have aq6:gs.length<=500:=aO dT.out.ok.cnt (by rw[HL.out];exact XA);have HS:=aT (Ef (W:=w4) (ks:=gs.map (·.nm)) dT.out.Uk.map (by unfold RN;rw[akb,akb];rfl) (λs hs=>by obtain⟨G,hG,rfl⟩:=ah.1 hs;exact dT.out.Uk.size G hG) (by rw[aac];omega))
   go_wp2_with fail;refine(wP (some B) w4).mono ?_;rintro e w5 ⟨rfl,rfl⟩;go_wp2_with fail;refine HS.out.mono ?_;rintro e w6 ⟨vs,ss,rfl,yY,hrow,hb⟩;have HSS:=aT yY;have hM:ss.length=gs.length:=by rw[yY.length_eq,aac]
   obtain⟨sa,sc,rfl⟩:=ZY hrow;have hO6:=wZ.out.below hb wZ.out.lt;have gL:=dT.out.below hb
   have HJ0:Hid (Ns w.heap.size B w.heap.size R O w6.heap.size w4.heap.size cd k n x (.slice a i c) w pr gs ss (.slice sa ss.length sc) (.slice none 0 0) [] [] w6):=
    ⟨gL,hO6,rfl,ane _ _ _ _,λj u r h=>(by simp at h),hrow,λG hG=>Q4 (gL.Uk.rows G hG).row rfl,gL.Uk.map.lt,gL.NT.2,aP _,hwr,hne.1,hne.2⟩
   clear yY hrow hb hO6 gL HS dT wZ;obtain⟨M,hMd⟩:=jX ss.length;have HMd:=aT hMd;rw[hMd] at hM HJ0 ⊢;have hM5:M<=500:=jO;clear hMd hM;go_upto_region 13 with fail;go_loopg [60] (M+1) (λgg iv wr=>∃(q:Nat) (vo:Value) (us:List Value),q<=M/\M-q<gg/\iv=.int .i64 (q:Int)/\Hid (Ns w.heap.size B w.heap.size R O w6.heap.size w4.heap.size cd k n x (.slice a i c) w pr gs ss (.slice sa M sc) vo ((ss.take q).flatMap (TK k n gs)) us wr));case atStart=>exact⟨0,.slice none 0 0,[],abb _,jO,rfl,HJ0⟩
   case round=>
    obtain⟨q,vo,us,hqM,mm,rfl,Z⟩:=hrel;clear HJ0;have q0:=jZ q;have kZ:=jW q;by_cases hq:q<M
    ·have lH:(q:Int)<(M:Int):=by omega
     obtain⟨nm,wM⟩:∃nm,ss[q]? =some nm:=⟨_,aM (by rw[HMd.out];exact hq)⟩;obtain⟨gS,hsa⟩:∃gS,sa=some ⟨gS,0,none⟩:=by
      rcases Z.out.nms.2 with⟨e,h0⟩|⟨gS,cap,cur,e,_⟩;·rw[HMd.out] at h0;omega
      ·injection e with e;exact⟨gS,e⟩
     subst hsa;have yS:wr.cell? ⟨gS,q,none⟩=some (.string nm):=by have h0:=Z.out.nms;rw[HMd.out] at h0;have h1:=h0.cellAt q jO;rw[h1,ada,wM];rfl
     obtain⟨G,nr,hG⟩:∃G,G∈gs/\G.nm=nm:=by have:=HSS.out.mem_iff.1 (ag wM);obtain⟨G,h1,h2⟩:=ah.1 this;exact⟨G,h1,h2⟩
     have HSG:Hid (TK k n gs nm=strip k n G.rs):=by
      show TK k n gs nm=_;rcases Ou nm gs with h1|⟨g1,G2,g2,e,h1⟩;·exact absurd hG (h1 G nr)
      ·have hGG:G2=G:=by
        subst e;rcases abe.1 nr with hm|hm;·exact absurd (hG.trans h1.symm) ((afc.1 Z.out.inv.Uk.names).2.2 G hm G2 jS)
        ·rcases abf.1 hm with rfl|hm;·rfl
         ·exact absurd (h1.trans hG.symm) ((age.1 (afc.1 Z.out.inv.Uk.names).2.1).1 G hm)
       subst hGG;unfold TK strip;have h3:X0 gs nm=G2.rs:=by have h4:=Z.out.inv.Uk.names;rw[e] at h4 ⊢;rw[<-h1];exact KP h4
       rw[h3]
     have Ek:=aT (VT wM);have lk:=Z.out.inv.Uk.I6 nr;rw[hG] at lk;unfold UL.v at lk;have HGm:=aT nr;have hGl:G.rs.length<=500:=aO (Z.out.inv.ok.len G nr) (by rw[HL.out];exact XA);have hGc:G.rs.length<=G.cap:=(LP (Z.out.inv.Uk.rows G nr).row).1;clear wM hG nr;go_upto_region 15 with fail;go_upto_region 16 with fail;clear yS lk;go_loopg [12] (G.rs.length+1) (λgg3 s12 wr=>∃m:Nat,m<=G.rs.length/\m<gg3/\s12=.slice (some ⟨G.g,0,none⟩) m G.cap/\Hid (Ns w.heap.size B w.heap.size R O w6.heap.size w4.heap.size cd k n x (.slice a i c) w pr gs ss (.slice (some ⟨gS,0,none⟩) M sc) vo ((ss.take q).flatMap (TK k n gs)) us wr)/\Hid (TK k n gs nm=strip k n (G.rs.take m)));case atStart=>exact⟨G.rs.length,aP _,jO,rfl,Z,(by rw[List.take_length];exact HSG)⟩
     case round=>
      obtain⟨m,hm,af8,rfl,HJm,HSm⟩:=hrel;clear Z HSG;obtain⟨⟨p0,p1,_,_⟩,_⟩:=Z7 HJm.out.inv.hp;go_upto_region 16 with fail;go_cut [81] from 67 to 86 (λs wx=>∃r:Bool,s=.bool r/\Hid (r=true->0<m/\strip k n (G.rs.take m)=strip k n (G.rs.take (m-1)))/\Hid (r=false->strip k n (G.rs.take m)=G.rs.take m)/\Hid (Ns w.heap.size B w.heap.size R O w6.heap.size w4.heap.size cd k n x (.slice a i c) w pr gs ss (.slice (some ⟨gS,0,none⟩) M sc) vo ((ss.take q).flatMap (TK k n gs)) us wx))
      case first=>
       by_cases CU:m=0;·subst CU;go_quiet (fail);go_wp2_with fail;go_meet;exact⟨_,rfl,(show Hid _ from λe=>by cases e),(show Hid _ from λ_=>rfl),aT (HJm.out.dn _)⟩
       ·obtain⟨e,he⟩:=jX (m-1);have hmz:decide ((0:Int)<(m:Int))=true:=by simp;omega
        have ap8:(0:Int)<(m:Int):=jO;have zw:decide (0<m)=true:=ace jO;have ap9:0<m:=jO;have dp:IntKind.i64.wrap ((m:Int)-1)=(e:Int):=by rw[aJ _ jO];omega
        have b0:=jZ e;have b1:(e:Int)<(m:Int):=jO;have uw:e<G.rs.length:=jO;obtain⟨rr,Ce⟩:∃rr,G.rs[e]? =some rr:=⟨_,aM uw⟩;have D:=HJm.out.inv.Uk.rows G HGm.out;obtain⟨uu,huu⟩:∃uu,G.us[e]? =some uu:=⟨_,aM (by rw[D.len];exact uw)⟩;have yk:wr.cell? ⟨G.g,e*4+1,none⟩=some (.int .i64 rr.k):=by have:=World.ownsRow.cellAt (show wr.ownsRow w.heap.size TR 4 (.slice (some ⟨G.g,0,none⟩) G.rs.length G.cap) G.rs.length (YG G.rs G.us) from D.row) (e*4+1) jO;rw[this,RO _ _ _ _ _ Ce huu 1 jD];rfl
        have yn:wr.cell? ⟨G.g,e*4+2,none⟩=some (.int .i64 rr.n):=by have:=World.ownsRow.cellAt (show wr.ownsRow w.heap.size TR 4 (.slice (some ⟨G.g,0,none⟩) G.rs.length G.cap) G.rs.length (YG G.rs G.us) from D.row) (e*4+2) jO;rw[this,RO _ _ _ _ _ Ce huu 2 jD];rfl
        have gK:G.rs.take m=G.rs.take e++[rr]:=by have:m=e+1:=jO;rw[this];exact VT Ce
        have HST:Hid (strip k n (G.rs.take m)=if rr.k=k/\rr.n=n then strip k n (G.rs.take e) else G.rs.take m):=by show strip k n (G.rs.take m)=_;rw[gK];exact Cf _ _
        have HE:Hid (m-1=e):=he;clear Ce D huu gK he;by_cases hk:rr.k=k/\rr.n=n
        ·have GQ:Hid (strip k n (G.rs.take m)=strip k n (G.rs.take (m-1))):=by
          show _=_;rw[HST.out,aH hk,HE.out]
         rw[hk.1] at yk;rw[hk.2] at yn;clear hk;go_quiet (fail);go_wp2_with fail;go_meet;exact⟨_,rfl,(show Hid _ from λ_=>⟨jO,GQ.out⟩),(show Hid _ from λe=>by cases e),aT (HJm.out.dn _)⟩
        ·have hea:=aq4 hk
         have GQ:Hid (strip k n (G.rs.take m)=G.rs.take m):=by show _=_;rw[HST.out,aN hk]
         clear hk;generalize rr.k=rk at*;generalize rr.n=rn at*;go_quiet (fail);go_wp2_with fail;go_meet;exact⟨_,rfl,(show Hid _ from λe=>by cases e),(show Hid _ from λ_=>GQ.out),aT (HJm.out.dn _)⟩
      case rest=>
       obtain⟨r,rfl,tJ,tR,I⟩:=hcut;clear HJm p0 p1;cases r with
       |true=>
        obtain⟨e,he⟩:=jX (m-1);have CU:=(tJ.out rfl).1;have QN:Hid (TK k n gs nm=strip k n (G.rs.take e)):=by show _=_;rw[HSm.out,(tJ.out rfl).2,he]
        have dp:IntKind.i64.wrap ((m:Int)-1)=(e:Int):=by rw[aJ _ jO];omega
        have sl:=λW=>Ee W G.g m G.cap e jO
        have hem:e<=G.rs.length/\e<m:=jO;clear he;go_wp2_with fail;go_roundg m;case measure=>omega
        case rel=>exact⟨e,hem.1,hem.2,rfl,I,QN⟩
       |false=>
        have QN:Hid (TK k n gs nm=G.rs.take m):=HSm.out.trans (tR.out rfl);have HBo:Hid (((ss.take q).flatMap (TK k n gs)).length<=250000):=by
         have h1:=ze (lp I.out.inv.ok I.out.inv.Uk.names k n) (ss.take q);have h2:(ss.take q).length<=500:=by rw[abg];omega
         have h3:(ss.take q).length*pr.length<=500*500:=Nat.mul_le_mul h2 (by rw[HL.out];exact XA);show _<=_;omega
        have HX:Hid (((ss.take q).flatMap (TK k n gs))++G.rs.take m=(ss.take (q+1)).flatMap (TK k n gs)):=by show _=_;rw[Ek.out,aca,acb,ase,ade,QN.out]
        generalize (ss.take q).flatMap (TK k n gs)=rs at*;have hbo:rs.length<=250000:=HBo.out;obtain⟨va,J,rfl⟩:=ZY I.out.row;obtain⟨⟨_,_,_,o3⟩,_,_,_,f3⟩:=Z7 I.out.out;have D:=I.out.inv.Uk.rows G HGm.out;have HFT:=aT (Cg m G.rs G.us D.len);have HNL:Hid ((YG (G.rs.take m) (G.us.take m)).length=m*4):=by show _=_;rw[Q3 _ _ (by rw[abg,abg,D.len]),abg];omega
        have HON:Hid (∀u∈YG (G.rs.take m) (G.us.take m),u.oneCell'=true):=IZ _ _ (λu hu=>row_one D u (ald hu));have HNW:Hid (∀j u,(YG (G.rs.take m) (G.us.take m))[j]? =some u->wc.cell? ((⟨G.g,0,none⟩:Addr).add j)=some u):=λj u hu=>by
         refine World.ownsRow.cells (v:=G.v) D.row rfl j u ?_;rw[HFT.out,aif] at hu;split at hu;·exact hu
         ·cases hu
        clear D;go_upto_region 18 with fail
        go_wp2_with (at_builtin;(refine aea _ rfl _ _ 49 rfl w6.heap.size TR i0 (.agg #[.string ⟨#[]⟩,.int .i64 0,.int .i64 0,.slice none 0 0]) 4 56 underlying49 XW SC Vo TF rfl jD _ rs.length _ rfl I.out.row ⟨G.g,0,none⟩ m G.cap _ rfl HNL.out HNW.out HON.out (by unfold maxLen;omega) jO I.out.old.2.2.2.1 ?_;intro v' w7 hown' hgrow _;obtain⟨dh,vc',rfl⟩:=ZY hown';have HJ7:=aT (I.out.app HGm.out hm hown' hgrow);have hO7:=I.out.out.kept hgrow (λe=>YZ I.out.row I.out.out jD e.symm);obtain⟨⟨_,_,_,o7⟩,_,_,_,f7⟩:=Z7 hO7;clear hown' hgrow hO7))
        go_wp2_with fail;go_roundg (M-q);case measure=>omega
        case rel=>exact⟨q+1,_,_,jO,jO,by go_num,(by rw[<-HX.out];exact HJ7)⟩
    ·obtain rfl:q=M:=by omega
     have lH:¬(q:Int)<(q:Int):=jO;have HX:Hid ((ss.take q).flatMap (TK k n gs)=ss.flatMap (TK k n gs)):=by show _=_;rw[abd (by rw[HMd.out];exact aP _)]
     obtain⟨va,J,rfl⟩:=ZY Z.out.row;obtain⟨⟨o0,o1,o2,o3⟩,_⟩:=Z7 Z.out.out;have kY:=Z.out.inv.hr;obtain⟨⟨r0,r1,r2,r3⟩,f0,f1,f2,f3⟩:=Z7 kY;generalize hrs:(ss.take q).flatMap (TK k n gs)=rs at*;go_wp2_with fail;have c4:∀{base e s n0:Nat} {u:Value} {xs:List Value},wr.ownsRow base e s u n0 xs->e≠V1->((((wr.setCell ⟨R,0,none⟩ (.int .i64 k)).setCell ⟨R,1,none⟩ (.int .i64 n)).setCell ⟨R,2,none⟩ (.bool x)).setCell ⟨R,3,none⟩ (.slice va rs.length J)).ownsRow base e s u n0 xs:=λ{base e s n0 u xs} h1 ht=>
      ZW (ZW (ZW (ZW h1 kY ht 0 _) (kY.set 0 _) ht 1 _) ((kY.set 0 _).set 1 _) ht 2 _) (((kY.set 0 _).set 1 _).set 2 _) ht 3 _
     refine aaf (lq rfl (ZH kY _ _ _ _) rfl) rfl ?_;refine⟨_,us,ss,gs,rfl,HSS.out,Z.out.inv.Uk.names,Z.out.inv.rX,Z.out.inv.ok,?_,ZG Z.out.inv.Zs (acd ur) _ _ _ _⟩;rw[<-HX.out];exact⟨Z.out.len,Ze (c4 Z.out.row jD) Z.out.old.2.2.1,λj u r hu hr=>c4 (Z.out.cs j u r hu hr) jD⟩
end Go.Proofs.YtclgigmgbebhgaaGreatDoor
namespace Go.Proofs.YtclgigmgbebhgaaGreatDoor
open Tryz
open Go Go.Proofs Go.RowKit
def YP(l:List Z4.Z0)(nm:ByteArray):Z4.Z0:=if Z4.firstIdx (Z4.Uy nm) l<0 then Z4.Z0.zero else l[(Z4.firstIdx (Z4.Uy nm) l).toNat]!
def RI(l:List Z4.Z0)(nm:ByteArray):Bool:=decide (0<(YP l nm).Ys)
theorem KO(t:ByteArray)(sv:Value)(l:List Z4.Z0)(w:World)(A:l.length<=1000000)(I:Z4.VS w sv l)(C:Z4.Zv l):
 Calls prog 41 #[sv,.string t] w λe w'=>∃(D:Int) (b:Bool),e=.returned (.tuple #[(YP l t).val,.int .i64 D,.bool b])/\(b=true↔0<=Z4.firstIdx (Z4.Uy t) l)/\Below w.heap.size w w':=by
 refine(Z4.find_ok t sv l w A I C).mono ?_;rintro e w' ⟨rfl,hb⟩;unfold Z4.LM YP;by_cases h:Z4.firstIdx (Z4.Uy t) l<0;·rw[aH h,aH h];exact⟨0,false,rfl,by simp;omega,hb⟩
 ·rw[aN h,aN h];exact⟨_,true,rfl,by simp;omega,hb⟩
theorem wL(nm:ByteArray)(sv:Value)(l:List Z4.Z0)(w:World)(C:l.length<=1000000)(Z:Z4.VS w sv l)(hT:Z4.Zv l):
 Calls prog 85 #[sv,.string nm] w λe w'=>∃d:Bool,e=.returned (.tuple #[.bool d,.bool (RI l nm)])/\Below w.heap.size w w':=by
 have Hf:=aT (KO nm sv l w C Z hT);have HM:Hid (RI l nm=decide (0<(YP l nm).Ys)):=rfl;generalize RI l nm=mb at*;clear Z;generalize YP l nm=y at*;obtain⟨I,Y,U,T,D,y4,J,ys⟩:=y;unfold Z4.Z0.val at Hf;dsimp only at*;go_enter func85,ntmps85;go_wp2_with fail;refine Hf.mono ?_;rintro e w1 ⟨kk,b,rfl,-,A⟩;have bY:=Z8.new w1 40 #[.string I,.int .i64 Y,.int .i64 U,.int .i64 T,.int .i64 D,.int .i64 y4,.int .i64 J,.int .i64 ys];obtain⟨_,_,_,c3,_,_,c6⟩:=bY.q7;have HB:=aT (A.alloc A.size (.cells #[.string I,.int .i64 Y,.int .i64 U,.int .i64 T,.int .i64 D,.int .i64 y4,.int .i64 J,.int .i64 ys] 40));clear A bY;cases b with
 |false=>
  go_wp2_with fail;go_quiet (fail);go_wp2;go_ret2;exact⟨_,by rw[HM.out];rfl,KY HB _⟩
 |true=>
  go_wp2_with fail;go_quiet (fail);go_wp2;go_ret2;exact⟨_,by rw[HM.out];rfl,KY HB _⟩
theorem wK{nm:ByteArray}{k n:Int}{ua:Option Addr}{K uc B:Nat}(sv:Value)(l:List Z4.Z0)(W:World)(C:l.length<=1000000)(Y:Z4.VS W sv l)(hT:Z4.Zv l)(hB:Z8 W B 41 #[sv]):
 Calls prog 84 #[.agg #[.string nm,.int .i64 k,.int .i64 n,.slice ua K uc],.pointer (some ⟨B,0,none⟩)] W λe w'=>e=.returned (.bool (RI l nm&&decide (0<K)))/\Below W.heap.size W w':=by
 have A:=Yk W (.cells #[.string nm,.int .i64 k,.int .i64 n,.slice ua K uc] TR);have Z:=aT (wL nm sv l (W.alloc (.cells #[.string nm,.int .i64 k,.int .i64 n,.slice ua K uc] TR)) C (Y.below A) hT);have J:=aT (Z8.new W TR #[.string nm,.int .i64 k,.int .i64 n,.slice ua K uc]);have I:=aT (hB.alloc (.cells #[.string nm,.int .i64 k,.int .i64 n,.slice ua K uc] TR));have U:=aT A;clear A Y hB;generalize RI l nm=mb at*;go_enter func84,ntmps84;go_upto_region 1 with fail;generalize W.alloc (.cells #[.string nm,.int .i64 k,.int .i64 n,.slice ua K uc] TR)=w1 at*;obtain⟨⟨p0,_,_,_⟩,_⟩:=Z7 J;have b0:=I.e0;go_wp2_with fail;refine Z.mono ?_;rintro e w2 ⟨d,rfl,hb⟩;have T:=aT (J.below hb J.lt);have D:=aT (U.trans (hb.mono U.size));clear hb J U I Z b0 p0;obtain⟨⟨_,_,_,p3⟩,_⟩:=Z7 T;cases mb with
 |false=>
  go_wp2_with fail;go_ret;exact⟨jS,D⟩
 |true=>
  go_wp2_with fail;go_ret;exact⟨jS,D⟩
end Go.Proofs.YtclgigmgbebhgaaGreatDoor
