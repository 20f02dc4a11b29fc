/- TopFirst: part 10: TopN8 TopN9 TopRes8. -/
import Derived.Test.YtclgigmgbebhgaaGreatDoorF09
set_option linter.unusedVariables false
set_option linter.unusedSimpArgs false
set_option maxRecDepth 100000
set_option maxHeartbeats 16000000
namespace Go.Proofs.YtclgigmgbebhgaaGreatDoor
open Tryz
open Go Go.Proofs Go.RowKit
section
variable (cd:Int->Int->Nat)
def trO(r:NR):Z3:=(r.cs,cd r.k r.n)
def ofName(nm:ByteArray)(l:List NR):List NR:=l.filter λr=>decide (r.nm=nm)
def XW(gs:List Uu)(nm:ByteArray):List NR:=gs.flatMap λG=>if G.nm=nm then G.rs else []
def Tc(pr:List NR)(gs:List Uu):Prop:=∀nm,TU ((ofName nm pr).map (trO cd)) ((XW gs nm).map (trO cd))
structure RY(pr:List NR)(gs:List Uu):Prop where
 rs:∀G∈gs,∀r∈G.rs,r.nm=G.nm/\∃q∈pr,q.nm=r.nm/\q.k=r.k/\q.n=r.n/\r.cs.length<=q.cs.length
 ne:∀G∈gs,G.rs≠[]
 len:∀G∈gs,G.rs.length<=pr.length
 cnt:gs.length<=pr.length
variable {cd} {pr:List NR} {gs:List Uu}
theorem Us(nm:ByteArray)(pr:List NR)(r:NR):ofName nm (pr++[r])=ofName nm pr++(if r.nm=nm then [r] else []):=by
 unfold ofName;rw[aye]
 congr 1
 by_cases h:r.nm=nm<;>simp[h]
theorem XR{nm:ByteArray}(h:∀G∈gs,G.nm≠nm):XW gs nm=[]:=by
 unfold XW;rw[List.flatMap_eq_nil_iff];intro G C;rw[aN (h G C)]
theorem Na(a b:List Uu)(nm:ByteArray):XW (a++b) nm=XW a nm++XW b nm:=by unfold XW;rw[aca]
theorem OU(G:Uu)(b:List Uu)(nm:ByteArray):XW (G::b) nm=(if G.nm=nm then G.rs else [])++XW b nm:=by unfold XW;rw[ace]
theorem Tc.gone(h:Tc cd pr gs){r:NR}(hr:TV r.cs none):Tc cd (pr++[r]) gs:=by
 intro nm;rw[Us];by_cases e:r.nm=nm;·rw[aF e,ada];exact(h nm).gone hr
 ·rw[aN e,adb];exact h nm
theorem Ii{rs:List NR}{ns:List Z5}:rs.any (Wv ns)=true↔Gr (rs.map (trO cd)) ns:=by
 unfold Gr;rw[aka];constructor
 ·rintro⟨r,hr,h⟩;refine⟨trO cd r,ah.2 ⟨r,hr,rfl⟩,?_⟩;unfold Wv at h;have C:r.cs=[]\/r.cs=ns:=by simpa using h
  exact C
 ·rintro⟨x,hx,h⟩;obtain⟨r,hr,rfl⟩:=ah.1 hx;refine⟨r,hr,?_⟩;unfold Wv;have h:r.cs=[]\/r.cs=ns:=h;simpa using h
theorem Tc.hid(h:Tc cd pr gs){r:NR}{ns:List Z5}(hr:TV r.cs (some ns))(C:(XW gs r.nm).any (Wv ns)=true):Tc cd (pr++[r]) gs:=by
 intro nm;rw[Us];by_cases e:r.nm=nm;·subst e;rw[aF rfl,ada];exact(h r.nm).hid hr (Ii.1 C)
 ·rw[aN e,adb];exact h nm
theorem Tc.more{g1 g2:List Uu}{G:Uu}(h:Tc cd pr (g1++G::g2))(hn:(g1++G::g2).Pairwise (λx y=>x.nm≠y.nm)){r:NR}{ns:List Z5}(hr:TV r.cs (some ns))(C:G.nm=r.nm)(I:G.rs.any (Wv ns)=false)(gb cap:Nat)(u:Value):
 Tc cd (pr++[r]) (g1++⟨G.nm,gb,cap,G.rs++[⟨r.nm,r.k,r.n,ns⟩],G.us++[u]⟩::g2):=by
 have J:∀x∈g1,x.nm≠G.nm:=λx hx=>(afb.1 hn).2.2 x hx G jS
 have D:∀x∈g2,x.nm≠G.nm:=λx hx e=>(age.1 (afb.1 hn).2.1).1 x hx e.symm
 intro nm;have:=h nm;rw[Us];rw[Na,OU] at this ⊢;by_cases e:r.nm=nm;·subst e;rw[aF C,XR (λx hx=>by rw[<-C];exact J x hx),XR (λx hx=>by rw[<-C];exact D x hx),ahe,adb] at this;rw[aF rfl,aF C,XR (λx hx=>by rw[<-C];exact J x hx),XR (λx hx=>by rw[<-C];exact D x hx),ahe,adb,ada,ada];exact this.more hr (λe2=>by rw[Ii.2 e2] at I;cases I)
 ·rw[aN (by rw[C];exact e)] at this;rw[aN e,aN (show ¬G.nm=nm by rw[C];exact e),adb];exact this
theorem Tc.new(h:Tc cd pr gs){r:NR}{ns:List Z5}(hr:TV r.cs (some ns))(hn:∀G∈gs,G.nm≠r.nm)(gb cap:Nat)(u:Value):
 Tc cd (pr++[r]) (gs++[⟨r.nm,gb,cap,[⟨r.nm,r.k,r.n,ns⟩],[u]⟩]):=by
 intro nm;have:=h nm;rw[Us,Na,OU];by_cases e:r.nm=nm;·subst e;rw[XR hn] at this ⊢;rw[aF rfl,aF rfl,ada];have C:=this.more (ns:=ns) (code:=cd r.k r.n) hr (λ⟨x,hx,_⟩=>by cases hx);exact C
 ·rw[aN e,aN (show ¬r.nm=nm from e),adb];show TU _ ((XW gs nm++([]++[])).map (trO cd));rw[adb,adb];exact this
theorem Tc.nil:Tc cd [] []:=λnm=>TU.nil
theorem RY.step(h:RY pr gs)(r:NR):RY (pr++[r]) gs:=
 ⟨λG C x hx=>by obtain⟨I,q,J,D⟩:=h.rs G C x hx;exact⟨I,q,abf.2 (.inl J),D⟩,h.ne,λG C=>by rw[ay];exact Nat.le_add_right_of_le (h.len G C),by rw[ay];exact Nat.le_add_right_of_le h.cnt⟩
theorem RY.nil:RY [] []:=⟨λG h=>(by cases h),λG h=>(by cases h),λG h=>(by cases h),aR _⟩
theorem RY.more{g1 g2:List Uu}{G:Uu}(h:RY pr (g1++G::g2)){r:NR}{ns:List Z5}(hl:ns.length<=r.cs.length)(C:G.nm=r.nm)(gb cap:Nat)(u:Value):
 RY (pr++[r]) (g1++⟨G.nm,gb,cap,G.rs++[⟨r.nm,r.k,r.n,ns⟩],G.us++[u]⟩::g2):=by
 have hs:=h.step r;refine⟨λX hX x hx=> ?_,λX hX=> ?_,λX hX=> ?_,?_⟩
 ·rcases abf.1 hX with hX|hX;·exact hs.rs X (by simp[hX]) x hx
  ·rcases abb.1 hX with rfl|hX
   ·rcases abf.1 hx with hx|hx;·exact hs.rs G jS x hx
    ·rw[aaa.1 hx];exact⟨C.symm,r,jS,rfl,rfl,rfl,hl⟩
   ·exact hs.rs X (by simp[hX]) x hx
 ·rcases abf.1 hX with hX|hX;·exact hs.ne X (by simp[hX])
  ·rcases abb.1 hX with rfl|hX;·simp
   ·exact hs.ne X (by simp[hX])
 ·rcases abf.1 hX with hX|hX;·exact hs.len X (by simp[hX])
  ·rcases abb.1 hX with rfl|hX;·have:=h.len G jS;rw[ay,ay];simpa using this
   ·exact hs.len X (by simp[hX])
 ·have:=hs.cnt;simpa using this
theorem RY.new(h:RY pr gs){r:NR}{ns:List Z5}(hl:ns.length<=r.cs.length)(gb cap:Nat)(u:Value):RY (pr++[r]) (gs++[⟨r.nm,gb,cap,[⟨r.nm,r.k,r.n,ns⟩],[u]⟩]):=by
 have hs:=h.step r;refine⟨λX hX x hx=> ?_,λX hX=> ?_,λX hX=> ?_,?_⟩
 ·rcases abf.1 hX with hX|hX;·exact hs.rs X hX x hx
  ·rw[aaa.1 hX] at hx ⊢;rw[aaa.1 hx];exact⟨rfl,r,jS,rfl,rfl,rfl,hl⟩
 ·rcases abf.1 hX with hX|hX;·exact hs.ne X hX
  ·rw[aaa.1 hX];simp
 ·rcases abf.1 hX with hX|hX;·exact hs.len X hX
  ·rw[aaa.1 hX,ay];show 1<=_+1;omega
 ·have:=h.cnt;rw[ay,ay];simpa using this
end
end Go.Proofs.YtclgigmgbebhgaaGreatDoor
namespace Go.Proofs.YtclgigmgbebhgaaGreatDoor
open Tryz
open Go Go.Proofs Go.RowKit Go.Maps Go.WideMaps Go.ChangeMaps
abbrev VQ:Nat:=51
theorem rj:(prog.info? TR).map (λi=>(i.zero,i.size,i.bytes))=some (some (.agg #[.string ⟨#[]⟩,.int .i64 0,.int .i64 0,.slice none 0 0]),4,56):=jK
structure UN(lo B P R:Nat)(cd:Int->Int->Nat)(pc:Array Value)(w:World)(pr:List NR)(gs:List Uu)(W:World):Prop where
 hp:Z7 W P VQ pc
 hr:Z7 W R VQ #[.int .i64 0,.int .i64 0,.bool false,.slice none 0 0]
 T6:UQ lo B W gs
 ri:Tc cd pr gs
 ok:RY pr gs
 Zr:Below lo w W
 Nw:lo<=B/\lo<=W.heap.size
section
variable {lo B P R:Nat} {cd:Int->Int->Nat} {pc:Array Value} {w W W':World} {pr:List NR} {gs:List Uu}
theorem UN.below(h:UN lo B P R cd pc w pr gs W)(hb:Below W.heap.size W W'):UN lo B P R cd pc w pr gs W':=
 ⟨h.hp.below hb h.hp.lt,h.hr.below hb h.hr.lt,h.T6.Zr hb,h.ri,h.ok,h.Zr.trans (hb.mono h.Nw.2),h.Nw.1,aO h.Nw.2 hb.size⟩
theorem UN.drew(h:UN lo B P R cd pc w pr gs W):UN lo B P R cd pc w pr gs W.drew:=h.below (aG _ W).drew
theorem UN.al(h:UN lo B P R cd pc w pr gs W)(o:Obj):UN lo B P R cd pc w pr gs (W.alloc o):=h.below (Yx W o)
def S9(A C:Nat)(nm:ByteArray)(k n:Int)(v:Value)(W:World):Prop:=W.cell? ⟨A,0,none⟩=some (.string nm)/\W.cell? ⟨C,0,none⟩=some (.string nm)/\W.cell? ⟨C,1,none⟩=some (.int .i64 k)/\W.cell? ⟨C,2,none⟩=some (.int .i64 n)/\W.cell? ⟨C,3,none⟩=some v
theorem S9.of{A C:Nat}{nm:ByteArray}{k n:Int}{u v:Value}{X:World}(ha:Z7 X A TR #[.string nm,.int .i64 k,.int .i64 n,u])(hc:Z7 X C TR #[.string nm,.int .i64 k,.int .i64 n,v]):S9 A C nm k n v X:=by
 obtain⟨⟨a0,_,_,_⟩,_⟩:=Z8 ha;obtain⟨⟨b0,J,I,D⟩,_⟩:=Z8 hc;exact⟨a0,b0,J,I,D⟩
theorem yN{X:World}{A t:Nat}{cs:Array Value}(h:Z7 X A t cs)(hm:UQ lo B X gs):A≠B:=λe=>by
 subst e;exact Ks hm.map _ _ h
def rh(lo B P R:Nat)(cd:Int->Int->Nat)(pc:Array Value)(w:World)(pr:List NR)(A C:Nat)(nm:ByteArray)(k n:Int)(v:Value)(gb cap m:Nat)(W7:World):Prop:=
 S9 A C nm k n v W7/\∃W2,(Instr.mapUpdate 191 (.map (some B)) (.string nm) (.slice (some ⟨gb,0,none⟩) m cap)).run prog W7=.ok () W2/\S9 A C nm k n v W2/\∃gs,UN lo B P R cd pc w pr gs W2
theorem UN.more{g1 g2:List Uu}{G:Uu}{A C gb cap:Nat}{r:NR}{ns:List Z5}{u v:Value}{W7:World}(h:UN lo B P R cd pc w pr (g1++G::g2) W)(ha:Z7 W A TR #[.string r.nm,.int .i64 r.k,.int .i64 r.n,u])(hc:Z7 W C TR #[.string r.nm,.int .i64 r.k,.int .i64 r.n,v])(hA:A≠G.g)(hC:C≠G.g)(Y:G.nm=r.nm)(hv:W.ownsRow lo TC 4 v ns.length (ns.flatMap cL))(hr:TV r.cs (some ns))(hl:ns.length<=r.cs.length)(hh:G.rs.any (Wv ns)=false)
 (J:W7.ownsRow lo TR 4 (.slice (some ⟨gb,0,none⟩) (G.rs.length+1) cap) (G.rs.length+1) (YD G.rs G.us++[.string r.nm,.int .i64 r.k,.int .i64 r.n,v])) (D:W.grownBy W7 (some G.g)) (T:gb=G.g\/gb=W.heap.size):
 rh lo B P R cd pc w (pr++[r]) A C r.nm r.k r.n v gb cap (G.rs.length+1) W7:=by
 have hpG:P≠G.g:=λe=>YV (h.T6.rows G jS).row h.hp jD (by rw[e];rfl)
 have U:R≠G.g:=λe=>YV (h.T6.rows G jS).row h.hr jD (by rw[e];rfl)
 obtain⟨W2,h1,h2,I⟩:=h.T6.more (r:=⟨r.nm,r.k,r.n,ns⟩) (u:=v) D J T hv;have ne:∀{X:Nat},X≠G.g->some X≠some G.g:=λhx e=>hx (aq e)
 have nb:∀{X t:Nat} {cs:Array Value},Z7 W X t cs->some X≠some B:=λhx e=>yN hx h.T6 (aq e)
 have aH7:G.g<W.heap.size:=QJ (h.T6.rows G jS).row rfl;have hBlt:=h.T6.map.lt;have aH8:lo<=G.g:=((h.T6.rows G jS).row.lt G.g rfl).1;have Z:Below lo W W7:=(aG lo W).grown D h.Nw.2 (λk e=>by have:=aq e;omega);refine⟨S9.of (ha.kept D (ne hA)) (hc.kept D (ne hC)),W2,by rw[<-Y];exact h1,S9.of ((ha.kept D (ne hA)).kept I (nb ha)) ((hc.kept D (ne hC)).kept I (nb hc)),_,⟨(h.hp.kept D (ne hpG)).kept I (nb h.hp),(h.hr.kept D (ne U)).kept I (nb h.hr),h2,?_,h.ok.more hl Y gb cap v,(h.Zr.trans Z).grown I (aO h.Nw.2 D.size) (λk e=>by have:=aq e;have:=h.Nw.1;omega),h.Nw.1,aO h.Nw.2 (aO D.size I.size)⟩⟩;exact h.ri.more h.T6.names hr Y hh gb cap v
theorem UN.new{A C gb cap:Nat}(T:gb=W.heap.size){r:NR}{ns:List Z5}{u v:Value}{W7:World}(h:UN lo B P R cd pc w pr gs W)(ha:Z7 W A TR #[.string r.nm,.int .i64 r.k,.int .i64 r.n,u])(hc:Z7 W C TR #[.string r.nm,.int .i64 r.k,.int .i64 r.n,v])(hs:r.nm.size<=1000000)(hn:∀G∈gs,G.nm≠r.nm)(hv:W.ownsRow lo TC 4 v ns.length (ns.flatMap cL))(hr:TV r.cs (some ns))(hl:ns.length<=r.cs.length)
 (J:W7.ownsRow lo TR 4 (.slice (some ⟨gb,0,none⟩) 1 cap) 1 [.string r.nm,.int .i64 r.k,.int .i64 r.n,v]) (D:W.grownBy W7 none):
 rh lo B P R cd pc w (pr++[r]) A C r.nm r.k r.n v gb cap 1 W7:=by
 subst T;obtain⟨W2,h1,Z,I⟩:=h.T6.new (r:=⟨r.nm,r.k,r.n,ns⟩) (u:=v) hs hn D J hv;have nb:∀{X t:Nat} {cs:Array Value},Z7 W X t cs->some X≠some B:=λhx e=>yN hx h.T6 (aq e)
 have no:∀X:Nat,some X≠none:=λ_ e=>by cases e
 have Y:=h.T6.map.lt;have U:Below lo W W7:=(aG lo W).grown D h.Nw.2 (λk e=>by cases e);exact⟨S9.of (ha.kept D (no _)) (hc.kept D (no _)),W2,h1,S9.of ((ha.kept D (no _)).kept I (nb ha)) ((hc.kept D (no _)).kept I (nb hc)),_,⟨(h.hp.kept D (no _)).kept I (nb h.hp),(h.hr.kept D (no _)).kept I (nb h.hr),Z,h.ri.new hr hn _ cap v,h.ok.new hl _ cap v,(h.Zr.trans U).grown I (aO h.Nw.2 D.size) (λk e=>by have:=aq e;have:=h.Nw.1;omega),h.Nw.1,aO h.Nw.2 (aO D.size I.size)⟩⟩
end
theorem vR(N:Nat)(W:World):Uv N W none []:=λi r h=>by simp at h
theorem N5(nm:ByteArray):∀gs:List Uu,(∀G∈gs,G.nm≠nm)\/∃D G I,gs=D++G::I/\G.nm=nm
 |[]=>.inl (λG h=>by cases h)
 |X::gs=>by
  by_cases e:X.nm=nm;·exact .inr ⟨[],X,gs,rfl,e⟩
  ·rcases N5 nm gs with h|⟨D,G,I,T,J⟩
   ·exact .inl (λG C=>by
     rcases abb.1 C with rfl|C;·exact e
     ·exact h G C)
   ·exact .inr ⟨X::D,G,I,by rw[T];rfl,J⟩
theorem Km{g1 g2:List Uu}{G:Uu}(hn:(g1++G::g2).Pairwise (λx y=>x.nm≠y.nm)):XW (g1++G::g2) G.nm=G.rs:=by
 have C:∀x∈g1,x.nm≠G.nm:=λx hx=>(afb.1 hn).2.2 x hx G jS
 have D:∀x∈g2,x.nm≠G.nm:=λx hx e=>(age.1 (afb.1 hn).2.1).1 x hx e.symm
 rw[Na,OU,XR C,XR D,aF rfl,ahe,adb]
def Ts(k n:Int)(gs:List Uu)(nm:ByteArray):List NR:=((XW gs nm).reverse.dropWhile (λr=>decide (r.k=k/\r.n=n))).reverse
def rf(cd:Int->Int->Nat)(k n:Int)(x:Bool)(pr:List NR)(w:World)(e:Ending)(w':World):Prop:=
 ∃(v:Value) (us:List Value) (ss:List ByteArray) (gs:List Uu),e=.returned (.tuple #[.agg #[.int .i64 k,.int .i64 n,.bool x,v],.int .i64 0])/\ss.Perm (gs.map (·.nm))/\gs.Pairwise (λx y=>x.nm≠y.nm)/\Tc cd pr gs/\RY pr gs/\
  TK w.heap.size w' v (ss.flatMap (Ts k n gs)) us/\Below w.heap.size w w'
theorem M9:∀(a b:List NR) (ua C:List Value),ua.length=a.length->YD (a++b) (ua++C)=YD a ua++YD b C
 |[],b,[],C,_=>rfl
 |x::a,b,y::ua,C,h=>by show rC x y++YD (a++b) (ua++C)=rC x y++YD a ua++YD b C;rw[M9 a b ua C (by simpa using h),aag]
theorem QI:∀(a:List NR) (ua:List Value),ua.length=a.length->(YD a ua).length=a.length*4
 |[],[],_=>rfl
 |x::a,y::ua,h=>by show(rC x y++YD a ua).length=_;rw[ay,QI a ua (by simpa using h)];show 4+_=(a.length+1)*4;omega
theorem Bo(m:Nat):∀(a:List NR) (ua:List Value),ua.length=a.length->YD (a.take m) (ua.take m)=(YD a ua).take (m*4):=λa ua h=>by
 have C:=M9 (a.take m) (a.drop m) (ua.take m) (ua.drop m) (by rw[abg,abg,h]);rw[aoa,aoa] at C;have D:=QI (a.take m) (ua.take m) (by rw[abg,abg,h]);by_cases hm:m<=a.length;·rw[C,List.take_left' (by rw[D,abg,Nat.min_eq_left hm])]
 ·rw[abe jO,abe jO,abe (by rw[QI a ua h];omega)]
theorem Ih:∀(a:List NR) (ua:List Value),(∀u∈ua,u.oneCell'=true)->∀v∈YD a ua,v.oneCell'=true
 |[],_,_,v,hv=>by cases hv
 |_::_,[],_,v,hv=>by cases hv
 |x::a,y::ua,h,v,hv=>by
  have hv:v∈rC x y++YD a ua:=hv;rcases abf.1 hv with hv|hv
  ·unfold rC at hv;simp at hv;rcases hv with rfl|rfl|rfl|rfl;·rfl
   ·rfl
   ·rfl
   ·exact h v jS
  ·exact Ih a ua (λu hu=>h u (by simp[hu])) v hv
theorem row_one{lo:Nat}{W:World}{v:Value}{rs:List NR}{us:List Value}(h:TK lo W v rs us):∀u∈us,u.oneCell'=true:=λu hu=>by
 obtain⟨i,hi,rfl⟩:=aid.1 hu;have hr:i<rs.length:=by rw[<-h.len];exact hi
 obtain⟨a,c,e⟩:=Z0 (h.cs i _ rs[i] (aL hi) (aL hr));rw[e];rfl
structure M8(lo B P R O BO SB:Nat)(cd:Int->Int->Nat)(k n:Int)(x:Bool)(ra:Value)(w:World)(pr:List NR)(gs:List Uu)(ss:List ByteArray)(vs:Value)(vo:Value)(rs:List NR)(us:List Value)(W:World):Prop where
 inv:UN lo B P R cd #[.int .i64 k,.int .i64 n,.bool x,ra] w pr gs W
 out:Z7 W O VQ #[.int .i64 k,.int .i64 n,.bool x,vo]
 len:us.length=rs.length
 row:W.ownsRow BO TR 4 vo rs.length (YD rs us)
 cs:∀(j:Nat) (u:Value) (r:NR),us[j]? =some u->rs[j]? =some r->W.ownsRow lo TC 4 u r.cs.length (r.cs.flatMap cL)
 nms:W.ownsRow SB 9 1 vs ss.length (ss.map Value.string)
 old:(∀G∈gs,G.g<BO)/\B<BO/\lo<=BO/\BO<=W.heap.size/\lo<=O/\P≠O/\R≠O
section
variable {lo B P R O BO SB:Nat} {cd:Int->Int->Nat} {k n:Int} {x:Bool} {ra:Value} {w W W':World} {pr:List NR} {gs:List Uu} {ss:List ByteArray} {vs vo:Value} {rs:List NR} {us:List Value}
theorem M8.Zr(h:M8 lo B P R O BO SB cd k n x ra w pr gs ss vs vo rs us W)(hb:Below W.heap.size W W'):M8 lo B P R O BO SB cd k n x ra w pr gs ss vs vo rs us W':=
 ⟨h.inv.below hb,h.out.below hb h.out.lt,h.len,ZC h.row hb,λj u r hu hr=>ZC (h.cs j u r hu hr) hb,ZC h.nms hb,h.old.1,h.old.2.1,h.old.2.2.1,aO h.old.2.2.2.1 hb.size,h.old.2.2.2.2⟩
theorem M8.dn(h:M8 lo B P R O BO SB cd k n x ra w pr gs ss vs vo rs us W)(q:Nat):M8 lo B P R O BO SB cd k n x ra w pr gs ss vs vo rs us (W.drewN q):=h.Zr (Kv (aG _ W) q)
theorem M8.app{G:Uu}{m:Nat}{mZ:Value}(h:M8 lo B P R O BO SB cd k n x ra w pr gs ss vs vo rs us W)(hG:G∈gs)(hm:m<=G.rs.length)(U:W'.ownsRow BO TR 4 mZ (rs.length+m) (YD rs us++YD (G.rs.take m) (G.us.take m)))(J:W.grownBy W' vo.ownBlock):
 M8 lo B P R O BO SB cd k n x ra w pr gs ss vs mZ (rs++G.rs.take m) (us++G.us.take m) (W'.setCell ⟨O,3,none⟩ mZ):=by
 have T:∀j,vo.ownBlock=some j->BO<=j:=λj e=>(h.row.lt j e).1
 have Z:=h.inv.T6.rows G hG;have nT:∀{X t:Nat} {cs:Array Value},Z7 W X t cs->TR≠t->some X≠vo.ownBlock:=λhx ht e=>YV h.row hx ht e.symm
 have nB:some B≠vo.ownBlock:=λe=>by have:=T B e.symm;have:=h.old.2.1;omega
 have C:=h.out.kept J (nT h.out jD);have kT:∀{base e s n:Nat} {u:Value} {xs:List Value},W.ownsRow base e s u n xs->TR≠e->e≠VQ->(W'.setCell ⟨O,3,none⟩ mZ).ownsRow base e s u n xs:=λ{base e s n u xs} h1 ht ht2=>by
  refine ZV (h1.kept J ?_) C ht2 3 _;rcases h1.2 with⟨rfl,_⟩|⟨g,cap,cur,rfl,_,hb,_⟩;·exact .inl rfl
  ·exact .inr (λe2=>nT (show Z7 W g e cur from hb) ht e2)
 have sO:∀Y:World,Y.grownBy (Y.setCell ⟨O,3,none⟩ mZ) (some O):=λY=>⟨rfl,rfl,rfl,jS,λi _ I=>afc Y ⟨O,3,none⟩ mZ i (λe=>I (by rw[e]))⟩
 have D:=h.inv.T6.map;have hBO:B≠O:=λe=>by subst e;exact Ks D _ _ h.out
 have au8:UQ lo B (W'.setCell ⟨O,3,none⟩ mZ) gs:=by
  refine⟨(D.kept J nB).kept (sO W') (λe=>hBO (aq e)),λX hX=> ?_,h.inv.T6.names,h.inv.T6.wm,h.inv.T6.size⟩;have h1:=(h.inv.T6.rows X hX).grown J (λj e=>⟨λe2=>by have h3:X.g=j:=aq e2;have:=T j e;have:=h.old.1 X hX;omega,λcs hb=>YV h.row hb jD e⟩)
  refine h1.grown (sO W') (λj e=> ?_);have e3:O=j:=aq e;subst e3;exact⟨YV h1.row C jD,λcs hb=>by have h3:=(show W'.heap[O]? =_ from C).symm.trans hb;simp only[ahf,ayd] at h3;exact absurd h3.2.1 jD⟩
 have Kl:Below lo w (W'.setCell ⟨O,3,none⟩ mZ):=(h.inv.Zr.grown J h.inv.Nw.2 (λj e=>aO h.old.2.2.1 (T j e))).setCell (p:=⟨O,3,none⟩) h.old.2.2.2.2.1 _;have hsz:W.heap.size<=(W'.setCell ⟨O,3,none⟩ mZ).heap.size:=by have:=J.size;simpa using this
 have kB:∀{X:Nat} {cs:Array Value},Z7 W X VQ cs->X≠O->Z7 (W'.setCell ⟨O,3,none⟩ mZ) X VQ cs:=λhx I=>(hx.kept J (nT hx jD)).other I 3 _
 have gX:(G.rs.take m).length=m:=by rw[abg];omega
 have hul:(G.us.take m).length=m:=by rw[abg,Z.len];omega
 refine⟨⟨kB h.inv.hp h.old.2.2.2.2.2.1,kB h.inv.hr h.old.2.2.2.2.2.2,au8,h.inv.ri,h.inv.ok,Kl,h.inv.Nw.1,aO h.inv.Nw.2 hsz⟩,C.set 3 _,by rw[ay,ay,gX,hul,h.len],?_,λj u r hu hr=> ?_,kT h.nms jD jD,h.old.1,h.old.2.1,h.old.2.2.1,aO h.old.2.2.2.1 hsz,h.old.2.2.2.2⟩;·rw[ay,gX,M9 _ _ _ _ h.len];exact ZV U C jD 3 _
 ·by_cases hj:j<rs.length;·rw[abc (by rw[h.len];exact hj)] at hu;rw[abc hj] at hr;exact kT (h.cs j u r hu hr) jD jD
  ·rw[aad (by rw[h.len];omega),h.len] at hu;rw[aad jO] at hr;rw[aja] at hu hr;split at hr;·rename_i Ro;rw[aF Ro] at hu;exact kT (Z.cs _ u r hu hr) jD jD
   ·cases hr
end
theorem kY{fn:Func}{t u:Tmp}(h:fn.results=#[.cell t VQ,.tmp u]){tmps:Array Value}{W:World}{R:Nat}{c0 c1 c2 c3:Value}(hb:Z7 W R VQ #[c0,c1,c2,c3])(ht:tmps.getD t undef=.pointer (some ⟨R,0,none⟩)):(results fn tmps).run prog W=.ok (.tuple #[.agg #[c0,c1,c2,c3],tmps.getD u undef]) W:=by
 obtain⟨⟨e0,e1,e2,e3⟩,_⟩:=Z8 hb;rw[ajb] at ht;simp[results,h,go_sem,ht,e0,e1,e2,e3]
theorem au9{a b c d:Int}(h:¬(a=c/\b=d))(w:World):(Go.binOp .eql 48 (.agg #[.int .i64 a,.int .i64 b]) (.agg #[.int .i64 c,.int .i64 d])).run prog w=.ok (.bool false) w:=by
 simp[go_sem];omega
theorem ct:∀w,(Go.sizeOf TR).run prog w=.ok 4 w:=λ_=>jK
theorem DF(W:World)(g n D k:Nat)(hk:k<=D):(Instr.slice 49 (.slice (some ⟨g,0,none⟩) n D) none (some (.int .i64 k)) none).run prog W=.ok (.slice (some ⟨g,0,none⟩) k D) W:=by
 have C:prog.underlying 49=some (.slice (prog.elem 49)):=by simp[Program.elem,underlying49]
 have I:prog.elem 49=TR:=by simp[Program.elem,underlying49]
 rw[run_slice_h W _ _ _ _ C .i64 _ jO jO,I,ct];simp[Result.andThen,sliced,Addr.add]
def strip(k n:Int)(l:List NR):List NR:=(l.reverse.dropWhile (λr=>decide (r.k=k/\r.n=n))).reverse
theorem Bl{k n:Int}(l:List NR)(r:NR):strip k n (l++[r])=if r.k=k/\r.n=n then strip k n l else l++[r]:=by
 unfold strip;rw[List.reverse_append];show(List.dropWhile _ (r::l.reverse)).reverse=_;rw[apf];by_cases h:r.k=k/\r.n=n;·rw[aF (by simpa using h),aF h]
 ·rw[aN (by simpa using h),aN h,awf,axd]
theorem vQ(k n:Int)(l:List NR):(strip k n l).length<=l.length:=by
 unfold strip;rw[avb];exact aO (awb _).length_le jS
theorem kX{pr:List NR}{gs:List Uu}(h:RY pr gs)(hn:gs.Pairwise (λx y=>x.nm≠y.nm))(k n:Int)(nm:ByteArray):(Ts k n gs nm).length<=pr.length:=by
 refine aO (vQ k n _) ?_;rcases N5 nm gs with C|⟨D,G,I,rfl,C⟩
 ·rw[XR C];exact abd _
 ·rw[<-C,Km hn];exact h.len G jS
theorem yM{α β:Type}{f:α->List β}{b:Nat}(h:∀x,(f x).length<=b):∀l:List α,(l.flatMap f).length<=l.length*b
 |[]=>jS
 |x::l=>by have:=yM h l;have:=h x;rw[ace,ay,ai,ara];omega
theorem qZ{cd:Int->Int->Nat}{N L c:Nat}{a:Option Addr}{pr:List NR}{k n:Int}{x:Bool}(hL:pr.length=L)(Xo:L<=500)(hsz:∀r∈pr,r.nm.size<=1000/\r.cs.length<=1000/\∀c∈r.cs,c.right)(w:World)(hQ:Uv N w a pr)(hN:N<=w.heap.size)
 (U6:∀W,Below w.heap.size w W->Calls prog 75 #[.agg #[.int .i64 k,.int .i64 n,.bool x,.slice a L c]] W λe w'=>e=.returned (.bool true)/\Below W.heap.size W w'):
 Calls prog 36 #[.agg #[.int .i64 k,.int .i64 n,.bool x,.slice a L c]] w (rf cd k n x pr w):=by
 have HL:=aT hL;have gz:=aT hsz;have HQ:=aT hQ;have yV:=aT U6;have Jj:= @aog prog;have HP:=aT ((Z7.new w VQ #[.int .i64 k,.int .i64 n,.bool x,.slice a L c]).alloc (.cells #[.int .i64 0,.int .i64 0,.bool false,.slice none 0 0] VQ));have HR:=aT (Z7.OY w (.cells #[.int .i64 k,.int .i64 n,.bool x,.slice a L c] VQ) VQ #[.int .i64 0,.int .i64 0,.bool false,.slice none 0 0]);have HB:=aT (Kz w (.cells #[.int .i64 k,.int .i64 n,.bool x,.slice a L c] VQ) (.cells #[.int .i64 0,.int .i64 0,.bool false,.slice none 0 0] VQ));clear hL hsz hQ U6;obtain⟨i0,XS,RH,Vb,Tl⟩:=Pq rj;go_enter func36,ntmps36;go_upto_region 1 with fail;generalize (w.alloc (.cells #[.int .i64 k,.int .i64 n,.bool x,.slice a L c] VQ)).alloc (.cells #[.int .i64 0,.int .i64 0,.bool false,.slice none 0 0] VQ)=w1 at*;obtain⟨R,hR⟩:=jX (w.heap.size+1);rw[hR] at HR ⊢;have tN:w.heap.size<R:=jO;clear hR;obtain⟨⟨p0,p1,p2,p3⟩,_⟩:=Z8 HP.out;go_wp2_with fail;refine(yV.out w1 HB.out).mono ?_;rintro e w2 ⟨rfl,hb⟩
 have Fk:Hid (UN w.heap.size w2.heap.size w.heap.size R cd #[.int .i64 k,.int .i64 n,.bool x,.slice a L c] w [] [] (w2.alloc (.map #[] 0))):=
  ⟨(HP.out.below hb HP.out.lt).alloc _,(HR.out.below hb HR.out.lt).alloc _,UQ.nil (lo:=w.heap.size) (w:=w2),Tc.nil,RY.nil,((HB.out.trans (hb.mono HB.out.size))).alloc (aO HB.out.size hb.size) _,aO HB.out.size hb.size,aO (aO HB.out.size hb.size) (Yx w2 (.map #[] 0)).size⟩
 clear hb HP HR HB p0 p1 p2 p3 yV;go_upto_region 4 with fail;generalize w2.alloc (.map #[] 0)=w3 at*;generalize w2.heap.size=B at*;obtain⟨⟨p0,p1,p2,p3⟩,_⟩:=Z8 Fk.out.hp;go_upto_region 5 with fail;go_loopg [21] (L+1) (λgg iv wr=>∃(i:Nat) (gs:List Uu),i<=L/\L-i<gg/\iv=.int .i64 (i:Int)/\Hid (UN w.heap.size B w.heap.size R cd #[.int .i64 k,.int .i64 n,.bool x,.slice a L c] w (pr.take i) gs wr));case atStart=>exact⟨0,[],abd _,jO,rfl,Fk⟩
 case round=>
  obtain⟨i,gs,sR,Vs,rfl,HI⟩:=hrel;clear Fk p0 p1 p2 p3;have Jc:=jW i;have wC:=jZ i;by_cases hlt:i<L
  ·have Zd:(i:Int)<(L:Int):=by omega
   obtain⟨r,hr⟩:∃r,pr[i]? =some r:=⟨_,aL (by rw[HL.out];exact hlt)⟩;obtain⟨g,off,u,rfl,UW,y0,y1,y2,y3,hcs⟩:=HQ.out i r hr;have hwb:=HI.out.Zr;have y0:=ZY hwb hN UW y0;have y1:=ZY hwb hN UW y1;have y2:=ZY hwb hN UW y2;have y3:=ZY hwb hN UW y3;have xz:=aT (hcs.below hwb hN);have HT:=aT (VJ hr);obtain⟨hs1,hs2,hs3⟩:=gz.out r (ag hr);have nr:=aT hs3;obtain⟨ua,uc,rfl⟩:=xz.out.form;clear hcs hr hs3 hwb;have HA:=aT (Z7.new wr TR #[.string r.nm,.int .i64 r.k,.int .i64 r.n,.slice ua r.cs.length uc]);have Y:=aT (HI.out.al (.cells #[.string r.nm,.int .i64 r.k,.int .i64 r.n,.slice ua r.cs.length uc] TR));have zm:=aT (xz.out.below (Yx wr (.cells #[.string r.nm,.int .i64 r.k,.int .i64 r.n,.slice ua r.cs.length uc] TR)) (aO hN HI.out.Nw.2));have hwr:w.heap.size<=wr.heap.size:=HI.out.Nw.2;have HGA:Hid (∀G∈gs,wr.heap.size≠G.g):=λG hG e=>by have:G.g<wr.heap.size:=QJ (HI.out.T6.rows G hG).row rfl;omega
   clear xz HI;go_upto_region 7 with fail;clear y0 y1 y2 y3;generalize wr.alloc (.cells #[.string r.nm,.int .i64 r.k,.int .i64 r.n,.slice ua r.cs.length uc] TR)=w4 at*;generalize wr.heap.size=A at*;obtain⟨⟨a0,a1,a2,a3⟩,_⟩:=Z8 HA.out;have vP:=aT (wL (nm:=r.nm) (k:=r.k) (n:=r.n) rfl hs2 nr.out w4 zm.out (aO hN Y.out.Nw.2));obtain⟨Q,kW⟩:=jX r.cs.length;have HQd:=aT kW;rw[kW] at vP hs2 HA;clear kW a3;obtain⟨⟨_,_,_,a3⟩,_⟩:=Z8 HA.out;go_wp2_with fail;refine vP.out.mono ?_;rintro e w5 ⟨h,hb⟩;have sj:=aT (HA.out.below hb HA.out.lt);have yL:=aT (Y.out.below hb);have xH:A<w5.heap.size:=sj.out.lt;rcases h with⟨hno,rfl⟩|⟨v,ns,hns,hnl,rfl,hv⟩
   ·have dB:=aT hno;clear hno hb HA Y vP;go_wp2_with fail;go_roundg (L-i);case measure=>omega
    case rel=>exact⟨i+1,gs,jO,jO,by go_num,(by rw[HT.out];exact(show UN _ _ _ _ _ _ _ _ _ _ from {yL.out.al _ with ri:=yL.out.ri.gone dB.out,ok:=yL.out.ok.step r}))⟩
   ·have HNS:=aT hns;have HNL:=aT hnl;have HV:=aT (Y7 hv (show w.heap.size<=w4.heap.size from Y.out.Nw.2));obtain⟨va,T,rfl⟩:=Z0 hv;clear hns hnl hv hb HA Y vP;obtain⟨M,hM⟩:=jX ns.length;have HM:=aT hM;have HV:Hid (w5.ownsRow w.heap.size TC 4 (.slice va M T) ns.length (ns.flatMap cL)):=by rw[<-hM];exact HV
    rw[hM];clear hM;have mY:=aT (Z7.new w5 TR #[.string r.nm,.int .i64 r.k,.int .i64 r.n,.slice va M T]);have Gc:=aT (sj.out.alloc (.cells #[.string r.nm,.int .i64 r.k,.int .i64 r.n,.slice va M T] TR));have I:=aT (yL.out.al (.cells #[.string r.nm,.int .i64 r.k,.int .i64 r.n,.slice va M T] TR));have tL:=aT (HV.out.alloc (.cells #[.string r.nm,.int .i64 r.k,.int .i64 r.n,.slice va M T] TR));have HGC:Hid (∀G∈gs,w5.heap.size≠G.g):=λG hG e=>by have:G.g<w5.heap.size:=QJ (yL.out.T6.rows G hG).row rfl;omega
    go_upto_region 8 with fail;clear sj yL HV;generalize w5.alloc (.cells #[.string r.nm,.int .i64 r.k,.int .i64 r.n,.slice va M T] TR)=w6 at*;generalize w5.heap.size=C at*;obtain⟨⟨a0,_,_,_⟩,_⟩:=Z8 Gc.out;obtain⟨⟨c0,c1,c2,c3⟩,_⟩:=Z8 mY.out;have hCM:=Th tL.out;rcases N5 r.nm gs with hno|⟨g1,G,g2,rfl,hG⟩
    ·have lk:=I.out.T6.Xp (nm:=r.nm) jO hno;have dB:=aT hno;have HH:=aT (Ku (rs:=[]) (c:=0) (nm:=r.nm) (k:=r.k) (n:=r.n) rfl jD (λr h=>by cases h) w6 (vR _ _) hCM (aR _));clear hno hCM;go_wp2_with fail;refine HH.out.mono ?_;rintro e w8 ⟨rfl,hb⟩;have kV:=aT (Gc.out.below hb Gc.out.lt);have Ig:=aT (mY.out.below hb mY.out.lt);have kU:=aT (I.out.below hb);have HV8:=aT (ZC tL.out hb);clear hb HH Gc mY I tL lk a0 c0 c1 c2 c3;simp only[List.any_nil];have gy:=aT (kU.out.al (.cells #[.string r.nm,.int .i64 r.k,.int .i64 r.n,.slice va M T] TR)).drew;have HAb:Hid (Z7 (w8.alloc (.cells #[.string r.nm,.int .i64 r.k,.int .i64 r.n,.slice va M T] TR)).drew A TR #[.string r.nm,.int .i64 r.k,.int .i64 r.n,.slice ua Q uc]):=kV.out.alloc _;have HCb:Hid (Z7 (w8.alloc (.cells #[.string r.nm,.int .i64 r.k,.int .i64 r.n,.slice va M T] TR)).drew C TR #[.string r.nm,.int .i64 r.k,.int .i64 r.n,.slice va M T]):=Ig.out.alloc _;have HVb:Hid ((w8.alloc (.cells #[.string r.nm,.int .i64 r.k,.int .i64 r.n,.slice va M T] TR)).drew.ownsRow w.heap.size TC 4 (.slice va M T) ns.length (ns.flatMap cL)):=HV8.out.alloc _;have lk:=kU.out.drew.T6.Xp (nm:=r.nm) jO dB.out;have lk2:=gy.out.T6.Xp (nm:=r.nm) jO dB.out;obtain⟨⟨a0,_,_,_⟩,_⟩:=Z8 kV.out;obtain⟨⟨c0,c1,c2,c3⟩,_⟩:=Z8 Ig.out;go_upto_region 9 with fail
     go_region_held_law (λw'=>w'.cell? ⟨A,0,none⟩=some (.string r.nm)/\w'.cell? ⟨C,0,none⟩=some (.string r.nm)/\w'.cell? ⟨C,1,none⟩=some (.int .i64 r.k)/\w'.cell? ⟨C,2,none⟩=some (.int .i64 r.n)/\w'.cell? ⟨C,3,none⟩=some (.slice va M T)) (first|assumption|exact hS7|exact gV|exact S9.of HAb.out HCb.out|exact S9.of kV.out Ig.out) (first
      |(refine step_append_lies _ rfl _ _ 49 rfl w.heap.size TR i0 (.agg #[.string ⟨#[]⟩,.int .i64 0,.int .i64 0,.slice none 0 0]) 4 56 underlying49 XS RH Vb Tl rfl jD (.slice none 0 0) 0 [] rfl (anb _ _ _ _) ⟨w8.heap.size,0,none⟩ 1 1 [.string r.nm,.int .i64 r.k,.int .i64 r.n,.slice va M T] rfl rfl (World.news_of_block (Z7.new w8 _ _)) (by simp[Value.oneCell']) jD (by unfold maxLen;omega) jO gy.out.Nw.2 _ rfl ?_;intro gb cap w9 U kS qY av0;obtain⟨hS7,W2,hup,gV,gs2,cr⟩:=UN.new (qY.resolve_left (by simp[Value.ownBlock])) gy.out HAb.out HCb.out jO dB.out HVb.out HNS.out HNL.out U kS;have mX:=aT cr;clear cr U kS qY))
     all_goals (go_wp2_with fail;go_roundg (L-i);(case measure=>omega);(case rel=>exact⟨i+1,gs2,jO,jO,by go_num,by rw[HT.out];exact mX⟩))
    ·have gw:=I.out.ok.len G jS;have hGl:G.rs.length<=500:=aO gw (by rw[abg];omega)
     have HLK:Hid (∀X:World,UQ w.heap.size B X (g1++G::g2)->(Instr.lookup 191 (.map (some B)) (.string r.nm) false).run prog X=.ok (.slice (some ⟨G.g,0,none⟩) G.rs.length G.cap) X):=λX hX=>by have:=hX.Ip (G:=G) jS;rw[hG] at this;exact this
     have lk:=HLK.out _ I.out.T6;have HGn:=aT hG;have HH:=aT (Ku (rs:=G.rs) (c:=G.cap) (nm:=r.nm) (k:=r.k) (n:=r.n) rfl jO (λq hq=>by obtain⟨_,q0,hq0,_,_,_,h5⟩:=I.out.ok.rs G jS q hq;have:=(gz.out q0 (ald hq0)).2.1;omega) w6 (TK.rows (I.out.T6.rows G jS)) hCM (aR _))
     clear hG hCM gw;cases tK:G.rs.any (Wv ns) with
     |true=>
      rw[tK] at HH;have HHt:Hid ((XW (g1++G::g2) r.nm).any (Wv ns)=true):=by show _=_;rw[<-HGn.out,Km I.out.T6.names];exact tK
      clear tK;go_wp2_with fail;refine HH.out.mono ?_;rintro e w8 ⟨rfl,hb⟩;have kU:=aT (I.out.below hb);clear hb HH Gc mY I tL lk a0 c0 c1 c2 c3;go_wp2_with fail;go_roundg (L-i);case measure=>omega
      case rel=>exact⟨i+1,g1++G::g2,jO,jO,by go_num,(by rw[HT.out];exact(show UN _ _ _ _ _ _ _ _ _ _ from {kU.out with ri:=kU.out.ri.hid HNS.out HHt.out,ok:=kU.out.ok.step r}))⟩
     |false=>
      rw[tK] at HH;have HHf:=aT tK;clear tK;go_wp2_with fail;refine HH.out.mono ?_;rintro e w8 ⟨rfl,hb⟩;have kV:=aT (Gc.out.below hb Gc.out.lt);have Ig:=aT (mY.out.below hb mY.out.lt);have kU:=aT (I.out.below hb);have HV8:=aT (ZC tL.out hb);clear hb HH Gc mY I tL lk a0 c0 c1 c2 c3;have gy:=aT (kU.out.al (.cells #[.string r.nm,.int .i64 r.k,.int .i64 r.n,.slice va M T] TR)).drew;have HAb:Hid (Z7 (w8.alloc (.cells #[.string r.nm,.int .i64 r.k,.int .i64 r.n,.slice va M T] TR)).drew A TR #[.string r.nm,.int .i64 r.k,.int .i64 r.n,.slice ua Q uc]):=kV.out.alloc _;have HCb:Hid (Z7 (w8.alloc (.cells #[.string r.nm,.int .i64 r.k,.int .i64 r.n,.slice va M T] TR)).drew C TR #[.string r.nm,.int .i64 r.k,.int .i64 r.n,.slice va M T]):=Ig.out.alloc _;have HVb:Hid ((w8.alloc (.cells #[.string r.nm,.int .i64 r.k,.int .i64 r.n,.slice va M T] TR)).drew.ownsRow w.heap.size TC 4 (.slice va M T) ns.length (ns.flatMap cL)):=HV8.out.alloc _;have lk:=HLK.out _ kU.out.drew.T6;have lk2:=HLK.out _ gy.out.T6;obtain⟨⟨a0,_,_,_⟩,_⟩:=Z8 kV.out;obtain⟨⟨c0,c1,c2,c3⟩,_⟩:=Z8 Ig.out;go_upto_region 9 with fail
      go_region_held_law (λw'=>w'.cell? ⟨A,0,none⟩=some (.string r.nm)/\w'.cell? ⟨C,0,none⟩=some (.string r.nm)/\w'.cell? ⟨C,1,none⟩=some (.int .i64 r.k)/\w'.cell? ⟨C,2,none⟩=some (.int .i64 r.n)/\w'.cell? ⟨C,3,none⟩=some (.slice va M T)) (first|assumption|exact hS7|exact gV|exact S9.of HAb.out HCb.out|exact S9.of kV.out Ig.out) (first
       |(refine step_append_lies _ rfl _ _ 49 rfl w.heap.size TR i0 (.agg #[.string ⟨#[]⟩,.int .i64 0,.int .i64 0,.slice none 0 0]) 4 56 underlying49 XS RH Vb Tl rfl jD (.slice (some ⟨G.g,0,none⟩) G.rs.length G.cap) G.rs.length _ rfl (gy.out.T6.rows G jS).row ⟨w8.heap.size,0,none⟩ 1 1 [.string r.nm,.int .i64 r.k,.int .i64 r.n,.slice va M T] rfl rfl (World.news_of_block (Z7.new w8 _ _)) (by simp[Value.oneCell']) jD (by unfold maxLen;omega) jO gy.out.Nw.2 _ rfl ?_;intro gb cap w9 U kS qY av0;obtain⟨hS7,W2,hup,gV,gs2,cr⟩:=UN.more gy.out HAb.out HCb.out (HGA.out G jS) (HGC.out G jS) HGn.out HVb.out HNS.out HNL.out HHf.out U kS (qY.imp (λe=>(aq e).symm) id);have mX:=aT cr;clear cr U kS qY))
      all_goals (go_wp2_with fail;go_roundg (L-i);(case measure=>omega);(case rel=>exact⟨i+1,gs2,jO,jO,by go_num,by rw[HT.out];exact mX⟩))
  ·obtain rfl:i=L:=by omega
   have Zd:¬(i:Int)<(i:Int):=jO;have Y:Hid (UN w.heap.size B w.heap.size R cd #[.int .i64 k,.int .i64 n,.bool x,.slice a i c] w pr gs wr):=by have h:=HI.out;rwa [abe (by rw[HL.out];exact aR _)] at h
   obtain⟨⟨p0,p1,p2,_⟩,_⟩:=Z8 Y.out.hp;have wu:=aT (Z7.new wr VQ #[.int .i64 k,.int .i64 n,.bool x,.slice none 0 0]);have dy:=aT (Y.out.al (.cells #[.int .i64 k,.int .i64 n,.bool x,.slice none 0 0] VQ));have hwr:w.heap.size<=wr.heap.size:=HI.out.Nw.2;have hne:w.heap.size≠wr.heap.size/\R≠wr.heap.size:=⟨Nat.ne_of_lt Y.out.hp.lt,Nat.ne_of_lt Y.out.hr.lt⟩;clear HI;go_upto_region 12 with fail;clear p0 p1 p2 Y;generalize wr.alloc (.cells #[.int .i64 k,.int .i64 n,.bool x,.slice none 0 0] VQ)=w4 at*;generalize wr.heap.size=O at*;have av1:gs.length<=500:=aO dy.out.ok.cnt (by rw[HL.out];exact Xo);have HS:=aT (DG (W:=w4) (ks:=gs.map (·.nm)) dy.out.T6.map (by unfold Rl;rw[akd,akd];rfl) (λs hs=>by obtain⟨G,hG,rfl⟩:=ah.1 hs;exact dy.out.T6.size G hG) (by rw[aab];omega))
   go_wp2_with fail;refine(vS (some B) w4).mono ?_;rintro e w5 ⟨rfl,rfl⟩;go_wp2_with fail;refine HS.out.mono ?_;rintro e w6 ⟨vs,ss,rfl,yK,hrow,hb⟩;have HSS:=aT yK;have hM:ss.length=gs.length:=by rw[yK.length_eq,aab]
   obtain⟨sa,sc,rfl⟩:=Z0 hrow;have hO6:=wu.out.below hb wu.out.lt;have gq:=dy.out.below hb
   have HJ0:Hid (M8 w.heap.size B w.heap.size R O w6.heap.size w4.heap.size cd k n x (.slice a i c) w pr gs ss (.slice sa ss.length sc) (.slice none 0 0) [] [] w6):=
    ⟨gq,hO6,rfl,anb _ _ _ _,λj u r h=>(by simp at h),hrow,λG hG=>QJ (gq.T6.rows G hG).row rfl,gq.T6.map.lt,gq.Nw.2,aR _,hwr,hne.1,hne.2⟩
   clear yK hrow hb hO6 gq HS dy wu;obtain⟨M,hMd⟩:=jX ss.length;have HMd:=aT hMd;rw[hMd] at hM HJ0 ⊢;have hM5:M<=500:=jO;clear hMd hM;go_upto_region 13 with fail;go_loopg [60] (M+1) (λgg iv wr=>∃(q:Nat) (vo:Value) (us:List Value),q<=M/\M-q<gg/\iv=.int .i64 (q:Int)/\Hid (M8 w.heap.size B w.heap.size R O w6.heap.size w4.heap.size cd k n x (.slice a i c) w pr gs ss (.slice sa M sc) vo ((ss.take q).flatMap (Ts k n gs)) us wr));case atStart=>exact⟨0,.slice none 0 0,[],abd _,jO,rfl,HJ0⟩
   case round=>
    obtain⟨q,vo,us,hqM,mj,rfl,Z⟩:=hrel;clear HJ0;have q0:=jZ q;have kR:=jW q;by_cases hq:q<M
    ·have lq:(q:Int)<(M:Int):=by omega
     obtain⟨nm,vO⟩:∃nm,ss[q]? =some nm:=⟨_,aL (by rw[HMd.out];exact hq)⟩;obtain⟨gS,hsa⟩:∃gS,sa=some ⟨gS,0,none⟩:=by
      rcases Z.out.nms.2 with⟨e,h0⟩|⟨gS,cap,cur,e,_⟩;·rw[HMd.out] at h0;omega
      ·injection e with e;exact⟨gS,e⟩
     subst hsa;have yS:wr.cell? ⟨gS,q,none⟩=some (.string nm):=by have h0:=Z.out.nms;rw[HMd.out] at h0;have h1:=h0.cellAt q jO;rw[h1,acd,vO];rfl
     obtain⟨G,nj,hG⟩:∃G,G∈gs/\G.nm=nm:=by have:=HSS.out.mem_iff.1 (ag vO);obtain⟨G,h1,h2⟩:=ah.1 this;exact⟨G,h1,h2⟩
     have HSG:Hid (Ts k n gs nm=strip k n G.rs):=by
      show Ts k n gs nm=_;rcases N5 nm gs with h1|⟨g1,G2,g2,e,h1⟩;·exact absurd hG (h1 G nj)
      ·have hGG:G2=G:=by
        subst e;rcases abf.1 nj with hm|hm;·exact absurd (hG.trans h1.symm) ((afb.1 Z.out.inv.T6.names).2.2 G hm G2 jS)
        ·rcases abb.1 hm with rfl|hm;·rfl
         ·exact absurd (h1.trans hG.symm) ((age.1 (afb.1 Z.out.inv.T6.names).2.1).1 G hm)
       subst hGG;unfold Ts strip;have h3:XW gs nm=G2.rs:=by have h4:=Z.out.inv.T6.names;rw[e] at h4 ⊢;rw[<-h1];exact Km h4
       rw[h3]
     have vY:=aT (VJ vO);have lk:=Z.out.inv.T6.Ip nj;rw[hG] at lk;unfold Uu.v at lk;have HGm:=aT nj;have hGl:G.rs.length<=500:=aO (Z.out.inv.ok.len G nj) (by rw[HL.out];exact Xo);have hGc:G.rs.length<=G.cap:=(Lh (Z.out.inv.T6.rows G nj).row).1;clear vO hG nj;go_upto_region 15 with fail;go_upto_region 16 with fail;clear yS lk;go_loopg [12] (G.rs.length+1) (λgg3 s12 wr=>∃m:Nat,m<=G.rs.length/\m<gg3/\s12=.slice (some ⟨G.g,0,none⟩) m G.cap/\Hid (M8 w.heap.size B w.heap.size R O w6.heap.size w4.heap.size cd k n x (.slice a i c) w pr gs ss (.slice (some ⟨gS,0,none⟩) M sc) vo ((ss.take q).flatMap (Ts k n gs)) us wr)/\Hid (Ts k n gs nm=strip k n (G.rs.take m)));case atStart=>exact⟨G.rs.length,aR _,jO,rfl,Z,(by rw[List.take_length];exact HSG)⟩
     case round=>
      obtain⟨m,hm,ai0,rfl,HJm,HSm⟩:=hrel;clear Z HSG;obtain⟨⟨p0,p1,_,_⟩,_⟩:=Z8 HJm.out.inv.hp;go_upto_region 16 with fail;go_cut [81] from 67 to 86 (λs wx=>∃r:Bool,s=.bool r/\Hid (r=true->0<m/\strip k n (G.rs.take m)=strip k n (G.rs.take (m-1)))/\Hid (r=false->strip k n (G.rs.take m)=G.rs.take m)/\Hid (M8 w.heap.size B w.heap.size R O w6.heap.size w4.heap.size cd k n x (.slice a i c) w pr gs ss (.slice (some ⟨gS,0,none⟩) M sc) vo ((ss.take q).flatMap (Ts k n gs)) us wx))
      case first=>
       by_cases Fo:m=0;·subst Fo;go_quiet (fail);go_wp2_with fail;go_meet;exact⟨_,rfl,(show Hid _ from λe=>by cases e),(show Hid _ from λ_=>rfl),aT (HJm.out.dn _)⟩
       ·obtain⟨e,he⟩:=jX (m-1);have hmz:decide ((0:Int)<(m:Int))=true:=by simp;omega
        have au3:(0:Int)<(m:Int):=jO;have zj:decide (0<m)=true:=acb jO;have au4:0<m:=jO;have cN:IntKind.i64.wrap ((m:Int)-1)=(e:Int):=by rw[aJ _ jO];omega
        have b0:=jZ e;have b1:(e:Int)<(m:Int):=jO;have tO:e<G.rs.length:=jO;obtain⟨rr,yJ⟩:∃rr,G.rs[e]? =some rr:=⟨_,aL tO⟩;have D:=HJm.out.inv.T6.rows G HGm.out;obtain⟨uu,huu⟩:∃uu,G.us[e]? =some uu:=⟨_,aL (by rw[D.len];exact tO)⟩;have yk:wr.cell? ⟨G.g,e*4+1,none⟩=some (.int .i64 rr.k):=by have:=World.ownsRow.cellAt (show wr.ownsRow w.heap.size TR 4 (.slice (some ⟨G.g,0,none⟩) G.rs.length G.cap) G.rs.length (YD G.rs G.us) from D.row) (e*4+1) jO;rw[this,Rm _ _ _ _ _ yJ huu 1 jD];rfl
        have yn:wr.cell? ⟨G.g,e*4+2,none⟩=some (.int .i64 rr.n):=by have:=World.ownsRow.cellAt (show wr.ownsRow w.heap.size TR 4 (.slice (some ⟨G.g,0,none⟩) G.rs.length G.cap) G.rs.length (YD G.rs G.us) from D.row) (e*4+2) jO;rw[this,Rm _ _ _ _ _ yJ huu 2 jD];rfl
        have gl:G.rs.take m=G.rs.take e++[rr]:=by have:m=e+1:=jO;rw[this];exact VJ yJ
        have HST:Hid (strip k n (G.rs.take m)=if rr.k=k/\rr.n=n then strip k n (G.rs.take e) else G.rs.take m):=by show strip k n (G.rs.take m)=_;rw[gl];exact Bl _ _
        have HE:Hid (m-1=e):=he;clear yJ D huu gl he;by_cases hk:rr.k=k/\rr.n=n
        ·have Jn:Hid (strip k n (G.rs.take m)=strip k n (G.rs.take (m-1))):=by
          show _=_;rw[HST.out,aF hk,HE.out]
         rw[hk.1] at yk;rw[hk.2] at yn;clear hk;go_quiet (fail);go_wp2_with fail;go_meet;exact⟨_,rfl,(show Hid _ from λ_=>⟨jO,Jn.out⟩),(show Hid _ from λe=>by cases e),aT (HJm.out.dn _)⟩
        ·have hea:=au9 hk
         have Jn:Hid (strip k n (G.rs.take m)=G.rs.take m):=by show _=_;rw[HST.out,aN hk]
         clear hk;generalize rr.k=rk at*;generalize rr.n=rn at*;go_quiet (fail);go_wp2_with fail;go_meet;exact⟨_,rfl,(show Hid _ from λe=>by cases e),(show Hid _ from λ_=>Jn.out),aT (HJm.out.dn _)⟩
      case rest=>
       obtain⟨r,rfl,sN,sW,J⟩:=hcut;clear HJm p0 p1;cases r with
       |true=>
        obtain⟨e,he⟩:=jX (m-1);have Fo:=(sN.out rfl).1;have Qw:Hid (Ts k n gs nm=strip k n (G.rs.take e)):=by show _=_;rw[HSm.out,(sN.out rfl).2,he]
        have cN:IntKind.i64.wrap ((m:Int)-1)=(e:Int):=by rw[aJ _ jO];omega
        have sl:=λW=>DF W G.g m G.cap e jO
        have hem:e<=G.rs.length/\e<m:=jO;clear he;go_wp2_with fail;go_roundg m;case measure=>omega
        case rel=>exact⟨e,hem.1,hem.2,rfl,J,Qw⟩
       |false=>
        have Qw:Hid (Ts k n gs nm=G.rs.take m):=HSm.out.trans (sW.out rfl);have HBo:Hid (((ss.take q).flatMap (Ts k n gs)).length<=250000):=by
         have h1:=yM (kX J.out.inv.ok J.out.inv.T6.names k n) (ss.take q);have h2:(ss.take q).length<=500:=by rw[abg];omega
         have h3:(ss.take q).length*pr.length<=500*500:=Nat.mul_le_mul h2 (by rw[HL.out];exact Xo);show _<=_;omega
        have HX:Hid (((ss.take q).flatMap (Ts k n gs))++G.rs.take m=(ss.take (q+1)).flatMap (Ts k n gs)):=by show _=_;rw[vY.out,aca,ace,asc,adb,Qw.out]
        generalize (ss.take q).flatMap (Ts k n gs)=rs at*;have hbo:rs.length<=250000:=HBo.out;obtain⟨va,T,rfl⟩:=Z0 J.out.row;obtain⟨⟨_,_,_,o3⟩,_,_,_,f3⟩:=Z8 J.out.out;have D:=J.out.inv.T6.rows G HGm.out;have HFT:=aT (Bo m G.rs G.us D.len);have HNL:Hid ((YD (G.rs.take m) (G.us.take m)).length=m*4):=by show _=_;rw[QI _ _ (by rw[abg,abg,D.len]),abg];omega
        have HON:Hid (∀u∈YD (G.rs.take m) (G.us.take m),u.oneCell'=true):=Ih _ _ (λu hu=>row_one D u (ald hu));have HNW:Hid (∀j u,(YD (G.rs.take m) (G.us.take m))[j]? =some u->wc.cell? ((⟨G.g,0,none⟩:Addr).add j)=some u):=λj u hu=>by
         refine World.ownsRow.cells (v:=G.v) D.row rfl j u ?_;rw[HFT.out,aja] at hu;split at hu;·exact hu
         ·cases hu
        clear D;go_upto_region 18 with fail
        go_wp2_with (at_builtin;(refine aea _ rfl _ _ 49 rfl w6.heap.size TR i0 (.agg #[.string ⟨#[]⟩,.int .i64 0,.int .i64 0,.slice none 0 0]) 4 56 underlying49 XS RH Vb Tl rfl jD _ rs.length _ rfl J.out.row ⟨G.g,0,none⟩ m G.cap _ rfl HNL.out HNW.out HON.out (by unfold maxLen;omega) jO J.out.old.2.2.2.1 ?_;intro v' w7 hown' hgrow _;obtain⟨cI,vc',rfl⟩:=Z0 hown';have HJ7:=aT (J.out.app HGm.out hm hown' hgrow);have hO7:=J.out.out.kept hgrow (λe=>YV J.out.row J.out.out jD e.symm);obtain⟨⟨_,_,_,o7⟩,_,_,_,f7⟩:=Z8 hO7;clear hown' hgrow hO7))
        go_wp2_with fail;go_roundg (M-q);case measure=>omega
        case rel=>exact⟨q+1,_,_,jO,jO,by go_num,(by rw[<-HX.out];exact HJ7)⟩
    ·obtain rfl:q=M:=by omega
     have lq:¬(q:Int)<(q:Int):=jO;have HX:Hid ((ss.take q).flatMap (Ts k n gs)=ss.flatMap (Ts k n gs)):=by show _=_;rw[abe (by rw[HMd.out];exact aR _)]
     obtain⟨va,T,rfl⟩:=Z0 Z.out.row;obtain⟨⟨o0,o1,o2,o3⟩,_⟩:=Z8 Z.out.out;have kQ:=Z.out.inv.hr;obtain⟨⟨r0,r1,r2,r3⟩,f0,f1,f2,f3⟩:=Z8 kQ;generalize hrs:(ss.take q).flatMap (Ts k n gs)=rs at*;go_wp2_with fail;have c4:∀{base e s n0:Nat} {u:Value} {xs:List Value},wr.ownsRow base e s u n0 xs->e≠VQ->((((wr.setCell ⟨R,0,none⟩ (.int .i64 k)).setCell ⟨R,1,none⟩ (.int .i64 n)).setCell ⟨R,2,none⟩ (.bool x)).setCell ⟨R,3,none⟩ (.slice va rs.length T)).ownsRow base e s u n0 xs:=λ{base e s n0 u xs} h1 ht=>
      ZV (ZV (ZV (ZV h1 kQ ht 0 _) (kQ.set 0 _) ht 1 _) ((kQ.set 0 _).set 1 _) ht 2 _) (((kQ.set 0 _).set 1 _).set 2 _) ht 3 _
     refine aaf (kY rfl (ZF kQ _ _ _ _) rfl) rfl ?_;refine⟨_,us,ss,gs,rfl,HSS.out,Z.out.inv.T6.names,Z.out.inv.ri,Z.out.inv.ok,?_,ZE Z.out.inv.Zr (acf tN) _ _ _ _⟩;rw[<-HX.out];exact⟨Z.out.len,Y7 (c4 Z.out.row jD) Z.out.old.2.2.1,λj u r hu hr=>c4 (Z.out.cs j u r hu hr) jD⟩
end Go.Proofs.YtclgigmgbebhgaaGreatDoor
namespace Go.Proofs.YtclgigmgbebhgaaGreatDoor
open Tryz
open Go Go.Proofs Go.RowKit
def YK(l:List Z4.Z1)(nm:ByteArray):Z4.Z1:=if Z4.firstIdx (Z4.UO nm) l<0 then Z4.Z1.zero else l[(Z4.firstIdx (Z4.UO nm) l).toNat]!
def Ri(l:List Z4.Z1)(nm:ByteArray):Bool:=decide (0<(YK l nm).Yp)
theorem Kj(t:ByteArray)(sv:Value)(l:List Z4.Z1)(w:World)(C:l.length<=1000000)(I:Z4.Xv w sv l)(D:Z4.ZA l):
 Calls prog 41 #[sv,.string t] w λe w'=>∃(J:Int) (b:Bool),e=.returned (.tuple #[(YK l t).val,.int .i64 J,.bool b])/\(b=true↔0<=Z4.firstIdx (Z4.UO t) l)/\Below w.heap.size w w':=by
 refine(Z4.find_ok t sv l w C I D).mono ?_;rintro e w' ⟨rfl,hb⟩;unfold Z4.Lg YK;by_cases h:Z4.firstIdx (Z4.UO t) l<0;·rw[aF h,aF h];exact⟨0,false,rfl,by simp;omega,hb⟩
 ·rw[aN h,aN h];exact⟨_,true,rfl,by simp;omega,hb⟩
theorem vN(nm:ByteArray)(sv:Value)(l:List Z4.Z1)(w:World)(D:l.length<=1000000)(hR:Z4.Xv w sv l)(hT:Z4.ZA l):
 Calls prog 85 #[sv,.string nm] w λe w'=>∃d:Bool,e=.returned (.tuple #[.bool d,.bool (Ri l nm)])/\Below w.heap.size w w':=by
 have Z:=aT (Kj nm sv l w D hR hT);have U:Hid (Ri l nm=decide (0<(YK l nm).Yp)):=rfl;generalize Ri l nm=mb at*;clear hR;generalize YK l nm=y at*;obtain⟨J,y0,I,T,y3,y4,ym,ys⟩:=y;unfold Z4.Z1.val at Z;dsimp only at*;go_enter func85,ntmps85;go_wp2_with fail;refine Z.mono ?_;rintro e w1 ⟨kk,b,rfl,-,C⟩;have bY:=Z7.new w1 40 #[.string J,.int .i64 y0,.int .i64 I,.int .i64 T,.int .i64 y3,.int .i64 y4,.int .i64 ym,.int .i64 ys];obtain⟨_,_,_,c3,_,_,c6⟩:=bY.q7;have Y:=aT (C.alloc C.size (.cells #[.string J,.int .i64 y0,.int .i64 I,.int .i64 T,.int .i64 y3,.int .i64 y4,.int .i64 ym,.int .i64 ys] 40));clear C bY;cases b with
 |false=>
  go_wp2_with fail;go_quiet (fail);go_wp2;go_ret2;exact⟨_,by rw[U.out];rfl,Kv Y _⟩
 |true=>
  go_wp2_with fail;go_quiet (fail);go_wp2;go_ret2;exact⟨_,by rw[U.out];rfl,Kv Y _⟩
theorem vM{nm:ByteArray}{k n:Int}{ua:Option Addr}{K uc B:Nat}(sv:Value)(l:List Z4.Z1)(W:World)(J:l.length<=1000000)(hR:Z4.Xv W sv l)(hT:Z4.ZA l)(Z:Z7 W B 41 #[sv]):
 Calls prog 84 #[.agg #[.string nm,.int .i64 k,.int .i64 n,.slice ua K uc],.pointer (some ⟨B,0,none⟩)] W λe w'=>e=.returned (.bool (Ri l nm&&decide (0<K)))/\Below W.heap.size W w':=by
 have C:=Yx W (.cells #[.string nm,.int .i64 k,.int .i64 n,.slice ua K uc] TR);have HC:=aT (vN nm sv l (W.alloc (.cells #[.string nm,.int .i64 k,.int .i64 n,.slice ua K uc] TR)) J (hR.below C) hT);have T:=aT (Z7.new W TR #[.string nm,.int .i64 k,.int .i64 n,.slice ua K uc]);have I:=aT (Z.alloc (.cells #[.string nm,.int .i64 k,.int .i64 n,.slice ua K uc] TR));have U:=aT C;clear C hR Z;generalize Ri l nm=mb at*;go_enter func84,ntmps84;go_upto_region 1 with fail;generalize W.alloc (.cells #[.string nm,.int .i64 k,.int .i64 n,.slice ua K uc] TR)=w1 at*;obtain⟨⟨p0,_,_,_⟩,_⟩:=Z8 T;have b0:=I.e0;go_wp2_with fail;refine HC.mono ?_;rintro e w2 ⟨d,rfl,hb⟩;have Y:=aT (T.below hb T.lt);have D:=aT (U.trans (hb.mono U.size));clear hb T U I HC b0 p0;obtain⟨⟨_,_,_,p3⟩,_⟩:=Z8 Y;cases mb with
 |false=>
  go_wp2_with fail;go_ret;exact⟨jS,D⟩
 |true=>
  go_wp2_with fail;go_ret;exact⟨jS,D⟩
end Go.Proofs.YtclgigmgbebhgaaGreatDoor
