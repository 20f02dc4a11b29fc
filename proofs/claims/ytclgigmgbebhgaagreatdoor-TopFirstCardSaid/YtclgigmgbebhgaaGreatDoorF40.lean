/- TopFirst: part 40: TopVal3 TopLw8 TopLw9 TopAskP. -/
import Derived.Test.YtclgigmgbebhgaaGreatDoorF39
set_option linter.unusedVariables false
set_option linter.unusedSimpArgs false
set_option maxRecDepth 100000
set_option maxHeartbeats 16000000
namespace Go.Proofs.YtclgigmgbebhgaaGreatDoor
open Tryz
open Go Go.Proofs Go.RowKit Go.Maps Go.WideMaps Go.ChangeMaps
variable {ow:ByteArray} {ks:List ByteArray} {PT PM:Nat} {tv:Value} {w W:World}
def ad5(s:ByteArray)(cs:List Z5):Prop:=s.size=0↔cs=[]
def IU(nm s:ByteArray):ByteArray:=nm++⟨#[58]⟩++s
inductive RD (l:List Z4.Z1):List NR->List ByteArray->Int->Prop
 |done (ks:List ByteArray):RD l [] ks 0
 |name {r:NR} {rs:List NR} {ks:List ByteArray}:Z4.firstIdx (Z4.UO r.nm) l<0->RD l (r::rs) ks 14
 |zK {r:NR} {rs:List NR} {ks:List ByteArray}:0<=Z4.firstIdx (Z4.UO r.nm) l->r.cs.any Xi=true->RD l (r::rs) ks 16
 |twice {r:NR} {rs:List NR} {ks:List ByteArray} {s:ByteArray}:0<=Z4.firstIdx (Z4.UO r.nm) l->r.cs.any Xi=false->ad5 s r.cs->(r.nm++⟨#[58]⟩∈ks\/IU r.nm s∈ks)->RD l (r::rs) ks 15
 |next {r:NR} {rs:List NR} {ks:List ByteArray} {s:ByteArray} {ev:Int}:0<=Z4.firstIdx (Z4.UO r.nm) l->r.cs.any Xi=false->ad5 s r.cs->¬(r.nm++⟨#[58]⟩∈ks\/IU r.nm s∈ks)->RD l rs (ks++[IU r.nm s]) ev->RD l (r::rs) ks ev
theorem RD.ok{l:List Z4.Z1}{rs:List NR}{ks:List ByteArray}{ev:Int}(h:RD l rs ks ev):ev=0->∀r∈rs,0<=Z4.firstIdx (Z4.UO r.nm) l/\r.cs.any Xi=false:=by
 induction h with
 |done ks=>intro _ r hr;cases hr
 |name _=>intro e;cases e
 |zK _ _=>intro e;cases e
 |twice _ _ _ _=>intro e;cases e
 |next h1 C _ _ _ D=>
  intro e r hr;rcases abb.1 hr with rfl|hr;·exact⟨h1,C⟩
  ·exact D e r hr
theorem Nz(nm s:ByteArray):(IU nm s).size=nm.size+1+s.size:=by
 unfold IU;rw[ate,ate];rfl
theorem ug{nm s:ByteArray}(h:s.size=0):IU nm s=nm++⟨#[58]⟩:=by
 have:s=⟨#[]⟩:=ByteArray.ext (Array.eq_empty_of_size_eq_zero h);unfold IU;rw[this];exact ByteArray.append_empty
theorem RD.one{l:List Z4.Z1}{r:NR}{ev:Int}(h:RD l [r] [] ev)(D:0<=Z4.firstIdx (Z4.UO r.nm) l)(C:r.cs.any Xi=false):ev=0:=by
 cases h with
 |name q=>omega
 |zK _ q=>rw[C] at q;cases q
 |twice _ _ _ q=>rcases q with q|q<;>cases q
 |next _ _ _ _ q=>cases q;rfl
theorem RD.two{l:List Z4.Z1}{x y:NR}{ev:Int}(h:RD l [x,y] [] ev)(hn:y.nm=x.nm)(U:0<=Z4.firstIdx (Z4.UO x.nm) l)(D:x.cs.any Xi=false)(hx:x.cs≠[])(hy:y.cs=[]):ev=0:=by
 cases h with
 |name q=>omega
 |zK _ q=>rw[D] at q;cases q
 |twice _ _ _ q=>rcases q with q|q<;>cases q
 | @next _ _ _ s _ _ _ C _ q=>
   have hs:s.size≠0:=λe=>hx (C.1 e)
   cases q with
   |name q=>rw[hn] at q;omega
   |zK _ q=>rw[hy] at q;cases q
   | @twice _ _ _ T _ _ I q=>
     exfalso;have J:T.size=0:=I.2 hy;rcases q with q|q
     ·have e:=ax ByteArray.size (aaa.1 q);rw[hn,Nz,ate] at e;have e:x.nm.size+1=x.nm.size+1+s.size:=e;omega
     ·have e:=ax ByteArray.size (aaa.1 q);rw[hn,Nz,Nz] at e;omega
   |next _ _ _ _ q=>cases q;rfl
theorem RD.late{l:List Z4.Z1}{x y:NR}{ev:Int}(h:RD l [y,x] [] ev)(hn:y.nm=x.nm)(I:0<=Z4.firstIdx (Z4.UO x.nm) l)(D:x.cs.any Xi=false)(hy:y.cs=[]):ev=15:=by
 cases h with
 |name q=>rw[hn] at q;omega
 |zK _ q=>rw[hy] at q;cases q
 |twice _ _ _ q=>rcases q with q|q<;>cases q
 | @next _ _ _ s _ _ _ C _ q=>
   have hs:s.size=0:=C.2 hy;have hm:x.nm++(⟨#[58]⟩:ByteArray)∈[]++[IU y.nm s]:=by rw[ug hs,hn];simp
   cases q with
   |name q=>omega
   |zK _ q=>rw[D] at q;cases q
   |twice _ _ _ _=>rfl
   |next _ _ _ q _=>exact absurd (.inl hm) q
def OH(uf:Bool)(l:List Z4.Z1)(pr:List NR)(ev:Int):Prop:=(uf=false->ev=13)/\(uf=true->(ev=18/\¬Z4.ZA l)\/(Z4.ZA l/\RD l pr [] ev))
def ad6(uf:Bool)(l:List Z4.Z1)(pr:List NR)(w:World)(e:Ending)(w':World):Prop:=∃z ev:Int,e=.returned (.tuple #[.int .i64 z,.int .i64 ev])/\OH uf l pr ev/\Below w.heap.size w w'
structure Cx(lo PT PM B:Nat)(tv:Value)(w:World)(ks:List ByteArray)(W:World):Prop where
 Zr:Below lo w W
 lw:lo<=W.heap.size
 tab:Z7 W PT 41 #[tv]
 box:Z7 W PM 182 #[.map (some B)]
 map:Zz W B (uh ks)
 Nw:lo<=B
 nd:ks.Pairwise (·≠·)
 sz:∀s∈ks,s.size<=1000000
theorem Cx.to{lo B:Nat} {W':World} (h:Cx lo PT PM B tv w ks W)(hb:Below W.heap.size W W'):Cx lo PT PM B tv w ks W':=
 ⟨h.Zr.trans (hb.mono h.lw),aO h.lw hb.size,h.tab.below hb h.tab.lt,h.box.below hb h.box.lt,h.map.below hb h.map.lt,h.Nw,h.nd,h.sz⟩
theorem Cx.put{lo B:Nat} {s:ByteArray}(h:Cx lo PT PM B tv w ks W)(hs:s.size<=1000000)(hn:s∉ks):∃W',(Instr.mapUpdate 182 (.map (some B)) (.string s) (.bool true)).run prog W=.ok () W'/\Cx lo PT PM B tv w (ks++[s]) W':=by
 have hk:∀p∈uh ks,∃l,keyOf prog 9 p.1=some l:=λp hp=>by obtain⟨x,hx,rfl⟩:=ah.1 hp;exact Oc x (h.sz x hx)
 obtain⟨W',I,D,C⟩:=Vd underlying182 Ti h.map hk (Oc s hs) (λp hp e=>by obtain⟨x,hx,rfl⟩:=ah.1 hp;exact hn (by rw[<-aqf e];exact hx)) (.bool true)
 have nb:∀{X t:Nat} {cs:Array Value},Z7 W X t cs->some X≠some B:=λhx e=>by cases e;obtain⟨es,c,hm,_⟩:=h.map;have:=hm.symm.trans hx;cases this
 refine⟨W',I,h.Zr.grown C h.lw (λk e=>by cases e;exact h.Nw),aO h.lw C.size,h.tab.kept C (nb h.tab),h.box.kept C (nb h.box),?_,h.Nw,?_,λx hx=> ?_⟩;·unfold uh at D ⊢;rw[ada];exact D
 ·exact afb.2 ⟨h.nd,apc _ _,λx hx y hy e=>hn (by rw[<-aaa.1 hy,<-e];exact hx)⟩
 ·rcases abf.1 hx with hx|hx;·exact h.sz x hx
  ·rw[aaa.1 hx];exact hs
def ao6(nm:ByteArray)(cs:List Z5)(W1 wx:World)(PO:Nat)(s:ByteArray):Prop:=ad5 s cs/\s.size<=100000/\Z7 wx PO 9 #[.string (IU nm s)]/\Below W1.heap.size W1 wx
theorem nQ{B:Nat}{a:World}(q:Nat)(h:Below B a w):Below B a (w.drewN q):=⟨h.os,h.tape,h.output,h.size,h.block⟩
theorem ue {nm:ByteArray}(h:(!Cc (nm++⟨#[58]⟩) ks && !Cc ow ks)=true):¬(nm++⟨#[58]⟩∈ks\/ow∈ks):=by
 rintro(e|e)<;>rw[NA.2 e] at h<;>simp at h
theorem Cw {nm:ByteArray}(h:(!Cc (nm++⟨#[58]⟩) ks && !Cc ow ks)=false):nm++⟨#[58]⟩∈ks\/ow∈ks:=by
 rw[<-NA,<-NA];cases C:Cc (nm++⟨#[58]⟩) ks<;>cases D:Cc ow ks<;>simp[C,D] at h ⊢
theorem Js{uf:Bool}{N L c:Nat}{a:Option Addr}{pr:List NR}{k n:Int}{x:Bool}(sa:Option Addr)(sc:Nat)(l:List Z4.Z1)(hL:uf=true->pr.length=L)(Xo:L<=500)(w:World)(hQ:uf=true->Uv N w a pr)(hN:N<=w.heap.size)(KH:l.length<=40)(hlz:∀r∈l,r.name.size<=1000)(hR:Z4.Xv w (.slice sa l.length sc) l)(hp:ZJ.Xr w)
 (U6:∀W,Below w.heap.size w W->Calls prog 75 #[.agg #[.int .i64 k,.int .i64 n,.bool x,.slice a L c]] W λe w'=>e=.returned (.bool uf)/\Below W.heap.size W w')
 (hsz:uf=true->∀r∈pr,r.nm.size<=1000/\r.cs.length<=1000/\∀c∈r.cs,c.right):
 Calls prog 34 #[.agg #[.int .i64 k,.int .i64 n,.bool x,.slice a L c],.slice sa l.length sc] w (ad6 uf l pr w):=by
 have hb2:=Kz w (.cells #[.int .i64 k,.int .i64 n,.bool x,.slice a L c] VQ) (.cells #[.slice sa l.length sc] 41);have kJ:=aT ((Z7.new w VQ #[.int .i64 k,.int .i64 n,.bool x,.slice a L c]).alloc (.cells #[.slice sa l.length sc] 41));have HT0:Hid (Z7 ((w.alloc (.cells #[.int .i64 k,.int .i64 n,.bool x,.slice a L c] VQ)).alloc (.cells #[.slice sa l.length sc] 41)) (w.heap.size+1) 41 #[.slice sa l.length sc]):=Z7.OY w _ 41 #[.slice sa l.length sc];have HB:=aT hb2;have HQ:=aT hQ;have fx:=aT hsz;have yV:=aT U6;have HL:=aT hL;have Ay:=aT hR;have rI:=aT hp;have HLz:=aT hlz;clear hb2 hQ hsz U6 hL hR hp hlz;go_enter func34,ntmps34;go_upto_region 1 with fail;generalize (w.alloc (.cells #[.int .i64 k,.int .i64 n,.bool x,.slice a L c] VQ)).alloc (.cells #[.slice sa l.length sc] 41)=w1 at*;obtain⟨PT,qu⟩:=jX (w.heap.size+1);rw[qu] at HT0 ⊢;have hwP:w.heap.size<PT:=jO;clear qu;obtain⟨⟨p0,p1,p2,p3⟩,_⟩:=Z8 kJ;go_wp2_with fail;refine(yV w1 HB).mono ?_;rintro e w2 ⟨rfl,hb⟩;have Gn:=aT (kJ.below hb kJ.lt);have Tp:=aT (HT0.below hb HT0.lt);have XX:=aT (HB.trans (hb.mono HB.size));clear hb kJ HT0 HB yV p0 p1 p2 p3;cases uf with
 |false=>
  simp only[Bool.not_false];go_wp2_with fail;go_ret2;exact⟨_,_,rfl,⟨λ_=>rfl,λe=>(by cases e)⟩,XX⟩
 |true=>
  simp only[Bool.not_true];have hLL:=HL (by trivial);have HRr:=aT (Z4.X0 (.slice sa l.length sc) l w2 jO (Ay.below XX) (λr hr=>aO (HLz r hr) jD));have t0:=Tp.e0;go_wp2_with fail;refine HRr.mono ?_;rintro e w3 ⟨az,av,rfl,er,hb⟩;have Gm:=aT (Gn.below hb Gn.lt);have dz:=aT (Tp.below hb Tp.lt);have Uy:=aT (XX.trans (hb.mono XX.size));have mK:=aT er;clear hb Gn Tp XX HRr t0 er;by_cases h0:av=0
  ·subst h0
   have Z:Hid (Z4.ZA l):=by
    rcases mK.out with⟨h4,_⟩|⟨_,⟨i,_,_,h,_⟩|⟨_,_,h⟩⟩;·omega
    ·exact absurd rfl h
    ·exact h
   have Jj:= @aog prog;have hM4:=Zz.made w3;have Fk:Hid (Cx w.heap.size PT (w3.heap.size+1) w3.heap.size (.slice sa l.length sc) w [] ((w3.alloc (.map #[] 0)).alloc (.cells #[.map (some w3.heap.size)] 182))):=by have b1:=Yx w3 (.map #[] 0);have b2:=Kz w3 (.map #[] 0) (.cells #[.map (some w3.heap.size)] 182);exact⟨Uy.trans (b2.mono Uy.size),aO Uy.size b2.size,dz.below b2 dz.lt,Z7.OY w3 _ 182 #[.map (some w3.heap.size)],hM4.alloc _,Uy.size,List.Pairwise.nil,λs hs=>by cases hs⟩
   have fU:=aT (Gm.below (Kz w3 (.map #[] 0) (.cells #[.map (some w3.heap.size)] 182)) Gm.lt);clear hM4 Gm dz Uy mK;go_upto_region 7 with fail;generalize (w3.alloc (.map #[] 0)).alloc (.cells #[.map (some w3.heap.size)] 182)=w4 at*;obtain⟨PM,hPM⟩:=jX (w3.heap.size+1);rw[hPM] at Fk ⊢;generalize w3.heap.size=B at*;clear hPM Jj;obtain⟨⟨p0,p1,p2,p3⟩,_⟩:=Z8 fU;go_upto_region 8 with fail;clear p0 p1 p2 p3;go_loopg [31] (L+1) (λgg s31 wr=>∃(i:Nat) (ks:List ByteArray),i<=L/\L-i<gg/\s31=.int .i64 (i:Int)/\Hid (∀ev,RD l (pr.drop i) ks ev->RD l pr [] ev)/\Hid (Cx w.heap.size PT PM B (.slice sa l.length sc) w ks wr));case atStart=>exact⟨0,[],abd _,jO,rfl,(λev h=>h),Fk⟩
   case round=>
    obtain⟨i,ks,sR,Vs,rfl,lX,HI⟩:=hrel;clear Fk fU;have wC:=jZ i;by_cases hlt:i<L
    ·have Zd:(i:Int)<(L:Int):=by omega
     have Jc:=jW i;obtain⟨r,hr⟩:∃r,pr[i]? =some r:=⟨_,aL (by rw[hLL];exact hlt)⟩;obtain⟨g,off,u,rfl,hg,y0,y1,y2,y3,hcs⟩:=((HQ (by trivial)).below HI.Zr hN) i r hr;have gH:Hid (pr.drop i=r::pr.drop (i+1)):=by show _=_;exact drop_cons hr
     obtain⟨BM,hrl,cX⟩:=fx (by trivial) r (ag hr);have HRc:=aT cX;obtain⟨ua,uc,rfl⟩:=hcs.form;obtain⟨nm,rk,rn,cs⟩:=r;dsimp only at*;obtain⟨K,hK⟩:=jX cs.length;rw[hK] at y3 hrl hcs;have HK:=aT hK;have Da:=Yx wr (.cells #[.string nm,.int .i64 rk,.int .i64 rn,.slice ua K uc] TR);have yL:=aT (HI.to Da);have tG:=aT (Z7.new wr TR #[.string nm,.int .i64 rk,.int .i64 rn,.slice ua K uc]);have HC5:=aT (hcs.below Da (aO hN HI.lw));clear hr cX hK hcs Da;go_upto_region 12 with fail;generalize wr.alloc (.cells #[.string nm,.int .i64 rk,.int .i64 rn,.slice ua K uc] TR)=w5 at*;generalize wr.heap.size=BR at*;clear y0 y1 y2 y3 HI;have HKy:=aT (λW (hb:Below w5.heap.size w5 W)=>iL (uc:=uc) HK hrl HRc W (rI.below (yL.Zr.trans (hb.mono yL.lw))) (HC5.below hb (aO hN yL.lw)) (aO (aO hN yL.lw) hb.size));go_cut [13] from 38 to 44 (λs wx=>∃PO sz,s=.pointer (some ⟨PO,0,none⟩)/\Hid (ao6 nm cs w5 wx PO sz))
     case first=>
      have Nv:Hid (∀W:World,Below w5.heap.size w5 W->W.cell? ⟨BR,0,none⟩=some (.string nm)/\W.cell? ⟨BR,3,none⟩=some (.slice ua K uc)):=λW hW=>by obtain⟨⟨q0,_,_,q3⟩,_⟩:=Z8 (tG.below hW tG.lt);exact⟨q0,q3⟩
      have kd:Below w5.heap.size w5 w5.drew:=(aG _ _).drew;have ka:Below w5.heap.size w5 (w5.alloc (.cells #[.string ⟨#[]⟩] 9)).drew:=kd.alloc (aR _) _;have kas:=ka.size;have kb:Below w5.heap.size w5 (w5.drew.alloc (.cells #[.string ⟨#[]⟩] 9)):=ka;have aL1:¬9223372036854775807<nm.size+1:=jO
      go_region_held_law (λw'=>w'.cell? ⟨BR,0,none⟩=some (.string nm)/\w'.cell? ⟨BR,3,none⟩=some (.slice ua K uc)) (exact Nv _ (by first|(with_reducible assumption)|(with_reducible exact kd)|(with_reducible exact ka))) (first
       |(go_at_call 81;refine(HKy _ (by first|(with_reducible assumption)|(with_reducible exact kd)|(with_reducible exact ka))).mono ?_;rintro e w7 ⟨sz,rfl,hs1,hs2,TH⟩;have k7:Below w5.heap.size w5 w7:=(by first|exact kd.trans TH|exact ka.trans (TH.mono kas));have aL2:¬9223372036854775807<nm.size+1+sz.size:=jO;have k8:=k7.alloc k7.size (.cells #[.string ⟨#[]⟩] 9);have k9:=k7.alloc k7.size (.cells #[.string (nm++⟨#[58]⟩++sz)] 9);have Jn:=aT hs1;clear hs1;have ks7:=k7.setCell (p:=⟨w5.heap.size,0,none⟩) (aR _) (.string (nm++⟨#[58]⟩++sz));try (have g7:Z7 w7 w5.heap.size 9 #[.string ⟨#[]⟩]:=(show Z7 (w5.alloc (.cells #[.string ⟨#[]⟩] 9)).drew w5.heap.size 9 #[.string ⟨#[]⟩] from Z7.new w5 9 #[.string ⟨#[]⟩]).below TH (Z7.new w5 9 #[.string ⟨#[]⟩]).lt;have y0:w7.cell? ⟨w5.heap.size,0,none⟩=some (.string ⟨#[]⟩):=g7.cell 0;have f0:=g7.frozen 0)))
      ·go_wp2_with fail;go_meet;exact⟨_,sz,rfl,Jn,hs2,Z7.new w7 _ _,k9⟩
      ·go_wp2_with fail;go_meet;exact⟨_,sz,rfl,Jn,hs2,g7.set 0 _,k7.setCell (p:=⟨w5.heap.size,0,none⟩) (aR _) _⟩
     case rest=>
      obtain⟨PO,sz,rfl,HO⟩:=hcut;have C:=aT (yL.to HO.2.2.2);have om:=aT (tG.below HO.2.2.2 tG.lt);have mY:=aT (HC5.below HO.2.2.2 (aO hN yL.lw));have ez:=aT HO.2.2.1;have HKR:=aT HO.1;have hs2:=HO.2.1;clear yL tG HC5 HKy HO;obtain⟨ow,how⟩:∃o,IU nm sz=o:=⟨_,rfl⟩;rw[how] at ez;have HOw:=aT how;have hos:ow.size<=1000000:=by rw[<-how,Nz];omega
      clear how;have hNc:N<=wc.heap.size:=aO hN C.lw;have HNm:=aT (λW (hb:Below wc.heap.size wc W)=>zM sa sc l W jO (Ay.below (C.Zr.trans (hb.mono C.lw))) Z (C.tab.below hb C.tab.lt) (om.below hb om.lt));have HRg:=aT (λW (hb:Below wc.heap.size wc W)=>Sn (uc:=uc) HK jO (λc hc=>⟨(HRc c hc).2.2.2.1,(HRc c hc).2.2.2.2⟩) W (mY.below hb hNc) (aO hNc hb.size) (om.below hb om.lt));have HFr:=aT (λW (hb:Below wc.heap.size wc W)=>zL W (C.map.below hb C.map.lt) C.nd C.sz BM hos (C.box.below hb C.box.lt) (om.below hb om.lt) (ez.below hb ez.lt));obtain⟨b1,hb1⟩:∃b,decide (0<=Z4.firstIdx (Z4.UO nm) l)=b:=⟨_,rfl⟩;obtain⟨b2,hb2⟩:∃b,cs.any Xi=b:=⟨_,rfl⟩;obtain⟨b3,hb3⟩:∃b,(!Cc (nm++⟨#[58]⟩) ks && !Cc ow ks)=b:=⟨_,rfl⟩;rw[hb1] at HNm;rw[hb2] at HRg;rw[hb3] at HFr;have U:=aT (And.intro hb1 (And.intro hb2 hb3));clear hb1 hb2 hb3;have HA7:=aT (Z7.new wc 185 #[.func (.func 77) #[] #[.pointer (some ⟨PT,0,none⟩),.pointer (some ⟨BR,0,none⟩)],.int .i64 14,.func (.func 78) #[] #[.pointer (some ⟨BR,0,none⟩)],.int .i64 16,.func (.func 82) #[] #[.pointer (some ⟨PM,0,none⟩),.pointer (some ⟨BR,0,none⟩),.pointer (some ⟨PO,0,none⟩)],.int .i64 15]);have TH:=Yx wc (.cells #[.func (.func 77) #[] #[.pointer (some ⟨PT,0,none⟩),.pointer (some ⟨BR,0,none⟩)],.int .i64 14,.func (.func 78) #[] #[.pointer (some ⟨BR,0,none⟩)],.int .i64 16,.func (.func 82) #[] #[.pointer (some ⟨PM,0,none⟩),.pointer (some ⟨BR,0,none⟩),.pointer (some ⟨PO,0,none⟩)],.int .i64 15] 185);have gZ:∀(fn:Fn) (first cap:Array Value) (w:World),(Instr.makeFunc fn first cap).run prog w=.ok (.func fn first cap) w:=λ_ _ _ _=>rfl
      go_upto_region 15 with fail;clear gZ;generalize wc.alloc (.cells #[.func (.func 77) #[] #[.pointer (some ⟨PT,0,none⟩),.pointer (some ⟨BR,0,none⟩)],.int .i64 14,.func (.func 78) #[] #[.pointer (some ⟨BR,0,none⟩)],.int .i64 16,.func (.func 82) #[] #[.pointer (some ⟨PM,0,none⟩),.pointer (some ⟨BR,0,none⟩),.pointer (some ⟨PO,0,none⟩)],.int .i64 15] 185)=w7 at*;obtain⟨AB,hAB⟩:∃z,wc.heap.size=z:=⟨_,rfl⟩;rw[hAB] at HA7 ⊢;have HAB:=aT hAB;clear hAB;have HC7:Hid (∀W,Below wc.heap.size wc W->True):=λ_ _=>trivial
      have ao7:Hid (∀W,Below w7.heap.size w7 W->∀q,q<3->W.cell? ⟨AB,q*2,none⟩=(#[.func (.func 77) #[] #[.pointer (some ⟨PT,0,none⟩),.pointer (some ⟨BR,0,none⟩)],.int .i64 14,.func (.func 78) #[] #[.pointer (some ⟨BR,0,none⟩)],.int .i64 16,.func (.func 82) #[] #[.pointer (some ⟨PM,0,none⟩),.pointer (some ⟨BR,0,none⟩),.pointer (some ⟨PO,0,none⟩)],.int .i64 15]:Array Value)[q*2]? /\W.cell? ⟨AB,q*2+1,none⟩=(#[.func (.func 77) #[] #[.pointer (some ⟨PT,0,none⟩),.pointer (some ⟨BR,0,none⟩)],.int .i64 14,.func (.func 78) #[] #[.pointer (some ⟨BR,0,none⟩)],.int .i64 16,.func (.func 82) #[] #[.pointer (some ⟨PM,0,none⟩),.pointer (some ⟨BR,0,none⟩),.pointer (some ⟨PO,0,none⟩)],.int .i64 15]:Array Value)[q*2+1]?):=λW hW q _=>
       ⟨(HA7.below hW HA7.lt).cell _,(HA7.below hW HA7.lt).cell _⟩
      have D:=aT TH;have iV:=D.size;clear TH HC7;go_loopg [54] 4 (λg3 s54 wr=>∃q:Nat,q<=3/\3-q<g3/\s54=.int .i64 (q:Int)/\Hid ((0<q->b1=true)/\(1<q->b2=false)/\(2<q->b3=true))/\Hid (Below w7.heap.size w7 wr));case atStart=>exact⟨0,jD,jD,rfl,⟨λh=>absurd h jD,λh=>absurd h jD,λh=>absurd h jD⟩,aG _ _⟩
      case round=>
       obtain⟨q,hq3,hg3,rfl,T,yo⟩:=hrel;have Od:Hid (Below wc.heap.size wc wr):=D.trans (yo.mono iV);have hcell:=ao7 wr yo;rcases (show q=0\/q=1\/q=2\/q=3 from jO) with rfl|rfl|rfl|rfl
       ·
        obtain⟨g0a,g0b⟩:=hcell 0 jD;have J:=aT (Z7.new wr 185 #[.func (.func 77) #[] #[.pointer (some ⟨PT,0,none⟩),.pointer (some ⟨BR,0,none⟩)],.int .i64 14]);have k8:Below w7.heap.size w7 (wr.alloc (.cells #[.func (.func 77) #[] #[.pointer (some ⟨PT,0,none⟩),.pointer (some ⟨BR,0,none⟩)],.int .i64 14] 185)):=yo.alloc yo.size _;have K8:=aT k8;clear k8 hcell;go_upto_region 17 with fail;generalize wr.alloc (.cells #[.func (.func 77) #[] #[.pointer (some ⟨PT,0,none⟩),.pointer (some ⟨BR,0,none⟩)],.int .i64 14] 185)=w8 at*;obtain⟨A8,ep⟩:∃z,wr.heap.size=z:=⟨_,rfl⟩;rw[ep] at J ⊢;clear ep;obtain⟨z0,z1⟩:=J.q2;have Y:=aT (HNm w8 (D.trans (K8.mono iV)));go_wp2_with fail;refine Y.mono ?_;rintro e w9 ⟨rfl,I⟩;have K9:=aT (K8.trans (I.mono K8.size));have z1:=(I.cell (p:=⟨A8,1,none⟩) J.lt).trans z1;clear I Y z0;cases b1 with
        |false=>
         go_wp2_with fail;go_quiet (fail);go_wp2_with fail;go_ret2;exact⟨_,_,rfl,⟨λe=>(by cases e),λ_=>.inr ⟨Z,lX _ (by rw[gH.out];exact RD.name (by have h:=U.1;simpa using h))⟩⟩,nQ nq (C.Zr.trans ((D.trans (K9.mono iV)).mono C.lw))⟩
        |true=>
         go_wp2_with fail;go_roundg (3-0);case measure=>omega
         case rel=>exact⟨1,jD,jD,rfl,⟨λ_=>(by first|rfl|trivial),λh=>absurd h jD,λh=>absurd h jD⟩,K9⟩
       ·
        obtain⟨g1a,g1b⟩:=hcell 1 jD;have J:=aT (Z7.new wr 185 #[.func (.func 78) #[] #[.pointer (some ⟨BR,0,none⟩)],.int .i64 16]);have k8:Below w7.heap.size w7 (wr.alloc (.cells #[.func (.func 78) #[] #[.pointer (some ⟨BR,0,none⟩)],.int .i64 16] 185)):=yo.alloc yo.size _;have K8:=aT k8;clear k8 hcell;go_upto_region 17 with fail;generalize wr.alloc (.cells #[.func (.func 78) #[] #[.pointer (some ⟨BR,0,none⟩)],.int .i64 16] 185)=w8 at*;obtain⟨A8,ep⟩:∃z,wr.heap.size=z:=⟨_,rfl⟩;rw[ep] at J ⊢;clear ep;obtain⟨z0,z1⟩:=J.q2;have Y:=aT (HRg w8 (D.trans (K8.mono iV)));go_wp2_with fail;refine Y.mono ?_;rintro e w9 ⟨rfl,I⟩;have K9:=aT (K8.trans (I.mono K8.size));have z1:=(I.cell (p:=⟨A8,1,none⟩) J.lt).trans z1;clear I Y z0;cases b2 with
        |true=>
         go_wp2_with fail;go_quiet (fail);go_wp2_with fail;go_ret2;exact⟨_,_,rfl,⟨λe=>(by cases e),λ_=>.inr ⟨Z,lX _ (by rw[gH.out];exact RD.zK (by have h:=U.1;rw[T.out.1 jD] at h;simpa using h) U.2.1)⟩⟩,nQ nq (C.Zr.trans ((D.trans (K9.mono iV)).mono C.lw))⟩
        |false=>
         go_wp2_with fail;go_roundg (3-1);case measure=>omega
         case rel=>exact⟨2,jD,jD,rfl,⟨λ_=>T.1 jD,λ_=>(by first|rfl|trivial),λh=>absurd h jD⟩,K9⟩
       ·
        obtain⟨g2a,g2b⟩:=hcell 2 jD;have J:=aT (Z7.new wr 185 #[.func (.func 82) #[] #[.pointer (some ⟨PM,0,none⟩),.pointer (some ⟨BR,0,none⟩),.pointer (some ⟨PO,0,none⟩)],.int .i64 15]);have k8:Below w7.heap.size w7 (wr.alloc (.cells #[.func (.func 82) #[] #[.pointer (some ⟨PM,0,none⟩),.pointer (some ⟨BR,0,none⟩),.pointer (some ⟨PO,0,none⟩)],.int .i64 15] 185)):=yo.alloc yo.size _;have K8:=aT k8;clear k8 hcell;go_upto_region 17 with fail;generalize wr.alloc (.cells #[.func (.func 82) #[] #[.pointer (some ⟨PM,0,none⟩),.pointer (some ⟨BR,0,none⟩),.pointer (some ⟨PO,0,none⟩)],.int .i64 15] 185)=w8 at*;obtain⟨A8,ep⟩:∃z,wr.heap.size=z:=⟨_,rfl⟩;rw[ep] at J ⊢;clear ep;obtain⟨z0,z1⟩:=J.q2;have Y:=aT (HFr w8 (D.trans (K8.mono iV)));go_wp2_with fail;refine Y.mono ?_;rintro e w9 ⟨rfl,I⟩;have K9:=aT (K8.trans (I.mono K8.size));have z1:=(I.cell (p:=⟨A8,1,none⟩) J.lt).trans z1;clear I Y z0;cases b3 with
        |false=>
         go_wp2_with fail;go_quiet (fail);go_wp2_with fail;go_ret2;exact⟨_,_,rfl,⟨λe=>(by cases e),λ_=>.inr ⟨Z,lX _ (by rw[gH.out];exact RD.twice (s:=sz) (by have h:=U.1;rw[T.out.1 jD] at h;simpa using h) (by rw[U.out.2.1];exact T.2.1 jD) HKR (by rw[HOw.out];exact Cw U.2.2))⟩⟩,nQ nq (C.Zr.trans ((D.trans (K9.mono iV)).mono C.lw))⟩
        |true=>
         go_wp2_with fail;go_roundg (3-2);case measure=>omega
         case rel=>exact⟨3,jD,jD,rfl,⟨λ_=>T.1 jD,λ_=>T.2.1 jD,λ_=>(by first|rfl|trivial)⟩,K9⟩
       ·
        clear hcell;have mX:=aT (C.to Od);have HO9:=aT (ez.below Od ez.lt);have HF:=aT (ue (ks:=ks) (nm:=nm) (ow:=ow) (by rw[U.out.2.2];exact T.2.2 jD));obtain⟨wq,hmu,hIq⟩:=mX.put hos (λh=>HF (.inr h));have HIq:=aT hIq;have di:Hid (∀ev,RD l (pr.drop (i+1)) (ks++[ow]) ev->RD l pr [] ev):=λev h=>lX ev (by
         rw[gH.out];refine RD.next (s:=sz) (by have h:=U.1;rw[T.out.1 jD] at h;simpa using h) (by rw[U.out.2.1];exact T.2.1 jD) HKR ?_ ?_;·rw[HOw.out];exact HF
         ·rw[HOw.out];exact h)
        have m0:=mX.box.e0;have o0:=HO9.e0;clear hIq
        go_wp2_with (rw[hmu])
        clear m0 o0;go_wp2_with fail;go_roundg (L-i);case measure=>omega
        case rel=>exact⟨i+1,_,jO,jO,by go_num,di,HIq⟩
    ·obtain rfl:i=L:=by omega
     have Zd:¬(i:Int)<(i:Int):=jO;have aD7:Hid (RD l pr [] 0):=lX 0 (by rw[amg (by rw[hLL];exact aR _)];exact RD.done _)
     go_wp2_with fail;go_ret2;exact⟨_,_,rfl,⟨λe=>(by cases e),λ_=>.inr ⟨Z,aD7⟩⟩,HI.Zr⟩
  ·have mi:(av != 0)=true:=by simpa using h0
   have HNo:Hid (¬Z4.ZA l):=λhT=>by
    rcases mK.out with⟨h4,_⟩|⟨_,⟨i,hi,_,h,hs,_⟩|⟨_,h,_⟩⟩;·omega
    ·exact h (Z4.WZ.one hs (hT i hi))
    ·exact h0 h
   clear h0 mK;go_wp2_with fail;go_ret2;exact⟨_,_,rfl,⟨λe=>(by cases e),λ_=>.inl ⟨rfl,HNo⟩⟩,Uy⟩
end Go.Proofs.YtclgigmgbebhgaaGreatDoor
namespace Go.Proofs.YtclgigmgbebhgaaGreatDoor
open Tryz
open Go Go.Proofs Go.RowKit
variable {L Cm a:Nat} {w w':World}
def Sk(c:ZX.YO):Z5:=⟨c.a.toNat,c.o.toNat,c.m.toNat,c.v.toNat⟩
def X3(r:ZX.Zo):NR:=⟨r.name,r.k,r.n,r.conds.map Sk⟩
def Vn(k n:Int)(x:Bool)(rs:List ZX.Zo):Bool:=ZX.CT ⟨k,n,x,rs⟩
theorem Jr{c:ZX.YO}(hr:ZX.XJ c=true)(hn:ZX.WK c):(((Sk c).a:Nat):Int)=c.a/\(((Sk c).o:Nat):Int)=c.o/\(((Sk c).m:Nat):Int)=c.m/\(((Sk c).v:Nat):Int)=c.v/\(Sk c).right:=by
 obtain⟨a,o,m,v⟩:=c;unfold ZX.XJ ZJ.Yf at hr;unfold ZX.WK at hn;have h:=agc hr;dsimp only at h hn;unfold Sk Z5.right YN;dsimp only;refine⟨jO,jO,jO,jO,jO,jO,?_,jO,jO⟩;rcases h.2.2.2.2 with C|C;·exact .inl jO
 ·exact .inr jO
theorem Tu{k n:Int}{x:Bool}{rs:List ZX.Zo}(h:Vn k n x rs=true):Yk.Zu k n=true/\rs.length<=500/\∀r∈rs,Yk.Zu r.k r.n=true/\r.conds.length<=6/\∀c∈r.conds,ZX.XJ c=true:=by
 unfold Vn ZX.CT at h;simp only[aef,adf,ajg] at h;obtain⟨I,J,D⟩:=h;refine⟨I,J,λr hr=> ?_⟩;have C:=D r hr;unfold ZX.Wh at C;simp only[aef,adf,ajg] at C;exact⟨C.2.1,C.2.2.1,C.2.2.2⟩
theorem ud{N:Nat}{W:World}{ua:Option Addr}{uc:Nat}{cs:List ZX.YO}(h:ZX.U0 N W ua cs)(hr:∀c∈cs,ZX.XJ c=true)(hn:∀c∈cs,ZX.WK c):YT N W (.slice ua cs.length uc) (cs.map Sk):=by
 refine⟨ua,uc,by rw[aab],λk c hk=> ?_⟩;rw[acd] at hk;cases e:cs[k]? with
 |none=>rw[e] at hk;cases hk
 |some d=>
  rw[e] at hk;simp only[avd,ahf] at hk;subst hk;obtain⟨J,off,Y,C,c0,c1,Z,T⟩:=h k d e;have hm:=ag e;obtain⟨I,D,v2,U,_⟩:=Jr (hr d hm) (hn d hm);rw[I,D,v2,U];exact⟨J,off,Y,C,c0,c1,Z,T⟩
theorem MJ{k n:Int}{x:Bool}{N:Nat}{W:World}{a:Option Addr}{L c:Nat}{rs:List ZX.Zo}(h:ZX.VV N W (.slice a L c) rs)(hr:Vn k n x rs=true)(hn:∀r∈rs,∀c∈r.conds,ZX.WK c):Uv N W a (rs.map X3):=by
 obtain⟨a',Y,J,h⟩:=h;obtain⟨rfl,rfl⟩:a=a'/\c=Y:=by injection J with C D T;exact⟨C,T⟩
 intro i r hi;rw[acd] at hi;cases e:rs[i]? with
 |none=>rw[e] at hi;cases hi
 |some d=>
  rw[e] at hi;simp only[avd,ahf] at hi;subst hi;obtain⟨g,off,ua,uc,C,D,c0,c1,U,I,hc⟩:=h i d e;have hm:=ag e;exact⟨g,off,_,C,D,c0,c1,U,I,ud hc ((Tu hr).2.2 d hm).2.2 (hn d hm)⟩
def ad7(k n:Int)(x:Bool)(rs:List ZX.Zo)(l:List Z4.Z1):Prop:=Vn k n x rs=true/\Z4.ZA l/\∀r∈rs.map X3,0<=Z4.firstIdx (Z4.UO r.nm) l/\r.cs.any Xi=false
theorem Cv{k n:Int}{x:Bool}{rs:List ZX.Zo}{lo:Nat}{v:Value}(sv:Value)(l:List Z4.Z1)(hL:rs.length=L)(Xo:L<=41)(Z:∀r∈rs,r.name.size<=60)(hcs:∀r∈rs,r.conds.length<=12)(hcm:Vn k n x rs=true->∀r∈rs,r.conds.length<=Cm)(ac3:Cm<=12)(hn:∀r∈rs,∀c∈r.conds,ZX.WK c)(J:Tx L Cm<=10000)(aD8:l.length<=40)(U:∀r∈l,r.name.size<=60)(w:World)(hp:ZJ.Xr w)(hR:ZX.Zg TR TC lo w v rs)(I:Z4.Xv w sv l):
 Calls prog 10 #[.agg #[.int .i64 k,.int .i64 n,.bool x,v],sv] w λe w'=>JM (OH (Vn k n x rs) l (rs.map X3)) ((rs.map X3).any (Xf l)) L Cm w e w'\/(ad7 k n x rs l/\JL (rs.map X3) l k n x w e w'):=by
 obtain⟨a,c,hv⟩:=hR.slice;rw[hL] at hv;subst hv;obtain⟨sa,sc,hsv,yJ⟩:=id I;subst hsv;have hI:=hR.toI;have hlen:(rs.map X3).length=L:=by rw[aab,hL]
 have hVr:∀W,Below w.heap.size w W->Calls prog 75 #[.agg #[.int .i64 k,.int .i64 n,.bool x,.slice a L c]] W λe w'=>e=.returned (.bool (Vn k n x rs))/\Below W.heap.size W w':=λW hb=>
  ZX.JC (p:=⟨k,n,x,rs⟩) ⟨by show rs.length<=_;omega,λr hr=>⟨aO (Z r hr) jD,aO (hcs r hr) jD⟩⟩ W (hR.below hb)
 have hsz:Vn k n x rs=true->∀r∈rs.map X3,r.nm.size<=1000/\r.cs.length<=1000/\∀c∈r.cs,c.right:=λhr r hm=>by
  obtain⟨d,hd,rfl⟩:=ah.1 hm;refine⟨aO (Z d hd) jD,?_,λc hc=> ?_⟩;·show(d.conds.map Sk).length<=_;rw[aab];exact aO (hcs d hd) jD
  ·obtain⟨q,hq,rfl⟩:=ah.1 (show c∈d.conds.map Sk from hc);exact(Jr (((Tu hr).2.2 d hd).2.2 q hq) (hn d hd q hq)).2.2.2.2
 have Y:=GZ (V:=ad7 k n x rs l) (C:=OH (Vn k n x rs) l (rs.map X3)) (N:=w.heap.size) (L:=L) (c:=c) (Cm:=Cm) (a:=a) (pr:=rs.map X3) (k:=k) (n:=n) (x:=x) sa sc l (λ_=>hlen) jO J w (λD=>MJ hI D.1 hn) (aR _) jO I
  (λW hb=>by
    refine(Js (uf:=Vn k n x rs) (N:=w.heap.size) (L:=L) (c:=c) (a:=a) (pr:=rs.map X3) (k:=k) (n:=n) (x:=x) sa sc l (λ_=>hlen) jO W (λhr=>(MJ hI hr hn).below hb (aR _)) hb.size aD8 (λr hr=>aO (U r hr) jD) (I.below hb) (hp.below hb) (λW' hb'=>hVr W' (hb.trans (hb'.mono hb.size))) hsz).mono ?_;rintro e w' ⟨z,ev,rfl,hC,hb2⟩;refine⟨z,ev,rfl,hC,λh0=> ?_,hb2⟩;subst h0;cases T:Vn k n x rs with
    |false=>have:=hC.1 T;omega
    |true=>
     rcases hC.2 T with⟨h,_⟩|⟨h1,h2⟩;·omega
     ·exact⟨T,h1,h2.ok rfl⟩)
  (λD=>D.2.1) (λD r hr=>(D.2.2 r hr).1) (λD=>hsz D.1)
  (λD r hr=>by obtain⟨d,hd,rfl⟩:=ah.1 hr;show(d.conds.map Sk).length<=_;rw[aab];exact hcm D.1 d hd)
  jO
  (λD W hb=>by have h:=hVr W hb;rw[D.1] at h;exact h)
  (λD=>⟨(Tu D.1).1,λr hr=>by obtain⟨d,hd,rfl⟩:=ah.1 hr;exact((Tu D.1).2.2 d hd).1⟩)
 exact Y
theorem ub{r:Z4.Z1}(I:Z4.YC r.name)(J:Z4.Pm r)(C:¬Z4.Sb r):Z4.ZA [r]:=by
 intro j D;have:j=0:=by simpa using D
 subst this;exact .inr ⟨I,.inr ⟨λh=>absurd h.1 jD,.inr ⟨J,.inr ⟨C,.inr ⟨rfl,λk hk=>absurd hk jO⟩⟩⟩⟩⟩
def Za:Z4.Z1:=⟨⟨#[111,112,101,110]⟩,2,2,5,7,9,0,0⟩
theorem tZ(a b c d:UInt8)(C:(97<=a.toNat/\a.toNat<=122)/\(97<=b.toNat/\b.toNat<=122)/\(97<=c.toNat/\c.toNat<=122)/\(97<=d.toNat/\d.toNat<=122))(hl:(⟨#[a,b,c,d]⟩:ByteArray).toList.length=4):Z4.YC ⟨#[a,b,c,d]⟩:=by
 refine⟨(show 4<=30 from jD),⟨(show 0<4 from jD),C.1⟩,λh=> ?_,λh=> ?_,λj D=> ?_⟩;·rw[h] at hl;simp at hl
 ·rw[h] at hl;simp at hl
 ·have I:j<4:=D;rcases (show j=0\/j=1\/j=2\/j=3 from jO) with rfl|rfl|rfl|rfl;·exact .inl C.1
  ·exact .inl C.2.1
  ·exact .inl C.2.2.1
  ·exact .inl C.2.2.2
theorem OG:Z4.ZA [Za]:=ub (tZ _ _ _ _ jD (by decide+kernel)) ⟨λa ha=>by rcases (show a=0\/a=1\/a=2\/a=3\/a=4 from jO) with rfl|rfl|rfl|rfl|rfl<;>exact⟨jD,jD⟩,jD,jD,λ_=>rfl,λh=>absurd h jD⟩ (by unfold Z4.Sb;decide)
theorem Fy{r:Z4.Z1}{nm:ByteArray}(h:nm=r.name):0<=Z4.firstIdx (Z4.UO nm) [r]:=by
 subst h;unfold Z4.firstIdx Z4.UO;simp
theorem GK{r:Z4.Z1}(h:r.Yp=0)(q:NR):Xf [r] q=false:=by
 unfold Xf Ri YK;have:(if Z4.firstIdx (Z4.UO q.nm) [r]<0 then Z4.Z1.zero else [r][(Z4.firstIdx (Z4.UO q.nm) [r]).toNat]!).Yp=0:=by
  by_cases hi:Z4.firstIdx (Z4.UO q.nm) [r]<0;·rw[aF hi];rfl
  ·rw[aN hi]
   have C:(Z4.firstIdx (Z4.UO q.nm) [r]).toNat=0:=by
    unfold Z4.firstIdx Z4.firstIdx at hi ⊢;by_cases hp:Z4.UO q.nm r=true;·rw[aF hp];rfl
    ·rw[aN hp] at hi ⊢;simp at hi
   rw[C];exact h
 rw[this];rfl
theorem ad8{k n:Int}{x:Bool}{rs:List ZX.Zo}{r:Z4.Z1}{e:Ending}(T:Vn k n x rs=true)(Y:Z4.ZA [r])(hm:r.Yp=0)(hc:∀ev,RD [r] (rs.map X3) [] ev->ev=0)(J:3*(80+10*Tx L Cm)<=4096)
 (h:JM (OH (Vn k n x rs) [r] (rs.map X3)) ((rs.map X3).any (Xf [r])) L Cm w e w'\/(ad7 k n x rs [r]/\JL (rs.map X3) [r] k n x w e w')):JL (rs.map X3) [r] k n x w e w':=by
 rcases h with⟨z,ev,Z,C,_⟩|h
 ·exfalso;rcases C with D|D|D
  ·rcases D.2 T with⟨_,I⟩|⟨_,I⟩;·exact I Y
   ·exact Z (hc ev I)
  ·obtain⟨q,_,U⟩:=aka.1 D;rw[GK hm q] at U;cases U
  ·omega
 ·exact h.2
theorem iF{k n:Int}{x:Bool}{rs:List ZX.Zo}{r:Z4.Z1}{e:Ending}{ew:Int}(J:Vn k n x rs=true)(Z:Z4.ZA [r])(hm:r.Yp=0)(hc:∀ev,RD [r] (rs.map X3) [] ev->ev=ew)(T:3*(80+10*Tx L Cm)<=4096)
 (h:JM (OH (Vn k n x rs) [r] (rs.map X3)) ((rs.map X3).any (Xf [r])) L Cm w e w'):∃z,e=.returned (.tuple #[.agg #[.slice none 0 0,.int .i64 0,.int .i64 z],.int .i64 ew])/\Below w.heap.size w w':=by
 obtain⟨z,ev,h0,C,U,hb⟩:=h;rcases C with D|D|D
 ·rcases D.2 J with⟨_,I⟩|⟨_,I⟩;·exact absurd Z I
  ·rw[hc ev I] at U;exact⟨z,U,hb⟩
 ·obtain⟨q,_,Y⟩:=aka.1 D;rw[GK hm q] at Y;cases Y
 ·omega
theorem ad9{v m:Nat}(h:v ||| m=m):v &&& m=v:=by
 rw[<-h];apply Nat.eq_of_testBit_eq;intro i;simp only[Nat.testBit_and,Nat.testBit_or];cases v.testBit i<;>simp
theorem iE{v m:Int}(hv:0<=v/\v<18446744073709551616)(hm:0<=m/\m<18446744073709551616)(h:bits .or .u64 v m=m):v.toNat &&& m.toNat=v.toNat:=by
 have e:=bits_or_u64_nat v.toNat m.toNat jO jO;rw[show((v.toNat:Nat):Int)=v from jO,show((m.toNat:Nat):Int)=m from jO,h] at e;exact ad9 jO
def Vu(c:ZX.YO):Bool:=VA c.a c.o c.m && !(decide (c.o=7)&&decide (bits .or .u64 c.v c.m≠c.m))
theorem QU{c:ZX.YO}(h:Vu c=true):ZX.XJ c=true:=by
 unfold Vu VA at h;unfold ZX.XJ ZJ.Yf;simp only[aef,adf] at h;exact acb ⟨h.1.1,h.1.2.1,h.1.2.2.1,h.1.2.2.2.1,h.1.2.2.2.2.symm⟩
theorem zJ{c:ZX.YO}(h:Vu c=true)(hn:ZX.WK c):Xi (Sk c)=false:=by
 unfold Vu at h;unfold Xi Sk;simp only[aef,Bool.not_eq_true',Bool.and_eq_false_imp,adf,apd] at h;have hr:=agc h.1;apply aeg;rintro⟨I,C⟩;have D:c.o=7:=by dsimp only at I;omega
 exact C (iE hn.2 hn.1 (Decidable.not_not.1 (h.2 D)))
theorem tY{k n:Int}{x:Bool}{rs:List ZX.Zo}(D:Yk.Zu k n=true)(I:rs.length<=500)(C:∀r∈rs,ZX.R3 r.name=true/\Yk.Zu r.k r.n=true/\r.conds.length<=6/\∀c∈r.conds,ZX.XJ c=true):Vn k n x rs=true:=by
 unfold Vn ZX.CT;simp only[aef,adf,ajg];refine⟨D,I,λr hr=> ?_⟩;unfold ZX.Wh;simp only[aef,adf,ajg];exact C r hr
theorem GJ:ZX.R3 ⟨#[111,112,101,110]⟩=true:=by decide+kernel
theorem Fx:Yk.Zu 1 0=true/\Yk.Zu 8 0=true/\Yk.Zu 4 13=true/\Yk.Zu 7 0=true:=jD
theorem Jq:YM 1 0=2147483648/\YM 8 0=2147418112/\YM 4 13=327693/\YM 7 0=2147221504:=jD
theorem Cu{cs:List ZX.YO}(h:∀c∈cs,Vu c=true)(hn:∀c∈cs,ZX.WK c):(cs.map Sk).any Xi=false:=by
 rw[List.any_eq_false];intro c hc;obtain⟨d,hd,rfl⟩:=ah.1 hc;rw[zJ (h d hd) (hn d hd)]
 decide
def tX(k:Nat)(xs:List Nat)(c:ZX.YO):Bool:=Gx c.o.toNat c.m.toNat c.v.toNat (seen k (xs.getD c.a.toNat 0))
theorem tW{k n ar p:Nat}{xs:List Nat}{cs:List ZX.YO}(hx:xs.length=6)(I:∀x∈xs,x<YN)(h:∀c∈cs,Vu c=true):Z2 (WH (Y6 (Yc n ar p xs)) (decide (k≠2))) (cs.map Sk)=cs.all (tX k xs):=by
 unfold Z2;rw[List.all_map];rw[ajd,ajg,ajg];have C:∀c∈cs,((λc:Z5=>Gx c.o c.m c.v (WH (Y6 (Yc n ar p xs)) (decide (k≠2)) c.a))∘Sk) c=tX k xs c:=λc hc=>by
  have hr:=QU (h c hc);unfold ZX.XJ ZJ.Yf at hr;have hr:=agc hr;have ha:c.a.toNat<xs.length:=jO;have J:xs[c.a.toNat]? =some (xs.getD c.a.toNat 0):=by rw[aee,aL ha];rfl
  show Gx c.o.toNat c.m.toNat c.v.toNat (WH (Y6 (Yc n ar p xs)) (decide (k≠2)) c.a.toNat)=_;rw[zO n ar p k J (I _ (ag J))];rfl
 constructor;·intro D c hc;rw[<-C c hc];exact D c hc
 ·intro D c hc;rw[C c hc];exact D c hc
theorem nP{w:Nat->Nat}{d:Nat}{r:NR}:Mr w true d a [r] r.nm=if Z2 (WH w (decide (a≠2))) r.cs=true then YM r.k r.n else d:=by
 unfold Mr ofName;rw[aN jS];simp only[decide_true,List.filter_cons_of_pos,List.filter_nil,aed,aqb];unfold RF ZG;by_cases h:Z2 (WH w (decide (a≠2))) r.cs=true;·rw[aF h,aF h];rfl
 ·rw[aN h,aN h];rfl
theorem nN{w:Nat->Nat}{d:Nat}{r q:NR}(C:q.nm=r.nm)(D:q.cs=[]):Mr w true d a [r,q] r.nm=if Z2 (WH w (decide (a≠2))) r.cs=true then YM r.k r.n else YM q.k q.n:=by
 unfold Mr ofName;rw[aN jS];rw[List.filter_cons_of_pos jS,List.filter_cons_of_pos (by simp[C])];simp only[List.filter_nil,aed,aqb];unfold RF ZG;by_cases h:Z2 (WH w (decide (a≠2))) r.cs=true;·rw[aF h,aF h];rfl
 ·rw[aN h,aN h];unfold ZG;rw[D];rfl
end Go.Proofs.YtclgigmgbebhgaaGreatDoor
