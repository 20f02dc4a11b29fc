/- TopAsks: part 40: TopVal3 TopLw8 TopLw9 TopAskP. -/
import Derived.Test.YtclgigmgbebhgaaGreatDoorA39
set_option linter.unusedVariables false
set_option linter.unusedSimpArgs false
set_option maxRecDepth 100000
set_option maxHeartbeats 16000000
namespace Go.Proofs.YtclgigmgbebhgaaGreatDoor
open Tryz
open Go Go.Proofs Go.RowKit Go.Maps Go.WideMaps Go.ChangeMaps
variable {ow:ByteArray} {ks:List ByteArray} {PT PM:Nat} {tv:Value} {w W:World}
def ac2(s:ByteArray)(cs:List Z5):Prop:=s.size=0↔cs=[]
def Al(nm s:ByteArray):ByteArray:=nm++⟨#[58]⟩++s
inductive JQ (l:List Z4.Z0):List NR->List ByteArray->Int->Prop
 |done (ks:List ByteArray):JQ l [] ks 0
 |name {r:NR} {rs:List NR} {ks:List ByteArray}:Z4.firstIdx (Z4.Uy r.nm) l<0->JQ l (r::rs) ks 14
 |ac3 {r:NR} {rs:List NR} {ks:List ByteArray}:0<=Z4.firstIdx (Z4.Uy r.nm) l->r.cs.any WT=true->JQ l (r::rs) ks 16
 |twice {r:NR} {rs:List NR} {ks:List ByteArray} {s:ByteArray}:0<=Z4.firstIdx (Z4.Uy r.nm) l->r.cs.any WT=false->ac2 s r.cs->(r.nm++⟨#[58]⟩∈ks\/Al r.nm s∈ks)->JQ l (r::rs) ks 15
 |next {r:NR} {rs:List NR} {ks:List ByteArray} {s:ByteArray} {ev:Int}:0<=Z4.firstIdx (Z4.Uy r.nm) l->r.cs.any WT=false->ac2 s r.cs->¬(r.nm++⟨#[58]⟩∈ks\/Al r.nm s∈ks)->JQ l rs (ks++[Al r.nm s]) ev->JQ l (r::rs) ks ev
theorem JQ.ok{l:List Z4.Z0}{rs:List NR}{ks:List ByteArray}{ev:Int}(h:JQ l rs ks ev):ev=0->∀r∈rs,0<=Z4.firstIdx (Z4.Uy r.nm) l/\r.cs.any WT=false:=by
 induction h with
 |done ks=>intro _ r hr;cases hr
 |name _=>intro e;cases e
 |ac3 _ _=>intro e;cases e
 |twice _ _ _ _=>intro e;cases e
 |next h1 A _ _ _ C=>
  intro e r hr;rcases abf.1 hr with rfl|hr;·exact⟨h1,A⟩
  ·exact C e r hr
theorem oM(nm s:ByteArray):(Al nm s).size=nm.size+1+s.size:=by
 unfold Al;rw[axa,axa];rfl
theorem JQ.one{l:List Z4.Z0}{r:NR}{ev:Int}(h:JQ l [r] [] ev)(C:0<=Z4.firstIdx (Z4.Uy r.nm) l)(A:r.cs.any WT=false):ev=0:=by
 cases h with
 |name q=>omega
 |ac3 _ q=>rw[A] at q;cases q
 |twice _ _ _ q=>rcases q with q|q<;>cases q
 |next _ _ _ _ q=>cases q;rfl
def F4(ue:Bool)(l:List Z4.Z0)(pr:List NR)(ev:Int):Prop:=(ue=false->ev=13)/\(ue=true->(ev=18/\¬Z4.Zv l)\/(Z4.Zv l/\JQ l pr [] ev))
def ac4(ue:Bool)(l:List Z4.Z0)(pr:List NR)(w:World)(e:Ending)(w':World):Prop:=∃z ev:Int,e=.returned (.tuple #[.int .i64 z,.int .i64 ev])/\F4 ue l pr ev/\Below w.heap.size w w'
structure C2(lo PT PM B:Nat)(tv:Value)(w:World)(ks:List ByteArray)(W:World):Prop where
 Zs:Below lo w W
 lw:lo<=W.heap.size
 tab:Z8 W PT 41 #[tv]
 box:Z8 W PM 182 #[.map (some B)]
 map:ZB W B (uL ks)
 NT:lo<=B
 nd:ks.Pairwise (·≠·)
 sz:∀s∈ks,s.size<=1000000
theorem C2.to{lo B:Nat} {W':World} (h:C2 lo PT PM B tv w ks W)(hb:Below W.heap.size W W'):C2 lo PT PM B tv w ks W':=
 ⟨h.Zs.trans (hb.mono h.lw),aO h.lw hb.size,h.tab.below hb h.tab.lt,h.box.below hb h.box.lt,h.map.below hb h.map.lt,h.NT,h.nd,h.sz⟩
theorem C2.put{lo B:Nat} {s:ByteArray}(h:C2 lo PT PM B tv w ks W)(hs:s.size<=1000000)(hn:s∉ks):∃W',(Instr.mapUpdate 182 (.map (some B)) (.string s) (.bool true)).run prog W=.ok () W'/\C2 lo PT PM B tv w (ks++[s]) W':=by
 have hk:∀p∈uL ks,∃l,keyOf prog 9 p.1=some l:=λp hp=>by obtain⟨x,hx,rfl⟩:=ah.1 hp;exact Oz x (h.sz x hx)
 obtain⟨W',D,C,A⟩:=Vq underlying182 TA h.map hk (Oz s hs) (λp hp e=>by obtain⟨x,hx,rfl⟩:=ah.1 hp;exact hn (by rw[<-aqg e];exact hx)) (.bool true)
 have nb:∀{X t:Nat} {cs:Array Value},Z8 W X t cs->some X≠some B:=λhx e=>by cases e;obtain⟨es,c,hm,_⟩:=h.map;have:=hm.symm.trans hx;cases this
 refine⟨W',D,h.Zs.grown A h.lw (λk e=>by cases e;exact h.NT),aO h.lw A.size,h.tab.kept A (nb h.tab),h.box.kept A (nb h.box),?_,h.NT,?_,λx hx=> ?_⟩;·unfold uL at C ⊢;rw[adb];exact C
 ·exact afc.2 ⟨h.nd,ape _ _,λx hx y hy e=>hn (by rw[<-aaa.1 hy,<-e];exact hx)⟩
 ·rcases abe.1 hx with hx|hx;·exact h.sz x hx
  ·rw[aaa.1 hx];exact hs
def am5(nm:ByteArray)(cs:List Z5)(W1 wx:World)(PO:Nat)(s:ByteArray):Prop:=ac2 s cs/\s.size<=100000/\Z8 wx PO 9 #[.string (Al nm s)]/\Below W1.heap.size W1 wx
theorem oL{B:Nat}{a:World}(q:Nat)(h:Below B a w):Below B a (w.drewN q):=⟨h.os,h.tape,h.output,h.size,h.block⟩
theorem uK {nm:ByteArray}(h:(!CK (nm++⟨#[58]⟩) ks && !CK ow ks)=true):¬(nm++⟨#[58]⟩∈ks\/ow∈ks):=by
 rintro(e|e)<;>rw[NV.2 e] at h<;>simp at h
theorem C1 {nm:ByteArray}(h:(!CK (nm++⟨#[58]⟩) ks && !CK ow ks)=false):nm++⟨#[58]⟩∈ks\/ow∈ks:=by
 rw[<-NV,<-NV];cases C:CK (nm++⟨#[58]⟩) ks<;>cases A:CK ow ks<;>simp[C,A] at h ⊢
theorem Ak{ue:Bool}{N L c:Nat}{a:Option Addr}{pr:List NR}{k n:Int}{x:Bool}(sa:Option Addr)(sc:Nat)(l:List Z4.Z0)(hL:ue=true->pr.length=L)(XA:L<=500)(w:World)(hQ:ue=true->UM N w a pr)(hN:N<=w.heap.size)(Le:l.length<=40)(hlz:∀r∈l,r.name.size<=1000)(hR:Z4.VS w (.slice sa l.length sc) l)(hp:Zj.WV w)
 (RJ:∀W,Below w.heap.size w W->Calls prog 75 #[.agg #[.int .i64 k,.int .i64 n,.bool x,.slice a L c]] W λe w'=>e=.returned (.bool ue)/\Below W.heap.size W w')
 (hsz:ue=true->∀r∈pr,r.nm.size<=1000/\r.cs.length<=1000/\∀c∈r.cs,c.right):
 Calls prog 34 #[.agg #[.int .i64 k,.int .i64 n,.bool x,.slice a L c],.slice sa l.length sc] w (ac4 ue l pr w):=by
 have hb2:=JK w (.cells #[.int .i64 k,.int .i64 n,.bool x,.slice a L c] V1) (.cells #[.slice sa l.length sc] 41);have kQ:=aT ((Z8.new w V1 #[.int .i64 k,.int .i64 n,.bool x,.slice a L c]).alloc (.cells #[.slice sa l.length sc] 41));have HT0:Hid (Z8 ((w.alloc (.cells #[.int .i64 k,.int .i64 n,.bool x,.slice a L c] V1)).alloc (.cells #[.slice sa l.length sc] 41)) (w.heap.size+1) 41 #[.slice sa l.length sc]):=Z8.OE w _ 41 #[.slice sa l.length sc];have HB:=aT hb2;have HQ:=aT hQ;have fG:=aT hsz;have uv:=aT RJ;have HL:=aT hL;have Bg:=aT hR;have sy:=aT hp;have HLz:=aT hlz;clear hb2 hQ hsz RJ hL hR hp hlz;go_enter func34,ntmps34;go_upto_region 1 with fail;generalize (w.alloc (.cells #[.int .i64 k,.int .i64 n,.bool x,.slice a L c] V1)).alloc (.cells #[.slice sa l.length sc] 41)=w1 at*;obtain⟨PT,rf⟩:=jX (w.heap.size+1);rw[rf] at HT0 ⊢;have hwP:w.heap.size<PT:=jO;clear rf;obtain⟨⟨p0,p1,p2,p3⟩,_⟩:=Z7 kQ;go_wp2_with fail;refine(uv w1 HB).mono ?_;rintro e w2 ⟨rfl,hb⟩;have GY:=aT (kQ.below hb kQ.lt);have Un:=aT (HT0.below hb HT0.lt);have X1:=aT (HB.trans (hb.mono HB.size));clear hb kQ HT0 HB uv p0 p1 p2 p3;cases ue with
 |false=>
  simp only[Bool.not_false];go_wp2_with fail;go_ret2;exact⟨_,_,rfl,⟨λ_=>rfl,λe=>(by cases e)⟩,X1⟩
 |true=>
  simp only[Bool.not_true];have hLL:=HL (by trivial);have HRr:=aT (Z4.XQ (.slice sa l.length sc) l w2 jO (Bg.below X1) (λr hr=>aO (HLz r hr) jD));have t0:=Un.e0;go_wp2_with fail;refine HRr.mono ?_;rintro e w3 ⟨az,av,rfl,eJ,hb⟩;have GX:=aT (GY.below hb GY.lt);have dV:=aT (Un.below hb Un.lt);have Ul:=aT (X1.trans (hb.mono X1.size));have mL:=aT eJ;clear hb GY Un X1 HRr t0 eJ;by_cases h0:av=0
  ·subst h0
   have U:Hid (Z4.Zv l):=by
    rcases mL.out with⟨h4,_⟩|⟨_,⟨i,_,_,h,_⟩|⟨_,_,h⟩⟩;·omega
    ·exact absurd rfl h
    ·exact h
   have JO:= @apb prog;have hM4:=ZB.made w3;have FW:Hid (C2 w.heap.size PT (w3.heap.size+1) w3.heap.size (.slice sa l.length sc) w [] ((w3.alloc (.map #[] 0)).alloc (.cells #[.map (some w3.heap.size)] 182))):=by have b1:=Yk w3 (.map #[] 0);have b2:=JK w3 (.map #[] 0) (.cells #[.map (some w3.heap.size)] 182);exact⟨Ul.trans (b2.mono Ul.size),aO Ul.size b2.size,dV.below b2 dV.lt,Z8.OE w3 _ 182 #[.map (some w3.heap.size)],hM4.alloc _,Ul.size,List.Pairwise.nil,λs hs=>by cases hs⟩
   have gq:=aT (GX.below (JK w3 (.map #[] 0) (.cells #[.map (some w3.heap.size)] 182)) GX.lt);clear hM4 GX dV Ul mL;go_upto_region 7 with fail;generalize (w3.alloc (.map #[] 0)).alloc (.cells #[.map (some w3.heap.size)] 182)=w4 at*;obtain⟨PM,hPM⟩:=jX (w3.heap.size+1);rw[hPM] at FW ⊢;generalize w3.heap.size=B at*;clear hPM JO;obtain⟨⟨p0,p1,p2,p3⟩,_⟩:=Z7 gq;go_upto_region 8 with fail;clear p0 p1 p2 p3;go_loopg [31] (L+1) (λgg s31 wr=>∃(i:Nat) (ks:List ByteArray),i<=L/\L-i<gg/\s31=.int .i64 (i:Int)/\Hid (∀ev,JQ l (pr.drop i) ks ev->JQ l pr [] ev)/\Hid (C2 w.heap.size PT PM B (.slice sa l.length sc) w ks wr));case atStart=>exact⟨0,[],abb _,jO,rfl,(λev h=>h),FW⟩
   case round=>
    obtain⟨i,ks,tM,VM,rfl,lX,HI⟩:=hrel;clear FW gq;have Cq:=jZ i;by_cases hlt:i<L
    ·have Zc:(i:Int)<(L:Int):=by omega
     have JS:=jW i;obtain⟨r,hr⟩:∃r,pr[i]? =some r:=⟨_,aM (by rw[hLL];exact hlt)⟩;obtain⟨g,off,u,rfl,hg,y0,y1,y2,y3,hcs⟩:=((HQ (by trivial)).below HI.Zs hN) i r hr;have gV:Hid (pr.drop i=r::pr.drop (i+1)):=by show _=_;exact drop_cons hr
     obtain⟨Cy,hrl,dC⟩:=fG (by trivial) r (ag hr);have HRc:=aT dC;obtain⟨ua,uc,rfl⟩:=hcs.form;obtain⟨nm,rk,rn,cs⟩:=r;dsimp only at*;obtain⟨K,hK⟩:=jX cs.length;rw[hK] at y3 hrl hcs;have HK:=aT hK;have yD:=Yk wr (.cells #[.string nm,.int .i64 rk,.int .i64 rn,.slice ua K uc] TR);have yZ:=aT (HI.to yD);have uh:=aT (Z8.new wr TR #[.string nm,.int .i64 rk,.int .i64 rn,.slice ua K uc]);have HC5:=aT (hcs.below yD (aO hN HI.lw));clear hr dC hK hcs yD;go_upto_region 12 with fail;generalize wr.alloc (.cells #[.string nm,.int .i64 rk,.int .i64 rn,.slice ua K uc] TR)=w5 at*;generalize wr.heap.size=BR at*;clear y0 y1 y2 y3 HI;have HKy:=aT (λW (hb:Below w5.heap.size w5 W)=>iV (uc:=uc) HK hrl HRc W (sy.below (yZ.Zs.trans (hb.mono yZ.lw))) (HC5.below hb (aO hN yZ.lw)) (aO (aO hN yZ.lw) hb.size));go_cut [13] from 38 to 44 (λs wx=>∃PO sz,s=.pointer (some ⟨PO,0,none⟩)/\Hid (am5 nm cs w5 wx PO sz))
     case first=>
      have NS:Hid (∀W:World,Below w5.heap.size w5 W->W.cell? ⟨BR,0,none⟩=some (.string nm)/\W.cell? ⟨BR,3,none⟩=some (.slice ua K uc)):=λW hW=>by obtain⟨⟨q0,_,_,q3⟩,_⟩:=Z7 (uh.below hW uh.lt);exact⟨q0,q3⟩
      have kd:Below w5.heap.size w5 w5.drew:=(aG _ _).drew;have ka:Below w5.heap.size w5 (w5.alloc (.cells #[.string ⟨#[]⟩] 9)).drew:=kd.alloc (aP _) _;have kas:=ka.size;have kb:Below w5.heap.size w5 (w5.drew.alloc (.cells #[.string ⟨#[]⟩] 9)):=ka;have aG3:¬9223372036854775807<nm.size+1:=jO
      go_region_held_law (λw'=>w'.cell? ⟨BR,0,none⟩=some (.string nm)/\w'.cell? ⟨BR,3,none⟩=some (.slice ua K uc)) (exact NS _ (by first|(with_reducible assumption)|(with_reducible exact kd)|(with_reducible exact ka))) (first
       |(go_at_call 81;refine(HKy _ (by first|(with_reducible assumption)|(with_reducible exact kd)|(with_reducible exact ka))).mono ?_;rintro e w7 ⟨sz,rfl,hs1,hs2,Uw⟩;have k7:Below w5.heap.size w5 w7:=(by first|exact kd.trans Uw|exact ka.trans (Uw.mono kas));have aG4:¬9223372036854775807<nm.size+1+sz.size:=jO;have k8:=k7.alloc k7.size (.cells #[.string ⟨#[]⟩] 9);have k9:=k7.alloc k7.size (.cells #[.string (nm++⟨#[58]⟩++sz)] 9);have GQ:=aT hs1;clear hs1;have ks7:=k7.setCell (p:=⟨w5.heap.size,0,none⟩) (aP _) (.string (nm++⟨#[58]⟩++sz));try (have g7:Z8 w7 w5.heap.size 9 #[.string ⟨#[]⟩]:=(show Z8 (w5.alloc (.cells #[.string ⟨#[]⟩] 9)).drew w5.heap.size 9 #[.string ⟨#[]⟩] from Z8.new w5 9 #[.string ⟨#[]⟩]).below Uw (Z8.new w5 9 #[.string ⟨#[]⟩]).lt;have y0:w7.cell? ⟨w5.heap.size,0,none⟩=some (.string ⟨#[]⟩):=g7.cell 0;have f0:=g7.frozen 0)))
      ·go_wp2_with fail;go_meet;exact⟨_,sz,rfl,GQ,hs2,Z8.new w7 _ _,k9⟩
      ·go_wp2_with fail;go_meet;exact⟨_,sz,rfl,GQ,hs2,g7.set 0 _,k7.setCell (p:=⟨w5.heap.size,0,none⟩) (aP _) _⟩
     case rest=>
      obtain⟨PO,sz,rfl,HO⟩:=hcut;have A:=aT (yZ.to HO.2.2.2);have oZ:=aT (uh.below HO.2.2.2 uh.lt);have nj:=aT (HC5.below HO.2.2.2 (aO hN yZ.lw));have eN:=aT HO.2.2.1;have HKR:=aT HO.1;have hs2:=HO.2.1;clear yZ uh HC5 HKy HO;obtain⟨ow,how⟩:∃o,Al nm sz=o:=⟨_,rfl⟩;rw[how] at eN;have HOw:=aT how;have hos:ow.size<=1000000:=by rw[<-how,oM];omega
      clear how;have hNc:N<=wc.heap.size:=aO hN A.lw;have HNm:=aT (λW (hb:Below wc.heap.size wc W)=>Ao sa sc l W jO (Bg.below (A.Zs.trans (hb.mono A.lw))) U (A.tab.below hb A.tab.lt) (oZ.below hb oZ.lt));have HRg:=aT (λW (hb:Below wc.heap.size wc W)=>SJ (uc:=uc) HK jO (λc hc=>⟨(HRc c hc).2.2.2.1,(HRc c hc).2.2.2.2⟩) W (nj.below hb hNc) (aO hNc hb.size) (oZ.below hb oZ.lt));have HFr:=aT (λW (hb:Below wc.heap.size wc W)=>Am W (A.map.below hb A.map.lt) A.nd A.sz Cy hos (A.box.below hb A.box.lt) (oZ.below hb oZ.lt) (eN.below hb eN.lt));obtain⟨b1,hb1⟩:∃b,decide (0<=Z4.firstIdx (Z4.Uy nm) l)=b:=⟨_,rfl⟩;obtain⟨b2,hb2⟩:∃b,cs.any WT=b:=⟨_,rfl⟩;obtain⟨b3,hb3⟩:∃b,(!CK (nm++⟨#[58]⟩) ks && !CK ow ks)=b:=⟨_,rfl⟩;rw[hb1] at HNm;rw[hb2] at HRg;rw[hb3] at HFr;have T:=aT (And.intro hb1 (And.intro hb2 hb3));clear hb1 hb2 hb3;have HA7:=aT (Z8.new wc 185 #[.func (.func 77) #[] #[.pointer (some ⟨PT,0,none⟩),.pointer (some ⟨BR,0,none⟩)],.int .i64 14,.func (.func 78) #[] #[.pointer (some ⟨BR,0,none⟩)],.int .i64 16,.func (.func 82) #[] #[.pointer (some ⟨PM,0,none⟩),.pointer (some ⟨BR,0,none⟩),.pointer (some ⟨PO,0,none⟩)],.int .i64 15]);have Uw:=Yk wc (.cells #[.func (.func 77) #[] #[.pointer (some ⟨PT,0,none⟩),.pointer (some ⟨BR,0,none⟩)],.int .i64 14,.func (.func 78) #[] #[.pointer (some ⟨BR,0,none⟩)],.int .i64 16,.func (.func 82) #[] #[.pointer (some ⟨PM,0,none⟩),.pointer (some ⟨BR,0,none⟩),.pointer (some ⟨PO,0,none⟩)],.int .i64 15] 185);have ir:∀(fn:Fn) (first cap:Array Value) (w:World),(Instr.makeFunc fn first cap).run prog w=.ok (.func fn first cap) w:=λ_ _ _ _=>rfl
      go_upto_region 15 with fail;clear ir;generalize wc.alloc (.cells #[.func (.func 77) #[] #[.pointer (some ⟨PT,0,none⟩),.pointer (some ⟨BR,0,none⟩)],.int .i64 14,.func (.func 78) #[] #[.pointer (some ⟨BR,0,none⟩)],.int .i64 16,.func (.func 82) #[] #[.pointer (some ⟨PM,0,none⟩),.pointer (some ⟨BR,0,none⟩),.pointer (some ⟨PO,0,none⟩)],.int .i64 15] 185)=w7 at*;obtain⟨AB,hAB⟩:∃z,wc.heap.size=z:=⟨_,rfl⟩;rw[hAB] at HA7 ⊢;have HAB:=aT hAB;clear hAB;have HC7:Hid (∀W,Below wc.heap.size wc W->True):=λ_ _=>trivial
      have am6:Hid (∀W,Below w7.heap.size w7 W->∀q,q<3->W.cell? ⟨AB,q*2,none⟩=(#[.func (.func 77) #[] #[.pointer (some ⟨PT,0,none⟩),.pointer (some ⟨BR,0,none⟩)],.int .i64 14,.func (.func 78) #[] #[.pointer (some ⟨BR,0,none⟩)],.int .i64 16,.func (.func 82) #[] #[.pointer (some ⟨PM,0,none⟩),.pointer (some ⟨BR,0,none⟩),.pointer (some ⟨PO,0,none⟩)],.int .i64 15]:Array Value)[q*2]? /\W.cell? ⟨AB,q*2+1,none⟩=(#[.func (.func 77) #[] #[.pointer (some ⟨PT,0,none⟩),.pointer (some ⟨BR,0,none⟩)],.int .i64 14,.func (.func 78) #[] #[.pointer (some ⟨BR,0,none⟩)],.int .i64 16,.func (.func 82) #[] #[.pointer (some ⟨PM,0,none⟩),.pointer (some ⟨BR,0,none⟩),.pointer (some ⟨PO,0,none⟩)],.int .i64 15]:Array Value)[q*2+1]?):=λW hW q _=>
       ⟨(HA7.below hW HA7.lt).cell _,(HA7.below hW HA7.lt).cell _⟩
      have C:=aT Uw;have jd:=C.size;clear Uw HC7;go_loopg [54] 4 (λg3 s54 wr=>∃q:Nat,q<=3/\3-q<g3/\s54=.int .i64 (q:Int)/\Hid ((0<q->b1=true)/\(1<q->b2=false)/\(2<q->b3=true))/\Hid (Below w7.heap.size w7 wr));case atStart=>exact⟨0,jD,jD,rfl,⟨λh=>absurd h jD,λh=>absurd h jD,λh=>absurd h jD⟩,aG _ _⟩
      case round=>
       obtain⟨q,hq3,hg3,rfl,J,yE⟩:=hrel;have OA:Hid (Below wc.heap.size wc wr):=C.trans (yE.mono jd);have hcell:=am6 wr yE;rcases (show q=0\/q=1\/q=2\/q=3 from jO) with rfl|rfl|rfl|rfl
       ·
        obtain⟨g0a,g0b⟩:=hcell 0 jD;have D:=aT (Z8.new wr 185 #[.func (.func 77) #[] #[.pointer (some ⟨PT,0,none⟩),.pointer (some ⟨BR,0,none⟩)],.int .i64 14]);have k8:Below w7.heap.size w7 (wr.alloc (.cells #[.func (.func 77) #[] #[.pointer (some ⟨PT,0,none⟩),.pointer (some ⟨BR,0,none⟩)],.int .i64 14] 185)):=yE.alloc yE.size _;have K8:=aT k8;clear k8 hcell;go_upto_region 17 with fail;generalize wr.alloc (.cells #[.func (.func 77) #[] #[.pointer (some ⟨PT,0,none⟩),.pointer (some ⟨BR,0,none⟩)],.int .i64 14] 185)=w8 at*;obtain⟨A8,Z⟩:∃z,wr.heap.size=z:=⟨_,rfl⟩;rw[Z] at D ⊢;clear Z;obtain⟨z0,z1⟩:=D.q2;have Y:=aT (HNm w8 (C.trans (K8.mono jd)));go_wp2_with fail;refine Y.mono ?_;rintro e w9 ⟨rfl,I⟩;have K9:=aT (K8.trans (I.mono K8.size));have z1:=(I.cell (p:=⟨A8,1,none⟩) D.lt).trans z1;clear I Y z0;cases b1 with
        |false=>
         go_wp2_with fail;go_quiet (fail);go_wp2_with fail;go_ret2;exact⟨_,_,rfl,⟨λe=>(by cases e),λ_=>.inr ⟨U,lX _ (by rw[gV.out];exact JQ.name (by have h:=T.1;simpa using h))⟩⟩,oL nq (A.Zs.trans ((C.trans (K9.mono jd)).mono A.lw))⟩
        |true=>
         go_wp2_with fail;go_roundg (3-0);case measure=>omega
         case rel=>exact⟨1,jD,jD,rfl,⟨λ_=>(by first|rfl|trivial),λh=>absurd h jD,λh=>absurd h jD⟩,K9⟩
       ·
        obtain⟨g1a,g1b⟩:=hcell 1 jD;have D:=aT (Z8.new wr 185 #[.func (.func 78) #[] #[.pointer (some ⟨BR,0,none⟩)],.int .i64 16]);have k8:Below w7.heap.size w7 (wr.alloc (.cells #[.func (.func 78) #[] #[.pointer (some ⟨BR,0,none⟩)],.int .i64 16] 185)):=yE.alloc yE.size _;have K8:=aT k8;clear k8 hcell;go_upto_region 17 with fail;generalize wr.alloc (.cells #[.func (.func 78) #[] #[.pointer (some ⟨BR,0,none⟩)],.int .i64 16] 185)=w8 at*;obtain⟨A8,Z⟩:∃z,wr.heap.size=z:=⟨_,rfl⟩;rw[Z] at D ⊢;clear Z;obtain⟨z0,z1⟩:=D.q2;have Y:=aT (HRg w8 (C.trans (K8.mono jd)));go_wp2_with fail;refine Y.mono ?_;rintro e w9 ⟨rfl,I⟩;have K9:=aT (K8.trans (I.mono K8.size));have z1:=(I.cell (p:=⟨A8,1,none⟩) D.lt).trans z1;clear I Y z0;cases b2 with
        |true=>
         go_wp2_with fail;go_quiet (fail);go_wp2_with fail;go_ret2;exact⟨_,_,rfl,⟨λe=>(by cases e),λ_=>.inr ⟨U,lX _ (by rw[gV.out];exact JQ.ac3 (by have h:=T.1;rw[J.out.1 jD] at h;simpa using h) T.2.1)⟩⟩,oL nq (A.Zs.trans ((C.trans (K9.mono jd)).mono A.lw))⟩
        |false=>
         go_wp2_with fail;go_roundg (3-1);case measure=>omega
         case rel=>exact⟨2,jD,jD,rfl,⟨λ_=>J.1 jD,λ_=>(by first|rfl|trivial),λh=>absurd h jD⟩,K9⟩
       ·
        obtain⟨g2a,g2b⟩:=hcell 2 jD;have D:=aT (Z8.new wr 185 #[.func (.func 82) #[] #[.pointer (some ⟨PM,0,none⟩),.pointer (some ⟨BR,0,none⟩),.pointer (some ⟨PO,0,none⟩)],.int .i64 15]);have k8:Below w7.heap.size w7 (wr.alloc (.cells #[.func (.func 82) #[] #[.pointer (some ⟨PM,0,none⟩),.pointer (some ⟨BR,0,none⟩),.pointer (some ⟨PO,0,none⟩)],.int .i64 15] 185)):=yE.alloc yE.size _;have K8:=aT k8;clear k8 hcell;go_upto_region 17 with fail;generalize wr.alloc (.cells #[.func (.func 82) #[] #[.pointer (some ⟨PM,0,none⟩),.pointer (some ⟨BR,0,none⟩),.pointer (some ⟨PO,0,none⟩)],.int .i64 15] 185)=w8 at*;obtain⟨A8,Z⟩:∃z,wr.heap.size=z:=⟨_,rfl⟩;rw[Z] at D ⊢;clear Z;obtain⟨z0,z1⟩:=D.q2;have Y:=aT (HFr w8 (C.trans (K8.mono jd)));go_wp2_with fail;refine Y.mono ?_;rintro e w9 ⟨rfl,I⟩;have K9:=aT (K8.trans (I.mono K8.size));have z1:=(I.cell (p:=⟨A8,1,none⟩) D.lt).trans z1;clear I Y z0;cases b3 with
        |false=>
         go_wp2_with fail;go_quiet (fail);go_wp2_with fail;go_ret2;exact⟨_,_,rfl,⟨λe=>(by cases e),λ_=>.inr ⟨U,lX _ (by rw[gV.out];exact JQ.twice (s:=sz) (by have h:=T.1;rw[J.out.1 jD] at h;simpa using h) (by rw[T.out.2.1];exact J.2.1 jD) HKR (by rw[HOw.out];exact C1 T.2.2))⟩⟩,oL nq (A.Zs.trans ((C.trans (K9.mono jd)).mono A.lw))⟩
        |true=>
         go_wp2_with fail;go_roundg (3-2);case measure=>omega
         case rel=>exact⟨3,jD,jD,rfl,⟨λ_=>J.1 jD,λ_=>J.2.1 jD,λ_=>(by first|rfl|trivial)⟩,K9⟩
       ·
        clear hcell;have ni:=aT (A.to OA);have HO9:=aT (eN.below OA eN.lt);have HF:=aT (uK (ks:=ks) (nm:=nm) (ow:=ow) (by rw[T.out.2.2];exact J.2.2 jD));obtain⟨wq,hmu,hIq⟩:=ni.put hos (λh=>HF (.inr h));have HIq:=aT hIq;have dJ:Hid (∀ev,JQ l (pr.drop (i+1)) (ks++[ow]) ev->JQ l pr [] ev):=λev h=>lX ev (by
         rw[gV.out];refine JQ.next (s:=sz) (by have h:=T.1;rw[J.out.1 jD] at h;simpa using h) (by rw[T.out.2.1];exact J.2.1 jD) HKR ?_ ?_;·rw[HOw.out];exact HF
         ·rw[HOw.out];exact h)
        have m0:=ni.box.e0;have o0:=HO9.e0;clear hIq
        go_wp2_with (rw[hmu])
        clear m0 o0;go_wp2_with fail;go_roundg (L-i);case measure=>omega
        case rel=>exact⟨i+1,_,jO,jO,by go_num,dJ,HIq⟩
    ·obtain rfl:i=L:=by omega
     have Zc:¬(i:Int)<(i:Int):=jO;have az7:Hid (JQ l pr [] 0):=lX 0 (by rw[anc (by rw[hLL];exact aP _)];exact JQ.done _)
     go_wp2_with fail;go_ret2;exact⟨_,_,rfl,⟨λe=>(by cases e),λ_=>.inr ⟨U,az7⟩⟩,HI.Zs⟩
  ·have mi:(av != 0)=true:=by simpa using h0
   have HNo:Hid (¬Z4.Zv l):=λhT=>by
    rcases mL.out with⟨h4,_⟩|⟨_,⟨i,hi,_,h,hs,_⟩|⟨_,h,_⟩⟩;·omega
    ·exact h (Z4.Xb.one hs (hT i hi))
    ·exact h0 h
   clear h0 mL;go_wp2_with fail;go_ret2;exact⟨_,_,rfl,⟨λe=>(by cases e),λ_=>.inl ⟨rfl,HNo⟩⟩,Ul⟩
end Go.Proofs.YtclgigmgbebhgaaGreatDoor
namespace Go.Proofs.YtclgigmgbebhgaaGreatDoor
open Tryz
open Go Go.Proofs Go.RowKit
def SG(c:ZJ.Y4):Z5:=⟨c.a.toNat,c.o.toNat,c.m.toNat,c.v.toNat⟩
def OY(r:ZJ.YR):NR:=⟨r.name,r.k,r.n,r.conds.map SG⟩
def PV(k n:Int)(x:Bool)(rs:List ZJ.YR):Bool:=ZJ.Dm ⟨k,n,x,rs⟩
theorem CZ{c:ZJ.Y4}(hr:ZJ.XM c=true)(hn:ZJ.NY c):(((SG c).a:Nat):Int)=c.a/\(((SG c).o:Nat):Int)=c.o/\(((SG c).m:Nat):Int)=c.m/\(((SG c).v:Nat):Int)=c.v/\(SG c).right:=by
 obtain⟨a,o,m,v⟩:=c;unfold ZJ.XM Zj.X4 at hr;unfold ZJ.NY at hn;have h:=ahf hr;dsimp only at h hn;unfold SG Z5.right YO;dsimp only;refine⟨jO,jO,jO,jO,jO,jO,?_,jO,jO⟩;rcases h.2.2.2.2 with A|A;·exact .inl jO
 ·exact .inr jO
theorem QT{k n:Int}{x:Bool}{rs:List ZJ.YR}(h:PV k n x rs=true):Yo.Zw k n=true/\rs.length<=500/\∀r∈rs,Yo.Zw r.k r.n=true/\r.conds.length<=6/\∀c∈r.conds,ZJ.XM c=true:=by
 unfold PV ZJ.Dm at h;simp only[aeg,adg,aje] at h;obtain⟨I,D,C⟩:=h;refine⟨I,D,λr hr=> ?_⟩;have A:=C r hr;unfold ZJ.Wp at A;simp only[aeg,adg,aje] at A;exact⟨A.2.1,A.2.2.1,A.2.2.2⟩
theorem uJ{N:Nat}{W:World}{ua:Option Addr}{uc:Nat}{cs:List ZJ.Y4}(h:ZJ.Up N W ua cs)(hr:∀c∈cs,ZJ.XM c=true)(hn:∀c∈cs,ZJ.NY c):YX N W (.slice ua cs.length uc) (cs.map SG):=by
 refine⟨ua,uc,by rw[aac],λk c hk=> ?_⟩;rw[ada] at hk;cases e:cs[k]? with
 |none=>rw[e] at hk;cases hk
 |some d=>
  rw[e] at hk;simp only[avc,aka] at hk;subst hk;obtain⟨T,off,C,A,c0,c1,Z,Y⟩:=h k d e;have hm:=ag e;obtain⟨D,J,U,I,_⟩:=CZ (hr d hm) (hn d hm);rw[D,J,U,I];exact⟨T,off,C,A,c0,c1,Z,Y⟩
theorem Hl{k n:Int}{x:Bool}{N:Nat}{W:World}{a:Option Addr}{L c:Nat}{rs:List ZJ.YR}(h:ZJ.O0 N W (.slice a L c) rs)(hr:PV k n x rs=true)(hn:∀r∈rs,∀c∈r.conds,ZJ.NY c):UM N W a (rs.map OY):=by
 obtain⟨a',T,D,h⟩:=h;obtain⟨rfl,rfl⟩:a=a'/\c=T:=by injection D with A C I;exact⟨A,I⟩
 intro i r hi;rw[ada] at hi;cases e:rs[i]? with
 |none=>rw[e] at hi;cases hi
 |some d=>
  rw[e] at hi;simp only[avc,aka] at hi;subst hi;obtain⟨g,off,ua,uc,A,C,c0,c1,U,J,hc⟩:=h i d e;have hm:=ag e;exact⟨g,off,_,A,C,c0,c1,U,J,uJ hc ((QT hr).2.2 d hm).2.2 (hn d hm)⟩
def ac5(k n:Int)(x:Bool)(rs:List ZJ.YR)(l:List Z4.Z0):Prop:=PV k n x rs=true/\Z4.Zv l/\∀r∈rs.map OY,0<=Z4.firstIdx (Z4.Uy r.nm) l/\r.cs.any WT=false
theorem CY{k n:Int}{x:Bool}{rs:List ZJ.YR}{lo L Cm:Nat}{v:Value}(sv:Value)(l:List Z4.Z0)(hL:rs.length=L)(XA:L<=41)(Y:∀r∈rs,r.name.size<=60)(hcs:∀r∈rs,r.conds.length<=12)(hcm:PV k n x rs=true->∀r∈rs,r.conds.length<=Cm)(al7:Cm<=12)(hn:∀r∈rs,∀c∈r.conds,ZJ.NY c)(I:N2 L Cm<=10000)(Z:l.length<=40)(T:∀r∈l,r.name.size<=60)(w:World)(hp:Zj.WV w)(hR:ZJ.YL TR TC lo w v rs)(D:Z4.VS w sv l):
 Calls prog 10 #[.agg #[.int .i64 k,.int .i64 n,.bool x,v],sv] w λe w'=>AQ (F4 (PV k n x rs) l (rs.map OY)) ((rs.map OY).any (WD l)) L Cm w e w'\/(ac5 k n x rs l/\Dx (rs.map OY) l k n x w e w'):=by
 obtain⟨a,c,hv⟩:=hR.slice;rw[hL] at hv;subst hv;obtain⟨sa,sc,hsv,Ce⟩:=id D;subst hsv;have hI:=hR.toI;have hlen:(rs.map OY).length=L:=by rw[aac,hL]
 have hVr:∀W,Below w.heap.size w W->Calls prog 75 #[.agg #[.int .i64 k,.int .i64 n,.bool x,.slice a L c]] W λe w'=>e=.returned (.bool (PV k n x rs))/\Below W.heap.size W w':=λW hb=>
  ZJ.Ay (p:=⟨k,n,x,rs⟩) ⟨by show rs.length<=_;omega,λr hr=>⟨aO (Y r hr) jD,aO (hcs r hr) jD⟩⟩ W (hR.below hb)
 have U:PV k n x rs=true->∀r∈rs.map OY,r.nm.size<=1000/\r.cs.length<=1000/\∀c∈r.cs,c.right:=λhr r hm=>by
  obtain⟨d,hd,rfl⟩:=ah.1 hm;refine⟨aO (Y d hd) jD,?_,λc hc=> ?_⟩;·show(d.conds.map SG).length<=_;rw[aac];exact aO (hcs d hd) jD
  ·obtain⟨q,hq,rfl⟩:=ah.1 (show c∈d.conds.map SG from hc);exact(CZ (((QT hr).2.2 d hd).2.2 q hq) (hn d hd q hq)).2.2.2.2
 have hres:=uX (V:=ac5 k n x rs l) (C:=F4 (PV k n x rs) l (rs.map OY)) (N:=w.heap.size) (L:=L) (c:=c) (Cm:=Cm) (a:=a) (pr:=rs.map OY) (k:=k) (n:=n) (x:=x) sa sc l (λ_=>hlen) jO I w (λA=>Hl hI A.1 hn) (aP _) jO D
  (λW hb=>by
    refine(Ak (ue:=PV k n x rs) (N:=w.heap.size) (L:=L) (c:=c) (a:=a) (pr:=rs.map OY) (k:=k) (n:=n) (x:=x) sa sc l (λ_=>hlen) jO W (λhr=>(Hl hI hr hn).below hb (aP _)) hb.size Z (λr hr=>aO (T r hr) jD) (D.below hb) (hp.below hb) (λW' hb'=>hVr W' (hb.trans (hb'.mono hb.size))) U).mono ?_;rintro e w' ⟨z,ev,rfl,hC,hb2⟩;refine⟨z,ev,rfl,hC,λh0=> ?_,hb2⟩;subst h0;cases J:PV k n x rs with
    |false=>have:=hC.1 J;omega
    |true=>
     rcases hC.2 J with⟨h,_⟩|⟨h1,h2⟩;·omega
     ·exact⟨J,h1,h2.ok rfl⟩)
  (λA=>A.2.1) (λA r hr=>(A.2.2 r hr).1) (λA=>U A.1)
  (λA r hr=>by obtain⟨d,hd,rfl⟩:=ah.1 hr;show(d.conds.map SG).length<=_;rw[aac];exact hcm A.1 d hd)
  jO
  (λA W hb=>by have h:=hVr W hb;rw[A.1] at h;exact h)
  (λA=>⟨(QT A.1).1,λr hr=>by obtain⟨d,hd,rfl⟩:=ah.1 hr;exact((QT A.1).2.2 d hd).1⟩)
 exact hres
theorem uI{r:Z4.Z0}(I:Z4.YF r.name)(C:Z4.PD r)(A:¬Z4.SA r):Z4.Zv [r]:=by
 intro j D;have:j=0:=by simpa using D
 subst this;exact .inr ⟨I,.inr ⟨λh=>absurd h.1 jD,.inr ⟨C,.inr ⟨A,.inr ⟨rfl,λk hk=>absurd hk jO⟩⟩⟩⟩⟩
def UF:Z4.Z0:=⟨⟨#[114,101,97,100]⟩,0,0,3,63,63,0,0⟩
theorem uH(a b c d:UInt8)(A:(97<=a.toNat/\a.toNat<=122)/\(97<=b.toNat/\b.toNat<=122)/\(97<=c.toNat/\c.toNat<=122)/\(97<=d.toNat/\d.toNat<=122))(hl:(⟨#[a,b,c,d]⟩:ByteArray).toList.length=4):Z4.YF ⟨#[a,b,c,d]⟩:=by
 refine⟨(show 4<=30 from jD),⟨(show 0<4 from jD),A.1⟩,λh=> ?_,λh=> ?_,λj D=> ?_⟩;·rw[h] at hl;simp at hl
 ·rw[h] at hl;simp at hl
 ·have C:j<4:=D;rcases (show j=0\/j=1\/j=2\/j=3 from jO) with rfl|rfl|rfl|rfl;·exact .inl A.1
  ·exact .inl A.2.1
  ·exact .inl A.2.2.1
  ·exact .inl A.2.2.2
theorem Aj:Z4.Zv [UF]:=uI (uH _ _ _ _ jD (by decide+kernel)) ⟨λa ha=>by rcases (show a=0\/a=1\/a=2\/a=3\/a=4 from jO) with rfl|rfl|rfl|rfl|rfl<;>exact⟨jD,jD⟩,jD,jD,λ_=>rfl,λh=>absurd h jD⟩ (by unfold Z4.SA;decide)
theorem iN{r:Z4.Z0}{nm:ByteArray}(h:nm=r.name):0<=Z4.firstIdx (Z4.Uy nm) [r]:=by
 subst h;unfold Z4.firstIdx Z4.Uy;simp
theorem uG{r:Z4.Z0}(h:r.Ys=0)(q:NR):WD [r] q=false:=by
 unfold WD RI YP;have:(if Z4.firstIdx (Z4.Uy q.nm) [r]<0 then Z4.Z0.zero else [r][(Z4.firstIdx (Z4.Uy q.nm) [r]).toNat]!).Ys=0:=by
  by_cases hi:Z4.firstIdx (Z4.Uy q.nm) [r]<0;·rw[aH hi];rfl
  ·rw[aN hi]
   have A:(Z4.firstIdx (Z4.Uy q.nm) [r]).toNat=0:=by
    unfold Z4.firstIdx Z4.firstIdx at hi ⊢;by_cases hp:Z4.Uy q.nm r=true;·rw[aH hp];rfl
    ·rw[aN hp] at hi ⊢;simp at hi
   rw[A];exact h
 rw[this];rfl
theorem ac6{k n:Int}{x:Bool}{rs:List ZJ.YR}{r:Z4.Z0}{L Cm:Nat}{w w':World}{e:Ending}(I:PV k n x rs=true)(U:Z4.Zv [r])(hm:r.Ys=0)(hc:∀ev,JQ [r] (rs.map OY) [] ev->ev=0)(J:3*(80+10*N2 L Cm)<=4096)
 (h:AQ (F4 (PV k n x rs) [r] (rs.map OY)) ((rs.map OY).any (WD [r])) L Cm w e w'\/(ac5 k n x rs [r]/\Dx (rs.map OY) [r] k n x w e w')):Dx (rs.map OY) [r] k n x w e w':=by
 rcases h with⟨z,ev,Y,A,_⟩|h
 ·exfalso;rcases A with C|C|C
  ·rcases C.2 I with⟨_,D⟩|⟨_,D⟩;·exact D U
   ·exact Y (hc ev D)
  ·obtain⟨q,_,T⟩:=akg.1 C;rw[uG hm q] at T;cases T
  ·omega
 ·exact h.2
theorem ac7{v m:Nat}(h:v ||| m=m):v &&& m=v:=by
 rw[<-h];apply Nat.eq_of_testBit_eq;intro i;simp only[Nat.testBit_and,Nat.testBit_or];cases v.testBit i<;>simp
theorem iM{v m:Int}(hv:0<=v/\v<18446744073709551616)(hm:0<=m/\m<18446744073709551616)(h:bits .or .u64 v m=m):v.toNat &&& m.toNat=v.toNat:=by
 have e:=bits_or_u64_nat v.toNat m.toNat jO jO;rw[show((v.toNat:Nat):Int)=v from jO,show((m.toNat:Nat):Int)=m from jO,h] at e;exact ac7 jO
def Sm(c:ZJ.Y4):Bool:=V3 c.a c.o c.m && !(decide (c.o=7)&&decide (bits .or .u64 c.v c.m≠c.m))
theorem Ri{c:ZJ.Y4}(h:Sm c=true):ZJ.XM c=true:=by
 unfold Sm V3 at h;unfold ZJ.XM Zj.X4;simp only[aeg,adg] at h;exact ace ⟨h.1.1,h.1.2.1,h.1.2.2.1,h.1.2.2.2.1,h.1.2.2.2.2.symm⟩
theorem Ai{c:ZJ.Y4}(h:Sm c=true)(hn:ZJ.NY c):WT (SG c)=false:=by
 unfold Sm at h;unfold WT SG;simp only[aeg,Bool.not_eq_true',Bool.and_eq_false_imp,adg,apf] at h;have hr:=ahf h.1;apply aee;rintro⟨D,C⟩;have A:c.o=7:=by dsimp only at D;omega
 exact C (iM hn.2 hn.1 (Decidable.not_not.1 (h.2 A)))
theorem uF{k n:Int}{x:Bool}{rs:List ZJ.YR}(D:Yo.Zw k n=true)(C:rs.length<=500)(A:∀r∈rs,ZJ.Sq r.name=true/\Yo.Zw r.k r.n=true/\r.conds.length<=6/\∀c∈r.conds,ZJ.XM c=true):PV k n x rs=true:=by
 unfold PV ZJ.Dm;simp only[aeg,adg,aje];refine⟨D,C,λr hr=> ?_⟩;unfold ZJ.Wp;simp only[aeg,adg,aje];exact A r hr
theorem uE:ZJ.Sq ⟨#[114,101,97,100]⟩=true:=by decide+kernel
theorem yh:Yo.Zw 1 0=true/\Yo.Zw 8 0=true/\Yo.Zw 4 13=true/\Yo.Zw 7 0=true:=jD
theorem CX:Yf 1 0=2147483648/\Yf 8 0=2147418112/\Yf 4 13=327693/\Yf 7 0=2147221504:=jD
theorem oK{cs:List ZJ.Y4}(h:∀c∈cs,Sm c=true)(hn:∀c∈cs,ZJ.NY c):(cs.map SG).any WT=false:=by
 rw[List.any_eq_false];intro c hc;obtain⟨d,hd,rfl⟩:=ah.1 hc;rw[Ai (h d hd) (hn d hd)]
 decide
def Ah(k:Nat)(xs:List Nat)(c:ZJ.Y4):Bool:=JP c.o.toNat c.m.toNat c.v.toNat (seen k (xs.getD c.a.toNat 0))
theorem uD{k n ar p:Nat}{xs:List Nat}{cs:List ZJ.Y4}(hx:xs.length=6)(D:∀x∈xs,x<YO)(h:∀c∈cs,Sm c=true):Z2 (VX (YS (Xv n ar p xs)) (decide (k≠2))) (cs.map SG)=cs.all (Ah k xs):=by
 unfold Z2;rw[List.all_map];rw[ale,aje,aje];have A:∀c∈cs,((λc:Z5=>JP c.o c.m c.v (VX (YS (Xv n ar p xs)) (decide (k≠2)) c.a))∘SG) c=Ah k xs c:=λc hc=>by
  have hr:=Ri (h c hc);unfold ZJ.XM Zj.X4 at hr;have hr:=ahf hr;have ha:c.a.toNat<xs.length:=jO;have I:xs[c.a.toNat]? =some (xs.getD c.a.toNat 0):=by rw[aef,aM ha];rfl
  show JP c.o.toNat c.m.toNat c.v.toNat (VX (YS (Xv n ar p xs)) (decide (k≠2)) c.a.toNat)=_;rw[Aq n ar p k I (D _ (ag I))];rfl
 constructor;·intro C c hc;rw[<-A c hc];exact C c hc
 ·intro C c hc;rw[A c hc];exact C c hc
theorem oJ{w:Nat->Nat}{d a:Nat}{r:NR}:DV w true d a [r] r.nm=if Z2 (VX w (decide (a≠2))) r.cs=true then Yf r.k r.n else d:=by
 unfold DV ofName;rw[aN jS];simp only[decide_true,List.filter_cons_of_pos,List.filter_nil,aed,ard];unfold RA ZC;by_cases h:Z2 (VX w (decide (a≠2))) r.cs=true;·rw[aH h,aH h];rfl
 ·rw[aN h,aN h];rfl
end Go.Proofs.YtclgigmgbebhgaaGreatDoor
