/- TopOther: part 41: TopVal3 TopLw8. -/
import Derived.Test.YtclgigmgbebhgaaGreatDoorO40
set_option linter.unusedVariables false
set_option linter.unusedSimpArgs false
set_option maxRecDepth 100000
set_option maxHeartbeats 16000000
namespace Go.Proofs.YtclgigmgbebhgaaGreatDoor
open Tryz
open Go Go.Proofs Go.RowKit Go.Maps Go.WideMaps Go.ChangeMaps
variable {ow:ByteArray} {ks:List ByteArray} {PT PM:Nat} {tv:Value} {w W:World}
def ad8(s:ByteArray)(cs:List Z5):Prop:=s.size=0↔cs=[]
def zJ(nm s:ByteArray):ByteArray:=nm++⟨#[58]⟩++s
inductive FC (l:List Z4.Z2):List NR->List ByteArray->Int->Prop
 |done (ks:List ByteArray):FC l [] ks 0
 |name {r:NR} {rs:List NR} {ks:List ByteArray}:Z4.firstIdx (Z4.RI r.nm) l<0->FC l (r::rs) ks 14
 |ao9 {r:NR} {rs:List NR} {ks:List ByteArray}:0<=Z4.firstIdx (Z4.RI r.nm) l->r.cs.any VF=true->FC l (r::rs) ks 16
 |twice {r:NR} {rs:List NR} {ks:List ByteArray} {s:ByteArray}:0<=Z4.firstIdx (Z4.RI r.nm) l->r.cs.any VF=false->ad8 s r.cs->(r.nm++⟨#[58]⟩∈ks\/zJ r.nm s∈ks)->FC l (r::rs) ks 15
 |next {r:NR} {rs:List NR} {ks:List ByteArray} {s:ByteArray} {ev:Int}:0<=Z4.firstIdx (Z4.RI r.nm) l->r.cs.any VF=false->ad8 s r.cs->¬(r.nm++⟨#[58]⟩∈ks\/zJ r.nm s∈ks)->FC l rs (ks++[zJ r.nm s]) ev->FC l (r::rs) ks ev
theorem FC.ok{l:List Z4.Z2}{rs:List NR}{ks:List ByteArray}{ev:Int}(h:FC l rs ks ev):ev=0->∀r∈rs,0<=Z4.firstIdx (Z4.RI r.nm) l/\r.cs.any VF=false:=by
 induction h with
 |done ks=>intro _ r hr;cases hr
 |name _=>intro e;cases e
 |ao9 _ _=>intro e;cases e
 |twice _ _ _ _=>intro e;cases e
 |next h1 C _ _ _ A=>
  intro e r hr;rcases abf.1 hr with rfl|hr;·exact⟨h1,C⟩
  ·exact A e r hr
theorem oo(nm s:ByteArray):(zJ nm s).size=nm.size+1+s.size:=by
 unfold zJ;rw[axc,axc];rfl
def zI(tL:Bool)(l:List Z4.Z2)(pr:List NR)(ev:Int):Prop:=(tL=false->ev=13)/\(tL=true->(ev=18/\¬Z4.Zt l)\/(Z4.Zt l/\FC l pr [] ev))
def ad9(tL:Bool)(l:List Z4.Z2)(pr:List NR)(w:World)(e:Ending)(w':World):Prop:=∃z ev:Int,e=.returned (.tuple #[.int .i64 z,.int .i64 ev])/\zI tL l pr ev/\Below w.heap.size w w'
structure Cz(lo PT PM B:Nat)(tv:Value)(w:World)(ks:List ByteArray)(W:World):Prop where
 Zs:Below lo w W
 lw:lo<=W.heap.size
 tab:Z7 W PT 41 #[tv]
 box:Z7 W PM 182 #[.map (some B)]
 map:ZB W B (uk ks)
 NH:lo<=B
 nd:ks.Pairwise (·≠·)
 sz:∀s∈ks,s.size<=1000000
theorem Cz.to{lo B:Nat} {W':World} (h:Cz lo PT PM B tv w ks W)(hb:Below W.heap.size W W'):Cz lo PT PM B tv w ks W':=
 ⟨h.Zs.trans (hb.mono h.lw),aO h.lw hb.size,h.tab.below hb h.tab.lt,h.box.below hb h.box.lt,h.map.below hb h.map.lt,h.NH,h.nd,h.sz⟩
theorem Cz.put{lo B:Nat} {s:ByteArray}(h:Cz lo PT PM B tv w ks W)(hs:s.size<=1000000)(hn:s∉ks):∃W',(Instr.mapUpdate 182 (.map (some B)) (.string s) (.bool true)).run prog W=.ok () W'/\Cz lo PT PM B tv w (ks++[s]) W':=by
 have hk:∀p∈uk ks,∃l,keyOf prog 9 p.1=some l:=λp hp=>by obtain⟨x,hx,rfl⟩:=ai.1 hp;exact Ou x (h.sz x hx)
 obtain⟨W',D,C,A⟩:=Vq underlying182 Ty h.map hk (Ou s hs) (λp hp e=>by obtain⟨x,hx,rfl⟩:=ai.1 hp;exact hn (by rw[<-ara e];exact hx)) (.bool true)
 have nb:∀{X t:Nat} {cs:Array Value},Z7 W X t cs->some X≠some B:=λhx e=>by cases e;obtain⟨es,c,hm,_⟩:=h.map;have:=hm.symm.trans hx;cases this
 refine⟨W',D,h.Zs.grown A h.lw (λk e=>by cases e;exact h.NH),aO h.lw A.size,h.tab.kept A (nb h.tab),h.box.kept A (nb h.box),?_,h.NH,?_,λx hx=> ?_⟩;·unfold uk at C ⊢;rw[acf];exact C
 ·exact afa.2 ⟨h.nd,apg _ _,λx hx y hy e=>hn (by rw[<-aac.1 hy,<-e];exact hx)⟩
 ·rcases abe.1 hx with hx|hx;·exact h.sz x hx
  ·rw[aac.1 hx];exact hs
def ap0(nm:ByteArray)(cs:List Z5)(W1 wx:World)(PO:Nat)(s:ByteArray):Prop:=ad8 s cs/\s.size<=100000/\Z7 wx PO 9 #[.string (zJ nm s)]/\Below W1.heap.size W1 wx
theorem om{B:Nat}{a:World}(q:Nat)(h:Below B a w):Below B a (w.drewN q):=⟨h.os,h.tape,h.output,h.size,h.block⟩
theorem uj {nm:ByteArray}(h:(!Ca (nm++⟨#[58]⟩) ks && !Ca ow ks)=true):¬(nm++⟨#[58]⟩∈ks\/ow∈ks):=by
 rintro(e|e)<;>rw[NK.2 e] at h<;>simp at h
theorem Cy {nm:ByteArray}(h:(!Ca (nm++⟨#[58]⟩) ks && !Ca ow ks)=false):nm++⟨#[58]⟩∈ks\/ow∈ks:=by
 rw[<-NK,<-NK];cases A:Ca (nm++⟨#[58]⟩) ks<;>cases C:Ca ow ks<;>simp[A,C] at h ⊢
theorem zH{tL:Bool}{N L c:Nat}{a:Option Addr}{pr:List NR}{k n:Int}{x:Bool}(sa:Option Addr)(sc:Nat)(l:List Z4.Z2)(hL:tL=true->pr.length=L)(Xl:L<=500)(w:World)(hQ:tL=true->UI N w a pr)(hN:N<=w.heap.size)(Pb:l.length<=40)(hlz:∀r∈l,r.name.size<=1000)(hR:Z4.X2 w (.slice sa l.length sc) l)(hp:Zh.Xb w)
 (RH:∀W,Below w.heap.size w W->Calls prog 75 #[.agg #[.int .i64 k,.int .i64 n,.bool x,.slice a L c]] W λe w'=>e=.returned (.bool tL)/\Below W.heap.size W w')
 (hsz:tL=true->∀r∈pr,r.nm.size<=1000/\r.cs.length<=1000/\∀c∈r.cs,c.right):
 Calls prog 34 #[.agg #[.int .i64 k,.int .i64 n,.bool x,.slice a L c],.slice sa l.length sc] w (ad9 tL l pr w):=by
 have hb2:=KM w (.cells #[.int .i64 k,.int .i64 n,.bool x,.slice a L c] VZ) (.cells #[.slice sa l.length sc] 41);have kv:=aT ((Z7.new w VZ #[.int .i64 k,.int .i64 n,.bool x,.slice a L c]).alloc (.cells #[.slice sa l.length sc] 41));have HT0:Hid (Z7 ((w.alloc (.cells #[.int .i64 k,.int .i64 n,.bool x,.slice a L c] VZ)).alloc (.cells #[.slice sa l.length sc] 41)) (w.heap.size+1) 41 #[.slice sa l.length sc]):=Z7.O9 w _ 41 #[.slice sa l.length sc];have HB:=aT hb2;have HQ:=aT hQ;have eQ:=aT hsz;have tU:=aT RH;have HL:=aT hL;have Au:=aT hR;have rR:=aT hp;have HLz:=aT hlz;clear hb2 hQ hsz RH hL hR hp hlz;go_enter func34,ntmps34;go_upto_region 1 with fail;generalize (w.alloc (.cells #[.int .i64 k,.int .i64 n,.bool x,.slice a L c] VZ)).alloc (.cells #[.slice sa l.length sc] 41)=w1 at*;obtain⟨PT,qI⟩:=jX (w.heap.size+1);rw[qI] at HT0 ⊢;have hwP:w.heap.size<PT:=jO;clear qI;obtain⟨⟨p0,p1,p2,p3⟩,_⟩:=Z8 kv;go_wp2_with fail;refine(tU w1 HB).mono ?_;rintro e w2 ⟨rfl,hb⟩;have Gt:=aT (kv.below hb kv.lt);have Uu:=aT (HT0.below hb HT0.lt);have XA:=aT (HB.trans (hb.mono HB.size));clear hb kv HT0 HB tU p0 p1 p2 p3;cases tL with
 |false=>
  simp only[Bool.not_false];go_wp2_with fail;go_ret2;exact⟨_,_,rfl,⟨λ_=>rfl,λe=>(by cases e)⟩,XA⟩
 |true=>
  simp only[Bool.not_true];have hLL:=HL (by trivial);have HRr:=aT (Z4.XQ (.slice sa l.length sc) l w2 jO (Au.below XA) (λr hr=>aO (HLz r hr) jD));have t0:=Uu.e0;go_wp2_with fail;refine HRr.mono ?_;rintro e w3 ⟨az,av,rfl,dM,hb⟩;have Gs:=aT (Gt.below hb Gt.lt);have cY:=aT (Uu.below hb Uu.lt);have Vj:=aT (XA.trans (hb.mono XA.size));have mz:=aT dM;clear hb Gt Uu XA HRr t0 dM;by_cases h0:av=0
  ·subst h0
   have U:Hid (Z4.Zt l):=by
    rcases mz.out with⟨h4,_⟩|⟨_,⟨i,_,_,h,_⟩|⟨_,_,h⟩⟩;·omega
    ·exact absurd rfl h
    ·exact h
   have Jw:= @apc prog;have hM4:=ZB.made w3;have Fu:Hid (Cz w.heap.size PT (w3.heap.size+1) w3.heap.size (.slice sa l.length sc) w [] ((w3.alloc (.map #[] 0)).alloc (.cells #[.map (some w3.heap.size)] 182))):=by have b1:=Yl w3 (.map #[] 0);have b2:=KM w3 (.map #[] 0) (.cells #[.map (some w3.heap.size)] 182);exact⟨Vj.trans (b2.mono Vj.size),aO Vj.size b2.size,cY.below b2 cY.lt,Z7.O9 w3 _ 182 #[.map (some w3.heap.size)],hM4.alloc _,Vj.size,List.Pairwise.nil,λs hs=>by cases hs⟩
   have fD:=aT (Gs.below (KM w3 (.map #[] 0) (.cells #[.map (some w3.heap.size)] 182)) Gs.lt);clear hM4 Gs cY Vj mz;go_upto_region 7 with fail;generalize (w3.alloc (.map #[] 0)).alloc (.cells #[.map (some w3.heap.size)] 182)=w4 at*;obtain⟨PM,hPM⟩:=jX (w3.heap.size+1);rw[hPM] at Fu ⊢;generalize w3.heap.size=B at*;clear hPM Jw;obtain⟨⟨p0,p1,p2,p3⟩,_⟩:=Z8 fD;go_upto_region 8 with fail;clear p0 p1 p2 p3;go_loopg [31] (L+1) (λgg s31 wr=>∃(i:Nat) (ks:List ByteArray),i<=L/\L-i<gg/\s31=.int .i64 (i:Int)/\Hid (∀ev,FC l (pr.drop i) ks ev->FC l pr [] ev)/\Hid (Cz w.heap.size PT PM B (.slice sa l.length sc) w ks wr));case atStart=>exact⟨0,[],abc _,jO,rfl,(λev h=>h),Fu⟩
   case round=>
    obtain⟨i,ks,zm,VP,rfl,lI,HI⟩:=hrel;clear Fu fD;have yU:=jZ i;by_cases hlt:i<L
    ·have Y8:(i:Int)<(L:Int):=by omega
     have Jz:=jW i;obtain⟨r,hr⟩:∃r,pr[i]? =some r:=⟨_,aM (by rw[hLL];exact hlt)⟩;obtain⟨g,off,u,rfl,hg,y0,y1,y2,y3,hcs⟩:=((HQ (by trivial)).below HI.Zs hN) i r hr;have fW:Hid (pr.drop i=r::pr.drop (i+1)):=by show _=_;exact drop_cons hr
     obtain⟨kr,cG,cH⟩:=eQ (by trivial) r (af hr);have HRc:=aT cH;obtain⟨ua,uc,rfl⟩:=hcs.form;obtain⟨nm,rk,rn,cs⟩:=r;dsimp only at*;obtain⟨K,hK⟩:=jX cs.length;rw[hK] at y3 cG hcs;have HK:=aT hK;have mC:=Yl wr (.cells #[.string nm,.int .i64 rk,.int .i64 rn,.slice ua K uc] TR);have yK:=aT (HI.to mC);have tO:=aT (Z7.new wr TR #[.string nm,.int .i64 rk,.int .i64 rn,.slice ua K uc]);have HC5:=aT (hcs.below mC (aO hN HI.lw));clear hr cH hK hcs mC;go_upto_region 12 with fail;generalize wr.alloc (.cells #[.string nm,.int .i64 rk,.int .i64 rn,.slice ua K uc] TR)=w5 at*;generalize wr.heap.size=BR at*;clear y0 y1 y2 y3 HI;have HKy:=aT (λW (hb:Below w5.heap.size w5 W)=>ij (uc:=uc) HK cG HRc W (rR.below (yK.Zs.trans (hb.mono yK.lw))) (HC5.below hb (aO hN yK.lw)) (aO (aO hN yK.lw) hb.size));go_cut [13] from 38 to 44 (λs wx=>∃PO sz,s=.pointer (some ⟨PO,0,none⟩)/\Hid (ap0 nm cs w5 wx PO sz))
     case first=>
      have NG:Hid (∀W:World,Below w5.heap.size w5 W->W.cell? ⟨BR,0,none⟩=some (.string nm)/\W.cell? ⟨BR,3,none⟩=some (.slice ua K uc)):=λW hW=>by obtain⟨⟨q0,_,_,q3⟩,_⟩:=Z8 (tO.below hW tO.lt);exact⟨q0,q3⟩
      have kd:Below w5.heap.size w5 w5.drew:=(aH _ _).drew;have ka:Below w5.heap.size w5 (w5.alloc (.cells #[.string ⟨#[]⟩] 9)).drew:=kd.alloc (aR _) _;have kas:=ka.size;have kb:Below w5.heap.size w5 (w5.drew.alloc (.cells #[.string ⟨#[]⟩] 9)):=ka;have aK7:¬9223372036854775807<nm.size+1:=jO
      go_region_held_law (λw'=>w'.cell? ⟨BR,0,none⟩=some (.string nm)/\w'.cell? ⟨BR,3,none⟩=some (.slice ua K uc)) (exact NG _ (by first|(with_reducible assumption)|(with_reducible exact kd)|(with_reducible exact ka))) (first
       |(go_at_call 81;refine(HKy _ (by first|(with_reducible assumption)|(with_reducible exact kd)|(with_reducible exact ka))).mono ?_;rintro e w7 ⟨sz,rfl,hs1,hs2,Sm⟩;have k7:Below w5.heap.size w5 w7:=(by first|exact kd.trans Sm|exact ka.trans (Sm.mono kas));have aK8:¬9223372036854775807<nm.size+1+sz.size:=jO;have k8:=k7.alloc k7.size (.cells #[.string ⟨#[]⟩] 9);have k9:=k7.alloc k7.size (.cells #[.string (nm++⟨#[58]⟩++sz)] 9);have Nt:=aT hs1;clear hs1;have ks7:=k7.setCell (p:=⟨w5.heap.size,0,none⟩) (aR _) (.string (nm++⟨#[58]⟩++sz));try (have g7:Z7 w7 w5.heap.size 9 #[.string ⟨#[]⟩]:=(show Z7 (w5.alloc (.cells #[.string ⟨#[]⟩] 9)).drew w5.heap.size 9 #[.string ⟨#[]⟩] from Z7.new w5 9 #[.string ⟨#[]⟩]).below Sm (Z7.new w5 9 #[.string ⟨#[]⟩]).lt;have y0:w7.cell? ⟨w5.heap.size,0,none⟩=some (.string ⟨#[]⟩):=g7.cell 0;have f0:=g7.frozen 0)))
      ·go_wp2_with fail;go_meet;exact⟨_,sz,rfl,Nt,hs2,Z7.new w7 _ _,k9⟩
      ·go_wp2_with fail;go_meet;exact⟨_,sz,rfl,Nt,hs2,g7.set 0 _,k7.setCell (p:=⟨w5.heap.size,0,none⟩) (aR _) _⟩
     case rest=>
      obtain⟨PO,sz,rfl,HO⟩:=hcut;have A:=aT (yK.to HO.2.2.2);have oD:=aT (tO.below HO.2.2.2 tO.lt);have mP:=aT (HC5.below HO.2.2.2 (aO hN yK.lw));have dR:=aT HO.2.2.1;have HKR:=aT HO.1;have hs2:=HO.2.1;clear yK tO HC5 HKy HO;obtain⟨ow,how⟩:∃o,zJ nm sz=o:=⟨_,rfl⟩;rw[how] at dR;have HOw:=aT how;have hos:ow.size<=1000000:=by rw[<-how,oo];omega
      clear how;have hNc:N<=wc.heap.size:=aO hN A.lw;have HNm:=aT (λW (hb:Below wc.heap.size wc W)=>zL sa sc l W jO (Au.below (A.Zs.trans (hb.mono A.lw))) U (A.tab.below hb A.tab.lt) (oD.below hb oD.lt));have HRg:=aT (λW (hb:Below wc.heap.size wc W)=>SJ (uc:=uc) HK jO (λc hc=>⟨(HRc c hc).2.2.2.1,(HRc c hc).2.2.2.2⟩) W (mP.below hb hNc) (aO hNc hb.size) (oD.below hb oD.lt));have HFr:=aT (λW (hb:Below wc.heap.size wc W)=>zK W (A.map.below hb A.map.lt) A.nd A.sz kr hos (A.box.below hb A.box.lt) (oD.below hb oD.lt) (dR.below hb dR.lt));obtain⟨b1,hb1⟩:∃b,decide (0<=Z4.firstIdx (Z4.RI nm) l)=b:=⟨_,rfl⟩;obtain⟨b2,hb2⟩:∃b,cs.any VF=b:=⟨_,rfl⟩;obtain⟨b3,hb3⟩:∃b,(!Ca (nm++⟨#[58]⟩) ks && !Ca ow ks)=b:=⟨_,rfl⟩;rw[hb1] at HNm;rw[hb2] at HRg;rw[hb3] at HFr;have T:=aT (And.intro hb1 (And.intro hb2 hb3));clear hb1 hb2 hb3;have HA7:=aT (Z7.new wc 185 #[.func (.func 77) #[] #[.pointer (some ⟨PT,0,none⟩),.pointer (some ⟨BR,0,none⟩)],.int .i64 14,.func (.func 78) #[] #[.pointer (some ⟨BR,0,none⟩)],.int .i64 16,.func (.func 82) #[] #[.pointer (some ⟨PM,0,none⟩),.pointer (some ⟨BR,0,none⟩),.pointer (some ⟨PO,0,none⟩)],.int .i64 15]);have Sm:=Yl wc (.cells #[.func (.func 77) #[] #[.pointer (some ⟨PT,0,none⟩),.pointer (some ⟨BR,0,none⟩)],.int .i64 14,.func (.func 78) #[] #[.pointer (some ⟨BR,0,none⟩)],.int .i64 16,.func (.func 82) #[] #[.pointer (some ⟨PM,0,none⟩),.pointer (some ⟨BR,0,none⟩),.pointer (some ⟨PO,0,none⟩)],.int .i64 15] 185);have gF:∀(fn:Fn) (first cap:Array Value) (w:World),(Instr.makeFunc fn first cap).run prog w=.ok (.func fn first cap) w:=λ_ _ _ _=>rfl
      go_upto_region 15 with fail;clear gF;generalize wc.alloc (.cells #[.func (.func 77) #[] #[.pointer (some ⟨PT,0,none⟩),.pointer (some ⟨BR,0,none⟩)],.int .i64 14,.func (.func 78) #[] #[.pointer (some ⟨BR,0,none⟩)],.int .i64 16,.func (.func 82) #[] #[.pointer (some ⟨PM,0,none⟩),.pointer (some ⟨BR,0,none⟩),.pointer (some ⟨PO,0,none⟩)],.int .i64 15] 185)=w7 at*;obtain⟨AB,hAB⟩:∃z,wc.heap.size=z:=⟨_,rfl⟩;rw[hAB] at HA7 ⊢;have HAB:=aT hAB;clear hAB;have HC7:Hid (∀W,Below wc.heap.size wc W->True):=λ_ _=>trivial
      have ap1:Hid (∀W,Below w7.heap.size w7 W->∀q,q<3->W.cell? ⟨AB,q*2,none⟩=(#[.func (.func 77) #[] #[.pointer (some ⟨PT,0,none⟩),.pointer (some ⟨BR,0,none⟩)],.int .i64 14,.func (.func 78) #[] #[.pointer (some ⟨BR,0,none⟩)],.int .i64 16,.func (.func 82) #[] #[.pointer (some ⟨PM,0,none⟩),.pointer (some ⟨BR,0,none⟩),.pointer (some ⟨PO,0,none⟩)],.int .i64 15]:Array Value)[q*2]? /\W.cell? ⟨AB,q*2+1,none⟩=(#[.func (.func 77) #[] #[.pointer (some ⟨PT,0,none⟩),.pointer (some ⟨BR,0,none⟩)],.int .i64 14,.func (.func 78) #[] #[.pointer (some ⟨BR,0,none⟩)],.int .i64 16,.func (.func 82) #[] #[.pointer (some ⟨PM,0,none⟩),.pointer (some ⟨BR,0,none⟩),.pointer (some ⟨PO,0,none⟩)],.int .i64 15]:Array Value)[q*2+1]?):=λW hW q _=>
       ⟨(HA7.below hW HA7.lt).cell _,(HA7.below hW HA7.lt).cell _⟩
      have C:=aT Sm;have iE:=C.size;clear Sm HC7;go_loopg [54] 4 (λg3 s54 wr=>∃q:Nat,q<=3/\3-q<g3/\s54=.int .i64 (q:Int)/\Hid ((0<q->b1=true)/\(1<q->b2=false)/\(2<q->b3=true))/\Hid (Below w7.heap.size w7 wr));case atStart=>exact⟨0,jD,jD,rfl,⟨λh=>absurd h jD,λh=>absurd h jD,λh=>absurd h jD⟩,aH _ _⟩
      case round=>
       obtain⟨q,hq3,hg3,rfl,J,Y⟩:=hrel;have Ov:Hid (Below wc.heap.size wc wr):=C.trans (Y.mono iE);have hcell:=ap1 wr Y;rcases (show q=0\/q=1\/q=2\/q=3 from jO) with rfl|rfl|rfl|rfl
       ·
        obtain⟨g0a,g0b⟩:=hcell 0 jD;have D:=aT (Z7.new wr 185 #[.func (.func 77) #[] #[.pointer (some ⟨PT,0,none⟩),.pointer (some ⟨BR,0,none⟩)],.int .i64 14]);have k8:Below w7.heap.size w7 (wr.alloc (.cells #[.func (.func 77) #[] #[.pointer (some ⟨PT,0,none⟩),.pointer (some ⟨BR,0,none⟩)],.int .i64 14] 185)):=Y.alloc Y.size _;have K8:=aT k8;clear k8 hcell;go_upto_region 17 with fail;generalize wr.alloc (.cells #[.func (.func 77) #[] #[.pointer (some ⟨PT,0,none⟩),.pointer (some ⟨BR,0,none⟩)],.int .i64 14] 185)=w8 at*;obtain⟨A8,dL⟩:∃z,wr.heap.size=z:=⟨_,rfl⟩;rw[dL] at D ⊢;clear dL;obtain⟨z0,z1⟩:=D.q2;have Z:=aT (HNm w8 (C.trans (K8.mono iE)));go_wp2_with fail;refine Z.mono ?_;rintro e w9 ⟨rfl,I⟩;have K9:=aT (K8.trans (I.mono K8.size));have z1:=(I.cell (p:=⟨A8,1,none⟩) D.lt).trans z1;clear I Z z0;cases b1 with
        |false=>
         go_wp2_with fail;go_quiet (fail);go_wp2_with fail;go_ret2;exact⟨_,_,rfl,⟨λe=>(by cases e),λ_=>.inr ⟨U,lI _ (by rw[fW.out];exact FC.name (by have h:=T.1;simpa using h))⟩⟩,om nq (A.Zs.trans ((C.trans (K9.mono iE)).mono A.lw))⟩
        |true=>
         go_wp2_with fail;go_roundg (3-0);case measure=>omega
         case rel=>exact⟨1,jD,jD,rfl,⟨λ_=>(by first|rfl|trivial),λh=>absurd h jD,λh=>absurd h jD⟩,K9⟩
       ·
        obtain⟨g1a,g1b⟩:=hcell 1 jD;have D:=aT (Z7.new wr 185 #[.func (.func 78) #[] #[.pointer (some ⟨BR,0,none⟩)],.int .i64 16]);have k8:Below w7.heap.size w7 (wr.alloc (.cells #[.func (.func 78) #[] #[.pointer (some ⟨BR,0,none⟩)],.int .i64 16] 185)):=Y.alloc Y.size _;have K8:=aT k8;clear k8 hcell;go_upto_region 17 with fail;generalize wr.alloc (.cells #[.func (.func 78) #[] #[.pointer (some ⟨BR,0,none⟩)],.int .i64 16] 185)=w8 at*;obtain⟨A8,dL⟩:∃z,wr.heap.size=z:=⟨_,rfl⟩;rw[dL] at D ⊢;clear dL;obtain⟨z0,z1⟩:=D.q2;have Z:=aT (HRg w8 (C.trans (K8.mono iE)));go_wp2_with fail;refine Z.mono ?_;rintro e w9 ⟨rfl,I⟩;have K9:=aT (K8.trans (I.mono K8.size));have z1:=(I.cell (p:=⟨A8,1,none⟩) D.lt).trans z1;clear I Z z0;cases b2 with
        |true=>
         go_wp2_with fail;go_quiet (fail);go_wp2_with fail;go_ret2;exact⟨_,_,rfl,⟨λe=>(by cases e),λ_=>.inr ⟨U,lI _ (by rw[fW.out];exact FC.ao9 (by have h:=T.1;rw[J.out.1 jD] at h;simpa using h) T.2.1)⟩⟩,om nq (A.Zs.trans ((C.trans (K9.mono iE)).mono A.lw))⟩
        |false=>
         go_wp2_with fail;go_roundg (3-1);case measure=>omega
         case rel=>exact⟨2,jD,jD,rfl,⟨λ_=>J.1 jD,λ_=>(by first|rfl|trivial),λh=>absurd h jD⟩,K9⟩
       ·
        obtain⟨g2a,g2b⟩:=hcell 2 jD;have D:=aT (Z7.new wr 185 #[.func (.func 82) #[] #[.pointer (some ⟨PM,0,none⟩),.pointer (some ⟨BR,0,none⟩),.pointer (some ⟨PO,0,none⟩)],.int .i64 15]);have k8:Below w7.heap.size w7 (wr.alloc (.cells #[.func (.func 82) #[] #[.pointer (some ⟨PM,0,none⟩),.pointer (some ⟨BR,0,none⟩),.pointer (some ⟨PO,0,none⟩)],.int .i64 15] 185)):=Y.alloc Y.size _;have K8:=aT k8;clear k8 hcell;go_upto_region 17 with fail;generalize wr.alloc (.cells #[.func (.func 82) #[] #[.pointer (some ⟨PM,0,none⟩),.pointer (some ⟨BR,0,none⟩),.pointer (some ⟨PO,0,none⟩)],.int .i64 15] 185)=w8 at*;obtain⟨A8,dL⟩:∃z,wr.heap.size=z:=⟨_,rfl⟩;rw[dL] at D ⊢;clear dL;obtain⟨z0,z1⟩:=D.q2;have Z:=aT (HFr w8 (C.trans (K8.mono iE)));go_wp2_with fail;refine Z.mono ?_;rintro e w9 ⟨rfl,I⟩;have K9:=aT (K8.trans (I.mono K8.size));have z1:=(I.cell (p:=⟨A8,1,none⟩) D.lt).trans z1;clear I Z z0;cases b3 with
        |false=>
         go_wp2_with fail;go_quiet (fail);go_wp2_with fail;go_ret2;exact⟨_,_,rfl,⟨λe=>(by cases e),λ_=>.inr ⟨U,lI _ (by rw[fW.out];exact FC.twice (s:=sz) (by have h:=T.1;rw[J.out.1 jD] at h;simpa using h) (by rw[T.out.2.1];exact J.2.1 jD) HKR (by rw[HOw.out];exact Cy T.2.2))⟩⟩,om nq (A.Zs.trans ((C.trans (K9.mono iE)).mono A.lw))⟩
        |true=>
         go_wp2_with fail;go_roundg (3-2);case measure=>omega
         case rel=>exact⟨3,jD,jD,rfl,⟨λ_=>J.1 jD,λ_=>J.2.1 jD,λ_=>(by first|rfl|trivial)⟩,K9⟩
       ·
        clear hcell;have mO:=aT (A.to Ov);have HO9:=aT (dR.below Ov dR.lt);have HF:=aT (uj (ks:=ks) (nm:=nm) (ow:=ow) (by rw[T.out.2.2];exact J.2.2 jD));obtain⟨wq,hmu,hIq⟩:=mO.put hos (λh=>HF (.inr h));have HIq:=aT hIq;have cP:Hid (∀ev,FC l (pr.drop (i+1)) (ks++[ow]) ev->FC l pr [] ev):=λev h=>lI ev (by
         rw[fW.out];refine FC.next (s:=sz) (by have h:=T.1;rw[J.out.1 jD] at h;simpa using h) (by rw[T.out.2.1];exact J.2.1 jD) HKR ?_ ?_;·rw[HOw.out];exact HF
         ·rw[HOw.out];exact h)
        have m0:=mO.box.e0;have o0:=HO9.e0;clear hIq
        go_wp2_with (rw[hmu])
        clear m0 o0;go_wp2_with fail;go_roundg (L-i);case measure=>omega
        case rel=>exact⟨i+1,_,jO,jO,by go_num,cP,HIq⟩
    ·obtain rfl:i=L:=by omega
     have Y8:¬(i:Int)<(i:Int):=jO;have aD9:Hid (FC l pr [] 0):=lI 0 (by rw[anc (by rw[hLL];exact aR _)];exact FC.done _)
     go_wp2_with fail;go_ret2;exact⟨_,_,rfl,⟨λe=>(by cases e),λ_=>.inr ⟨U,aD9⟩⟩,HI.Zs⟩
  ·have lQ:(av != 0)=true:=by simpa using h0
   have HNo:Hid (¬Z4.Zt l):=λhT=>by
    rcases mz.out with⟨h4,_⟩|⟨_,⟨i,hi,_,h,hs,_⟩|⟨_,h,_⟩⟩;·omega
    ·exact h (Z4.W6.one hs (hT i hi))
    ·exact h0 h
   clear h0 mz;go_wp2_with fail;go_ret2;exact⟨_,_,rfl,⟨λe=>(by cases e),λ_=>.inl ⟨rfl,HNo⟩⟩,Vj⟩
end Go.Proofs.YtclgigmgbebhgaaGreatDoor
namespace Go.Proofs.YtclgigmgbebhgaaGreatDoor
open Tryz
open Go Go.Proofs Go.RowKit
def JE(c:Z0.YK):Z5:=⟨c.a.toNat,c.o.toNat,c.m.toNat,c.v.toNat⟩
def SG(r:Z0.ZJ):NR:=⟨r.name,r.k,r.n,r.conds.map JE⟩
def JD(k n:Int)(x:Bool)(rs:List Z0.ZJ):Bool:=Z0.xU ⟨k,n,x,rs⟩
theorem Cx{c:Z0.YK}(hr:Z0.Wn c=true)(hn:Z0.Pv c):(((JE c).a:Nat):Int)=c.a/\(((JE c).o:Nat):Int)=c.o/\(((JE c).m:Nat):Int)=c.m/\(((JE c).v:Nat):Int)=c.v/\(JE c).right:=by
 obtain⟨a,o,m,v⟩:=c;unfold Z0.Wn Zh.Xr at hr;unfold Z0.Pv at hn;have h:=ala hr;dsimp only at h hn;unfold JE Z5.right Yf;dsimp only;refine⟨jO,jO,jO,jO,jO,jO,?_,jO,jO⟩;rcases h.2.2.2.2 with A|A;·exact .inl jO
 ·exact .inr jO
theorem TK{k n:Int}{x:Bool}{rs:List Z0.ZJ}(h:JD k n x rs=true):X7.Zc k n=true/\rs.length<=500/\∀r∈rs,X7.Zc r.k r.n=true/\r.conds.length<=6/\∀c∈r.conds,Z0.Wn c=true:=by
 unfold JD Z0.xU at h;simp only[agc,aed,apa] at h;obtain⟨C,I,D⟩:=h;refine⟨C,I,λr hr=> ?_⟩;have A:=D r hr;unfold Z0.V2 at A;simp only[agc,aed,apa] at A;exact⟨A.2.1,A.2.2.1,A.2.2.2⟩
theorem uh{N:Nat}{W:World}{ua:Option Addr}{uc:Nat}{cs:List Z0.YK}(h:Z0.Xv N W ua cs)(hr:∀c∈cs,Z0.Wn c=true)(hn:∀c∈cs,Z0.Pv c):YX N W (.slice ua cs.length uc) (cs.map JE):=by
 refine⟨ua,uc,by rw[aad],λk c hk=> ?_⟩;rw[ada] at hk;cases e:cs[k]? with
 |none=>rw[e] at hk;cases hk
 |some d=>
  rw[e] at hk;simp only[avf,akf] at hk;subst hk;obtain⟨D,off,A,Y,c0,c1,Z,T⟩:=h k d e;have hm:=af e;obtain⟨J,C,I,U,_⟩:=Cx (hr d hm) (hn d hm);rw[J,C,I,U];exact⟨D,off,A,Y,c0,c1,Z,T⟩
theorem GQ{k n:Int}{x:Bool}{N:Nat}{W:World}{a:Option Addr}{L c:Nat}{rs:List Z0.ZJ}(h:Z0.Yd N W (.slice a L c) rs)(hr:JD k n x rs=true)(hn:∀r∈rs,∀c∈r.conds,Z0.Pv c):UI N W a (rs.map SG):=by
 obtain⟨a',T,J,h⟩:=h;obtain⟨rfl,rfl⟩:a=a'/\c=T:=by injection J with A C I;exact⟨A,I⟩
 intro i r hi;rw[ada] at hi;cases e:rs[i]? with
 |none=>rw[e] at hi;cases hi
 |some d=>
  rw[e] at hi;simp only[avf,akf] at hi;subst hi;obtain⟨g,off,ua,uc,A,C,c0,c1,U,D,hc⟩:=h i d e;have hm:=af e;exact⟨g,off,_,A,C,c0,c1,U,D,uh hc ((TK hr).2.2 d hm).2.2 (hn d hm)⟩
def ap2(k n:Int)(x:Bool)(rs:List Z0.ZJ)(l:List Z4.Z2):Prop:=JD k n x rs=true/\Z4.Zt l/\∀r∈rs.map SG,0<=Z4.firstIdx (Z4.RI r.nm) l/\r.cs.any VF=false
theorem Cw{k n:Int}{x:Bool}{rs:List Z0.ZJ}{lo L Cm:Nat}{v:Value}(sv:Value)(l:List Z4.Z2)(hL:rs.length=L)(Xl:L<=41)(Ip:∀r∈rs,r.name.size<=60)(hcs:∀r∈rs,r.conds.length<=12)(hcm:JD k n x rs=true->∀r∈rs,r.conds.length<=Cm)(ao1:Cm<=12)(hn:∀r∈rs,∀c∈r.conds,Z0.Pv c)(I:NT L Cm<=10000)(Z:l.length<=40)(T:∀r∈l,r.name.size<=60)(w:World)(hp:Zh.Xb w)(hR:Z0.YW TR TC lo w v rs)(D:Z4.X2 w sv l):
 Calls prog 10 #[.agg #[.int .i64 k,.int .i64 n,.bool x,v],sv] w λe w'=>o9 (zI (JD k n x rs) l (rs.map SG)) ((rs.map SG).any (Vg l)) L Cm w e w'\/(ap2 k n x rs l/\ed (rs.map SG) l k n x w e w'):=by
 obtain⟨a,c,hv⟩:=hR.slice;rw[hL] at hv;subst hv;obtain⟨sa,sc,hsv,tR⟩:=id D;subst hsv;have hI:=hR.toI;have hlen:(rs.map SG).length=L:=by rw[aad,hL]
 have U:∀W,Below w.heap.size w W->Calls prog 75 #[.agg #[.int .i64 k,.int .i64 n,.bool x,.slice a L c]] W λe w'=>e=.returned (.bool (JD k n x rs))/\Below W.heap.size W w':=λW hb=>
  Z0.zS (p:=⟨k,n,x,rs⟩) ⟨by show rs.length<=_;omega,λr hr=>⟨aO (Ip r hr) jD,aO (hcs r hr) jD⟩⟩ W (hR.below hb)
 have Y:JD k n x rs=true->∀r∈rs.map SG,r.nm.size<=1000/\r.cs.length<=1000/\∀c∈r.cs,c.right:=λhr r hm=>by
  obtain⟨d,hd,rfl⟩:=ai.1 hm;refine⟨aO (Ip d hd) jD,?_,λc hc=> ?_⟩;·show(d.conds.map JE).length<=_;rw[aad];exact aO (hcs d hd) jD
  ·obtain⟨q,hq,rfl⟩:=ai.1 (show c∈d.conds.map JE from hc);exact(Cx (((TK hr).2.2 d hd).2.2 q hq) (hn d hd q hq)).2.2.2.2
 have hres:=uE (V:=ap2 k n x rs l) (C:=zI (JD k n x rs) l (rs.map SG)) (N:=w.heap.size) (L:=L) (c:=c) (Cm:=Cm) (a:=a) (pr:=rs.map SG) (k:=k) (n:=n) (x:=x) sa sc l (λ_=>hlen) jO I w (λA=>GQ hI A.1 hn) (aR _) jO D
  (λW hb=>by
    refine(zH (tL:=JD k n x rs) (N:=w.heap.size) (L:=L) (c:=c) (a:=a) (pr:=rs.map SG) (k:=k) (n:=n) (x:=x) sa sc l (λ_=>hlen) jO W (λhr=>(GQ hI hr hn).below hb (aR _)) hb.size Z (λr hr=>aO (T r hr) jD) (D.below hb) (hp.below hb) (λW' hb'=>U W' (hb.trans (hb'.mono hb.size))) Y).mono ?_;rintro e w' ⟨z,ev,rfl,hC,hb2⟩;refine⟨z,ev,rfl,hC,λh0=> ?_,hb2⟩;subst h0;cases J:JD k n x rs with
    |false=>have:=hC.1 J;omega
    |true=>
     rcases hC.2 J with⟨h,_⟩|⟨h1,h2⟩;·omega
     ·exact⟨J,h1,h2.ok rfl⟩)
  (λA=>A.2.1) (λA r hr=>(A.2.2 r hr).1) (λA=>Y A.1)
  (λA r hr=>by obtain⟨d,hd,rfl⟩:=ai.1 hr;show(d.conds.map JE).length<=_;rw[aad];exact hcm A.1 d hd)
  jO
  (λA W hb=>by have h:=U W hb;rw[A.1] at h;exact h)
  (λA=>⟨(TK A.1).1,λr hr=>by obtain⟨d,hd,rfl⟩:=ai.1 hr;exact((TK A.1).2.2 d hd).1⟩)
 exact hres
end Go.Proofs.YtclgigmgbebhgaaGreatDoor
