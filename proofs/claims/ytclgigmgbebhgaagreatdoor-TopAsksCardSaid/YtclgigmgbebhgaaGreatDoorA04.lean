/- TopAsks: part 4: TopTree TopGenW. -/
import Derived.BigQuiet
import Derived.Laws.EntriesVeiled
import Derived.Test.YtclgigmgbebhgaaGreatDoorA03
set_option linter.unusedVariables false
set_option linter.unusedSimpArgs false
set_option maxRecDepth 100000
set_option maxHeartbeats 16000000
namespace Go.Proofs.YtclgigmgbebhgaaGreatDoor
open Tryz
open Go Go.Proofs Go.RowKit
variable {xs:List Value} {LO O N:Nat} {ad:Option Addr} {W a w:World}
abbrev PS:Nat:=294
def PQ(x:VH):List Value:=[.bool x.leaf,.int .u32 x.num,.int .i64 x.place,.int .i64 x.low,.int .i64 x.high]
def UA(l:List VH):List Value:=l.flatMap PQ
theorem CC(a b:List VH):UA (a++b)=UA a++UA b:=by unfold UA;rw[aca]
theorem ed:(prog.info? PS).map (λi=>(i.zero,i.size,i.bytes))=some (some (.agg #[.bool false,.int .u32 0,.int .i64 0,.int .i64 0,.int .i64 0]),5,32):=jK
theorem Y1 {t:TypeId}{cs:Array Value} (h:cs.toList=xs):∀j u,xs[j]? =some u->(W.alloc (.cells cs t)).cell? ((⟨W.heap.size,0,none⟩:Addr).add j)=some u:=by
 intro j u A;have e:=(Z8.new W t cs).cell j;rw[show(⟨W.heap.size,0,none⟩:Addr).add j=⟨W.heap.size,j,none⟩ by simp[Addr.add];omega,e,<-aga,h,A]
structure EK(LO O:Nat)(W:World)(v:Value)(t:List VH):Prop where
 blk:Z8 W O 290 #[v]
 own:W.ownsRow LO PS 5 v t.length (UA t)
 lo:LO<=O
def GZ(LO O:Nat)(w w':World):Prop:=Below LO w w'/\w.heap.size<=w'.heap.size/\∀k o,w.heap[k]? =some o->k≠O->(∀cs f,o≠.cells cs PS f)->w'.heap[k]? =some o
theorem GZ.trans {b c:World}(h:GZ LO O a b)(k:GZ LO O b c):GZ LO O a c:=⟨h.1.trans k.1,aO h.2.1 k.2.1,λj o D C A=>k.2.2 j o (h.2.2 j o D C A) C A⟩
theorem GZ.blk {b:World}(h:GZ LO O a b){B:Nat}{t:TypeId}{cs:Array Value}(C:Z8 a B t cs)(A:B≠O)(ht:t≠PS):Z8 b B t cs:=h.2.2 B _ C A (λcs f e=>by
 injection e with _ e2;exact ht e2)
theorem EK.drew{v:Value}{t:List VH}(h:EK LO O w v t):EK LO O w.drew v t:=⟨h.blk,h.own.drew,h.lo⟩
theorem GZ.Pj {w':World}(h:GZ LO O w.drew w'):GZ LO O w w':=⟨((aG LO w).drew).trans h.1,h.2.1,h.2.2⟩
theorem YU {t:Nat}{v:Value}{e s n:Nat} {cs:Array Value}(h:W.ownsRow LO e s v n xs)(A:Z8 W O t cs)(ht:e≠t):v.ownBlock≠some O:=by
 rcases h.2 with⟨rfl,_⟩|⟨g,c,I,rfl,_,C,_⟩;·intro e;cases e
 ·intro e;have e:g=O:=au e;subst e;have:=C.symm.trans A;injection this with this;injection this with _ D;exact absurd D ht
theorem EJ {v:Value}{t:List VH}(n:VH)(w:World)(h:EK LO O w v t)(hlen:t.length+1<=1000000)(U:LO<=w.heap.size):
 Calls prog 245 #[.agg #[.bool n.leaf,.int .u32 n.num,.int .i64 n.place,.int .i64 n.low,.int .i64 n.high],.pointer (some ⟨O,0,none⟩)] w λe w'=>e=.returned (.int .i64 t.length)/\∃v',EK LO O w' v' (t++[n])/\GZ LO O w w':=by
 obtain⟨hb,ho,NL⟩:=h;obtain⟨i0,hi,hz0,hz1,hz2⟩:=ZQ ed;obtain⟨L,hL⟩:=jX t.length;rw[hL] at ho hlen ⊢;have hno:=YU ho hb jD;obtain⟨va,vc,rfl⟩:=ZK ho;have HTL:Hid ((t++[n]).length=L+1):=by show _=_;rw[ay,hL];rfl
 have HTF:Hid (UA (t++[n])=UA t++PQ n):=by show _=_;rw[CC];simp[UA]
 have HO:=aT ho;have HBk:=aT hb;have dZ:=aT hno;have c0:((w.alloc (.cells #[.bool n.leaf,.int .u32 n.num,.int .i64 n.place,.int .i64 n.low,.int .i64 n.high] PS)).cell? ⟨O,0,none⟩)=some (.slice va L vc):=by have:=(hb.alloc (.cells #[.bool n.leaf,.int .u32 n.num,.int .i64 n.place,.int .i64 n.low,.int .i64 n.high] PS)).cell 0;simpa using this
 obtain⟨x0,x1,x2,x3,x4⟩:=(Z8.new w PS #[.bool n.leaf,.int .u32 n.num,.int .i64 n.place,.int .i64 n.low,.int .i64 n.high]).q5;have C:=aT ((aG w.heap.size w).alloc (aP _) (.cells #[.bool n.leaf,.int .u32 n.num,.int .i64 n.place,.int .i64 n.low,.int .i64 n.high] PS));have xO:=aT (ho.alloc (.cells #[.bool n.leaf,.int .u32 n.num,.int .i64 n.place,.int .i64 n.low,.int .i64 n.high] PS));have Y:=aT (hb.alloc (.cells #[.bool n.leaf,.int .u32 n.num,.int .i64 n.place,.int .i64 n.low,.int .i64 n.high] PS));clear hb ho hno hL;go_enter func245,ntmps245;go_upto_region 1 with fail;generalize w.alloc (.cells #[.bool n.leaf,.int .u32 n.num,.int .i64 n.place,.int .i64 n.low,.int .i64 n.high] PS)=w1 at*;have hs1:LO<=w1.heap.size:=aO U C.size;go_upto_region 2 with(first|(refine Great.wpList_buildSliceTo rfl 290 PS 1 _ rfl _ rfl _ rfl underlying290 #[.bool n.leaf,.int .u32 n.num,.int .i64 n.place,.int .i64 n.low,.int .i64 n.high] jK ?_)|(at_builtin;refine aea _ rfl _ _ 290 rfl LO PS i0 (.agg #[.bool false,.int .u32 0,.int .i64 0,.int .i64 0,.int .i64 0]) 5 32 underlying290 hi hz0 hz1 hz2 rfl jD _ L _ rfl (xO.alloc _) ⟨w1.heap.size,0,none⟩ 1 1 (PQ n) rfl ?c1 ?c2 ?c3 ?c4 ?c5 ?c6 ?_;(case c1=>rfl);(case c2=>exact Y1 rfl);(case c3=>intro u hu;unfold PQ at hu;simp only[abf,akf,auf] at hu;rcases hu with rfl|rfl|rfl|rfl|rfl<;>rfl);(case c4=>unfold maxLen;omega);(case c5=>omega);(case c6=>simp;omega);intro v' T A J _;obtain⟨sa,Z,rfl⟩:=ZK A;have I:=Zi (aeb w1 _ _) J;have D:Z8 T O 290 #[.slice va L vc]:=Y.kept I (λe=>dZ e.symm);have z0:=D.frozen 0;have e0:=D.cell 0;(simp only[ak,aL] at e0)))
 have kw:IntKind.i64.wrap ((L:Int)+1-1)=(L:Int):=by rw[aJ _ jO];omega
 have HK:Hid (EK LO O (T.setCell ⟨O,0,none⟩ (.slice sa (L+1) Z)) (.slice sa (L+1) Z) (t++[n])):=⟨by simpa using D.set 0 (.slice sa (L+1) Z),by rw[HTL.out,HTF.out];exact Lr A D jD,NL⟩;have HFr:Hid (GZ LO O w (T.setCell ⟨O,0,none⟩ (.slice sa (L+1) Z))):=by
  refine⟨((C.mono U).grown I hs1 (λr e=>(HO.lt r e).1)).setCell (p:=⟨O,0,none⟩) NL _,by rw[World.size_setCell];exact aO C.size I.size,λk o hk h1 h3=> ?_⟩;rw[afd T ⟨O,0,none⟩ _ k h1];have uz:w1.heap[k]? =some o:=(C.block k (aab.1 hk).1).trans hk;refine(I.block k (aab.1 uz).1 (λe=> ?_)).trans uz;rcases HO.out.2 with⟨e2,_⟩|⟨g1,c1,cur,e2,_,hg,_⟩;·rw[e2] at e;cases e
  ·rw[e2] at e;have e:k=g1:=au e;subst e;exact h3 cur _ (au (hk.symm.trans hg))
 generalize T.setCell ⟨O,0,none⟩ (.slice sa (L+1) Z)=w7 at*;have q0:=HK.blk.e0;clear e0 z0;go_wp2_with fail;go_ret;exact⟨rfl,_,HK,HFr⟩
def T7(N:Nat)(W:World)(ad:Option Addr)(l:List Nat):Prop:=∀(k n:Nat),l[k]? =some n->∃g off,ad=some ⟨g,off,none⟩/\g<N/\W.cell? ⟨g,off+k,none⟩=some (.int .u32 n)
theorem T7.below{K:Nat}{W':World}(hb:Below K W W')(hN:N<=K) {l:List Nat}(h:T7 N W ad l):T7 N W' ad l:=λk n hk=>by
 obtain⟨g,off,e,hl,A⟩:=h k n hk;exact⟨g,off,e,hl,ZZ hb hN hl A⟩
theorem T7.drop{g off:Nat}{l:List Nat}(h:T7 N W (some ⟨g,off,none⟩) l)(j:Nat):T7 N W (some ⟨g,off+j,none⟩) (l.drop j):=λk n hk=>by
 rw[avf] at hk;obtain⟨g',A,e,hl,C⟩:=h _ n hk;have e:=au e;injection e with e1 e2;subst e1 e2;exact⟨g,off+j,rfl,hl,by rw[aya];exact C⟩
theorem T7.take {l:List Nat}(h:T7 N W ad l)(j:Nat):T7 N W ad (l.take j):=λk n hk=>by
 rw[aif] at hk;split at hk;·exact h k n hk
 ·cases hk
theorem ND{LO O Pp Gp N:Nat}(hN:N<=LO)(hP:Pp≠O)(hG:Gp≠O):∀(K:Nat) (l:List Nat) (L:Nat),l.length=L->L<=K->0<L->L<=4096->∀(at_:Nat),at_<=900000->∀(ad:Option Addr) (c:Nat) (v:Value) (t:List VH) (w:World),
 EK LO O w v t->Z8 w Pp 351 #[.func (.func 245) #[] #[.pointer (some ⟨O,0,none⟩)]]->
 Z8 w Gp 352 #[.func (.func 246) #[] #[.pointer (some ⟨Pp,0,none⟩),.pointer (some ⟨Gp,0,none⟩)]]->
 T7 N w ad l->L<=c->c<=9223372036854775807->t.length+2*L<=900000->at_+L<=900000->LO<=w.heap.size->
 Calls prog 246 #[.slice ad L c,.int .i64 at_,.pointer (some ⟨Pp,0,none⟩),.pointer (some ⟨Gp,0,none⟩)] w
  λe w'=>∃(i:Nat) (v':Value) (t':List VH),e=.returned (.int .i64 i)/\EK LO O w' v' (t++t')/\GZ LO O w w'/\UB (t++t') i l at_/\i+1=(t++t').length/\t'.length+1<=2*L
 |0,l,L,_,hk,h0,_,_,_,_,_,_,_,_,_,_,_,_,_,_,_,_,_=>jO
 |K+1,l,L,hL,hk,h0,XA,at_,hat,ad,c,v,t,w,ht,hp,hg,hm,hc,hcm,im,aB4,U=>by
  have HT:=aT ht;have HP:=aT hp;have HGp:=aT hg;have HM:=aT hm;have p0:=hp.e0;have g0:=hg.e0;have HL:=aT hL;clear ht hp hg hm hL;by_cases h1:L=1
  ·subst h1;obtain⟨n,rfl⟩:∃n,l=[n]:=List.length_eq_one_iff.1 HL;obtain⟨b,off,rfl,Y,x0⟩:=HM 0 n rfl;rw[aec] at x0;go_enter func246,ntmps246;go_upto_region 2 with fail
   go_region_held3 (λw'=>w'.cell? ⟨Pp,0,none⟩=some (.func (.func 245) #[] #[.pointer (some ⟨O,0,none⟩)])/\w'.cell? ⟨b,off,none⟩=some (.int .u32 n)) (first|exact⟨p0,x0⟩|exact hS) (first
    |(go_at_call 245
      refine(EJ ⟨true,n,(at_:Int),0,0⟩ _ HT.drew jO U).mono ?_;rintro e w2 ⟨rfl,v2,h2,A⟩;have hS:=And.intro (by simpa using (GZ.blk A HP hP jD).cell 0:w2.cell? ⟨Pp,0,none⟩=some (.func (.func 245) #[] #[.pointer (some ⟨O,0,none⟩)])) (ZZ A.1 hN Y x0);have L8:=aT h2;have T:=aT A;clear h2 A))
   go_wp2_with fail;go_ret;exact⟨t.length,v2,[⟨true,n,(at_:Int),0,0⟩],rfl,L8,T.Pj,.leaf jS,jS,jS⟩
  ·obtain⟨n0,hn0⟩:∃n,l[0]? =some n:=⟨_,aM (by rw[HL.out];exact h0)⟩;obtain⟨b,off,rfl,Y,_⟩:=HM 0 n0 hn0;obtain⟨H,hH⟩:=jX (L/2);have hH1:1<=H:=jO;have hH2:H<L:=jO;obtain⟨nh,hnh⟩:∃n,l[H]? =some n:=⟨_,aM (by rw[HL.out];exact hH2)⟩;obtain⟨b',ao7,e',aB5,x0⟩:=HM H nh hnh;injection au e' with e1 e2;subst e1 e2;have h1z:((L:Int) == 1)=false:=by rw[af];omega
   have hq:(L:Int)/2=(H:Int):=jO;have hq2:Int.tdiv (L:Int) 2=(H:Int):=by rw[aqd jO];exact hq
   have aB6:=jZ H;have aB7:(H:Int)<=(L:Int):=jO;have aB8:(H:Int)<(L:Int):=jO;have aB9:(H:Int)<=(c:Int):=jO;have HHd:Hid (L/2=H):=hH;have HNH:=aT hnh;clear hn0 hnh hH;have IH1:=aT (ND hN hP hG K (l.take H) H (by rw[abg,HL.out];omega) jO jO jO at_ jO (some ⟨b,off,none⟩) H v t w.drew HT.drew HP HGp (HM.take H) (aP _) jO jO jO U);go_enter func246,ntmps246;go_upto_region 4 with fail;have D:Hid (∀W:World,∀{B1:Nat} {t1:TypeId} {f:Value},Z8 W B1 t1 #[f]->W.cell? ⟨B1,0,none⟩=some f):=λW B1 t1 f h=>by simpa using h.cell 0
   go_region_held3 (λw'=>w'.cell? ⟨Gp,0,none⟩=some (.func (.func 246) #[] #[.pointer (some ⟨Pp,0,none⟩),.pointer (some ⟨Gp,0,none⟩)])) (first|exact g0|exact hS) (first
    |(go_at_call 246
      refine IH1.mono ?_;rintro e w2 ⟨i1,v1,t1,rfl,h2,A,I,C,J⟩;have hS:=D _ (GZ.blk A HGp hG jD);have Un:=aT h2;have T:=aT A.Pj;have tJ:=aT I;have dW:=aT C;have zz:=aT J;have Z:=aT (GZ.blk A HGp hG jD);have GY:=aT (GZ.blk A HP hP jD);have CB:=aT (HM.below A.1 hN);clear h2 A I C J))
   clear IH1 HT HP HGp p0 g0 hS;have aC0:(t++t1).length=t.length+t1.length:=ay;have aC1:=zz.out;have Pe:LO<=w2.heap.size:=aO U T.2.1;have g0:=D _ Z;have hcH:¬c=H:=jO;have aw2:IntKind.i64.wrap ((at_:Int)+(H:Int))=(at_:Int)+(H:Int):=aJ _ jO;have lw:((L-H:Nat):Int)=(L:Int)-(H:Int):=jO;have IH2:=aT (ND hN hP hG K (l.drop H) (L-H) (by rw[aia,HL.out]) (by have:=HHd.out;omega) jO jO (at_+H) jO (some ⟨b,off+H,none⟩) (c-H) v1 (t++t1) w2.drew Un.drew GY Z (CB.drop H) jO jO jO jO Pe);rw[avd] at IH2;go_upto_region 5 with fail
   go_region_held3 (λw'=>w'.cell? ⟨Gp,0,none⟩=some (.func (.func 246) #[] #[.pointer (some ⟨Pp,0,none⟩),.pointer (some ⟨Gp,0,none⟩)])) (first|exact g0|exact hS) (first
    |(go_at_call 246
      refine IH2.mono ?_;rintro e w3 ⟨i2,v2,t2,rfl,h2,A,I,C,J⟩;have hS:=D _ (GZ.blk A Z hG jD);have dV:=aT h2;have zy:=aT (T.trans A.Pj);have ao8:=aT I;have HL2:=aT C;have nA:=aT J;have GX:=aT (GZ.blk A GY hP jD);have CA:=aT (CB.below A.1 hN);clear h2 A I C J))
   clear IH2 Un GY Z CB T hS g0;have ao9:(t++t1++t2).length=t.length+t1.length+t2.length:=by rw[ay,ay]
   have aC2:=nA.out;have xR:LO<=w3.heap.size:=aO U zy.2.1;have p0:=D _ GX;have x1:=ZZ zy.1 hN Y x0;go_upto_region 6 with fail
   go_region_held3 (λw'=>w'.cell? ⟨Pp,0,none⟩=some (.func (.func 245) #[] #[.pointer (some ⟨O,0,none⟩)])/\w'.cell? ⟨b,off+H,none⟩=some (.int .u32 nh)) (first|exact⟨p0,x1⟩|exact hS) (first
    |(go_at_call 245
      refine(EJ ⟨false,nh,0,i1,i2⟩ _ dV.drew jO xR).mono ?_;rintro e w4 ⟨rfl,v4,h4,f4⟩;have hS:=And.intro (D _ (GZ.blk f4 GX hP jD)) (ZZ f4.1 hN Y x1);have mj:=aT h4;have xN:=aT (zy.trans f4.Pj);clear h4 f4))
   go_wp2_with fail;go_ret;have e4:t++t1++t2++[⟨false,nh,0,i1,i2⟩]=t++(t1++t2++[⟨false,nh,0,i1,i2⟩]):=jS;have e5:((t++t1++t2).length:Int)=(t.length:Int)+((t1.length:Int)+(t2.length:Int)):=by rw[ao9];omega
   refine⟨(t++t1++t2).length,v4,t1++t2++[⟨false,nh,0,i1,i2⟩],by rw[e5];rfl,by rw[<-e4];exact mj,xN,?_,by simp;omega,by simp;omega⟩;have hh:l.length/2=H:=by rw[HL.out];exact HHd
   refine .node (lo:=i1) (hi:=i2) (by rw[HL.out];omega) ?_ ?_ ?_;·rw[<-e4,aae (aP _),alc,hh,aef,HNH.out];rfl
   ·rw[hh,<-e4,aba];exact tJ.app _
   ·rw[hh,<-e4];exact ao8.app _
theorem Cz (l:List Nat)(L:Nat)(hL:l.length=L)(XA:L<=4096)(hr:l.Pairwise (λa b=>a<b))(ad:Option Addr)(c:Nat)(w:World)(hm:T7 N w ad l)(hc:L<=c)(hcm:c<=9223372036854775807)(hN:N<=w.heap.size):
 Calls prog 174 #[.slice ad L c] w λe w'=>∃(v:Value) (t:List VH),e=.returned (.tuple #[v,.int .i64 0])/\w'.ownsRow w.heap.size PS 5 v t.length (UA t)/\Below w.heap.size w w'/\t.length<=9000/\((l=[]/\t=[⟨true,0,-1,0,0⟩])\/(0<L/\UB t (t.length-1) l 0)):=by
 have HL:=aT hL;have HM:=aT hm;have HR:=aT hr;clear hL hm hr;go_enter func174,ntmps174;go_upto_region 2 with fail;go_loopg [4] (L+1) (λgg iv wr=>∃i:Nat,1<=i/\i<=L+1/\(i=L+1->L=0)/\L+1-i<gg/\iv=.int .i64 (i:Int)/\Hid (Below w.heap.size w wr));case atStart=>exact⟨1,jO,jO,jO,jO,rfl,aG _ _⟩
 case round=>
  obtain⟨i,tI,tM,tH,VM,rfl,A⟩:=hrel;by_cases hlt:i<L
  ·have Zc:(i:Int)<(L:Int):=by omega
   have iz0:=jZ i;have jz0:(0:Int)<=((i-1:Nat):Int):=jO;have jz1:((i-1:Nat):Int)<(L:Int):=jO;have jw:IntKind.i64.wrap ((i:Int)-1)=((i-1:Nat):Int):=by rw[aJ _ jO];omega
   obtain⟨x,hx⟩:∃x,l[i]? =some x:=⟨_,aM (by rw[HL.out];exact hlt)⟩;obtain⟨y,hy⟩:∃x,l[i-1]? =some x:=⟨_,aM (by rw[HL.out];omega)⟩;obtain⟨g,off,rfl,Va,x0⟩:=HM i x hx;obtain⟨g2,aC3,e2,_,y0⟩:=HM (i-1) y hy;injection au e2 with e3 e4;subst e3 e4;have x0:=ZZ A hN Va x0;have y0:=ZZ A hN Va y0;have hxy:y<x:=by obtain⟨h1,rfl⟩:=aq.1 hx;obtain⟨C,rfl⟩:=aq.1 hy;exact amb.1 HR (i-1) i C h1 jO
   have hle:¬(x:Int)<=(y:Int):=jO;have iw:=jW i;clear hx hy hxy;go_upto_region 4 with fail;go_region;have D:=aT A.drew;clear A x0 y0;go_wp2_with fail;go_roundg (L+1-i);case measure=>omega
   case rel=>exact⟨i+1,jO,jO,jO,jO,by go_num,D⟩
  ·have Zc:¬(i:Int)<(L:Int):=by omega
   have hmz:¬(4096:Int)<(L:Int):=jO;by_cases h0:L=0
   ·subst h0;have hnil:l=[]:=alb.1 HL;have HN:=aT hnil
    go_wp2_with (refine Great.wpList_buildSliceTo rfl 290 PS 1 _ rfl _ rfl _ rfl underlying290 #[.bool true,.int .u32 0,.int .i64 (-1),.int .i64 0,.int .i64 0] jK ?_)
    go_ret2;exact⟨_,rfl,[⟨true,0,-1,0,0⟩],World.ownsRow_lit (base:=w.heap.size) wr #[.bool true,.int .u32 0,.int .i64 (-1),.int .i64 0,.int .i64 0] 1 A.size jD rfl,A.alloc A.size _,jS,by first|exact .inl ⟨HN,rfl⟩|rfl⟩
   ·have mi:((L:Int) == 0)=false:=by rw[af];omega
    have HOa:=aT (Z8.new wr 290 #[.slice none 0 0]);have U:=aT (A.alloc A.size (.cells #[.slice none 0 0] 290));have ap0:w.heap.size<=wr.heap.size:=A.size;clear A;go_upto_region 11 with fail;generalize wr.alloc (.cells #[.slice none 0 0] 290)=wa at*;generalize wr.heap.size=O at*;have HPa:=aT (Z8.new wa 351 #[.func (.func 245) #[] #[.pointer (some ⟨O,0,none⟩)]]);have dU:=aT (HOa.alloc (.cells #[.func (.func 245) #[] #[.pointer (some ⟨O,0,none⟩)]] 351));have Z:=aT (U.alloc U.size (.cells #[.func (.func 245) #[] #[.pointer (some ⟨O,0,none⟩)]] 351));go_upto_region 12 with fail;generalize wa.alloc (.cells #[.func (.func 245) #[] #[.pointer (some ⟨O,0,none⟩)]] 351)=wb at*;generalize wa.heap.size=Pp at*;have J:=aT (Z8.new wb 352 #[.func (.func 246) #[] #[.pointer (some ⟨Pp,0,none⟩),.pointer (some ⟨wb.heap.size,0,none⟩)]]);have HPb:=aT (HPa.alloc (.cells #[.func (.func 246) #[] #[.pointer (some ⟨Pp,0,none⟩),.pointer (some ⟨wb.heap.size,0,none⟩)]] 352));have I:=aT (dU.alloc (.cells #[.func (.func 246) #[] #[.pointer (some ⟨Pp,0,none⟩),.pointer (some ⟨wb.heap.size,0,none⟩)]] 352));have Y:=aT (Z.alloc Z.size (.cells #[.func (.func 246) #[] #[.pointer (some ⟨Pp,0,none⟩),.pointer (some ⟨wb.heap.size,0,none⟩)]] 352));go_upto_region 14 with fail;generalize wb.alloc (.cells #[.func (.func 246) #[] #[.pointer (some ⟨Pp,0,none⟩),.pointer (some ⟨wb.heap.size,0,none⟩)]] 352)=wc at*;generalize wb.heap.size=Gp at*;clear HOa U HPa dU Z;have g0:wc.cell? ⟨Gp,0,none⟩=some (.func (.func 246) #[] #[.pointer (some ⟨Pp,0,none⟩),.pointer (some ⟨Gp,0,none⟩)]):=by simpa using J.out.cell 0
    have IH:=aT (ND (LO:=w.heap.size) (N:=N) (O:=O) (Pp:=Pp) (Gp:=Gp) hN (λe=>by subst e;exact absurd (HPb.symm.trans I) (by intro h;injection h with h;injection h with _ C;exact absurd C jD)) (λe=>by subst e;exact absurd (J.symm.trans I) (by intro h;injection h with h;injection h with _ C;exact absurd C jD)) L l L HL (aP _) jO XA 0 jO ad c (.slice none 0 0) [] wc ⟨I,⟨rfl,.inl ⟨rfl,rfl⟩⟩,ap0⟩ HPb J (HM.below Y hN) hc hcm (by simp;omega) jO Y.size);go_wp2_with fail;refine IH.mono ?_;rintro e w2 ⟨i2,v2,t2,rfl,C,f2,T,hl2,hc2⟩;rw[ahe] at C T hl2;have Un:=aT C;have D:=aT (Y.trans f2.1);have dT:=aT T;have q0:w2.cell? ⟨O,0,none⟩=some v2:=by simpa using C.blk.cell 0
    clear C f2 T IH g0;go_wp2_with fail;go_ret2;refine⟨_,t2,rfl,Un.own,D,jO,.inr ⟨jO,?_⟩⟩;rw[<-hl2,Nat.add_sub_cancel];exact dT
end Go.Proofs.YtclgigmgbebhgaaGreatDoor
namespace Go.Proofs.YtclgigmgbebhgaaGreatDoor
open Tryz
open Go Go.Proofs
def G.sz(g:G):Nat:=g.l.length+g.n
theorem WJ(g:G)(xs:List Z9):(g.put xs).sz=g.sz+xs.length:=by
 show(g.l++xs).length+g.n=g.l.length+g.n+xs.length;rw[ay];omega
theorem UW(g:G)(m:Nat):(g.here m).sz=g.sz+1:=by
 show(g.l++[Zr m]).length+g.n=g.l.length+g.n+1;rw[ay];show g.l.length+1+g.n=_;omega
theorem OM(g:G):g.mark.sz=g.sz+1:=by
 show g.l.length+(g.n+1)=g.l.length+g.n+1;omega
theorem Xc(g:G)(c:Nat):(g.goes c).sz<=g.sz+1:=by
 unfold G.goes;split;·show g.l.length+(g.n+1)<=g.l.length+g.n+1;omega
 ·omega
theorem GB.ae2{g:G}(h:g.sz<=900000):GB g:=by
 unfold G.sz at h;exact⟨jO,jO⟩
theorem EI(wide:Bool)(next:Nat):∀(cs:List Z5) (g:G),(Zh wide next cs g).sz<=g.sz+8*cs.length
 |[],g=>by show g.sz<=_;omega
 |c::cs,g=>by have A:=EI wide next cs ((g.mark.put (XF c wide ((g.n+1:Nat):Int) next)).here (g.n+1));rw[UW,WJ,OM] at A;have:=NF (c:=c) (wide:=wide) (yes:=((g.n+1:Nat):Int)) (no:=(next:Int));rw[aj];show(Zh wide next cs _).sz<=_;omega
def We:List Z3->Nat
 |[]=>1
 |r::rs=>8*r.1.length+4+We rs
theorem EH(wide:Bool)(ow:Nat):∀(rs:List Z3) (g:G),(XO wide ow rs g).sz<=g.sz+We rs
 |[],g=>by show(g.put [ins 0x05 0 ow 0]).sz<=_;rw[WJ];exact aP _
 |(cs,code)::rs,g=>by show(XO wide ow rs ((((Zh wide (g.n+1) cs g.mark).goes code).put _).here (g.n+1))).sz<=_;have C:=EI wide (g.n+1) cs g.mark;have D:=Xc (Zh wide (g.n+1) cs g.mark) code;have A:=EH wide ow rs ((((Zh wide (g.n+1) cs g.mark).goes code).put [ins 0x05 0 (look ((Zh wide (g.n+1) cs g.mark).goes code).b code) 0]).here (g.n+1));rw[UW,WJ] at A;rw[OM] at C;simp only[aj,acg] at A;show _<=g.sz+(8*cs.length+4+We rs);exact aO A jO
theorem Q8(ow:Nat):∀(k:Nat) (l:List (Nat×Nat)) (g:G),l.length<=k->(ZI ow l g).sz<=g.sz+4*l.length+1/\(1<=l.length->(ZI ow l g).sz+3<=g.sz+4*l.length)
 |k,[],g,_=>by rw[XE,WJ];exact⟨jS,λh=>absurd h jS⟩
 |k,[(q,m)],g,_=>by rw[XD,WJ];exact⟨jS,λ_=>jS⟩
 |0,x::y::r,g,hk=>by simp at hk
 |k+1,x::y::r,g,hk=>by
  have D:2<=(x::y::r).length:=jS;rw[XY ow _ D];generalize x::y::r=l at*;have e1:(l.take (l.length/2)).length=l.length/2:=by rw[abg];omega
  have e2:(l.drop (l.length/2)).length=l.length-l.length/2:=by rw[aia]
  obtain⟨_,A⟩:=Q8 ow k (l.take (l.length/2)) (g.mark.put [ins 0x35 (l.getD (l.length/2) (0,0)).1 ((g.n+1:Nat):Int) 0]) jO;obtain⟨_,C⟩:=Q8 ow k (l.drop (l.length/2)) ((ZI ow (l.take (l.length/2)) (g.mark.put [ins 0x35 (l.getD (l.length/2) (0,0)).1 ((g.n+1:Nat):Int) 0])).here (g.n+1)) jO;rw[UW] at C;rw[WJ,OM] at A;simp only[aj,acg] at A;have A:=A jO;have C:=C jO;exact⟨jO,λ_=>jO⟩
theorem Ld:∀(l:List (Nat×Nat)) (g:G),(Zy l g).sz<=g.sz+l.length
 |[],g=>by show g.sz<=_;omega
 |p::r,g=>by have A:=Ld r (g.goes p.2);have:=Xc g p.2;show(Zy r (g.goes p.2)).sz<=_;rw[aj];omega
theorem mg(ow:Nat)(l:List (Nat×Nat))(g:G):(WQ ow l g).sz<=g.sz+5*l.length+2:=by
 unfold WQ;have A:=Ld l (g.put [ins 0x20 16 0 0]);have C:=(Q8 ow _ (l.map λp=>(p.1,look (Zy l (g.put [ins 0x20 16 0 0])).b p.2)) (Zy l (g.put [ins 0x20 16 0 0])) (aP _)).1;rw[aac] at C;rw[WJ] at A;simp only[aj,acg] at A;omega
def Xz:ZO->Nat
 | .rules _ rs=>We rs
 | .subs l=>5*l.length+2
theorem mf(ow:Nat)(p:ZO)(g:G):(VW ow p g).sz<=g.sz+Xz p:=by
 cases p with
 |rules wide rs=>exact EH wide ow rs g
 |subs l=>have:=mg ow l g;exact aO this (by show _<=g.sz+(5*l.length+2);omega)
def ZX:List (Nat×ZO)->Nat
 |[]=>2
 |p::ps=>6+Xz p.2+ZX ps
theorem Lc(ow:Nat):∀(ps:List (Nat×ZO)) (m:Nat) (g:G),(Yc ow (ps.map (·.2)) m g).sz+2+5*ps.length<=g.sz+ZX ps
 |[],m,g=>by show g.sz+2+_<=g.sz+2;simp
 |p::ps,m,g=>by have C:=Lc ow ps (m+1) (VW ow p.2 (g.here m));have A:=mf ow p.2 (g.here m);rw[UW] at A;rw[aj];show(Yc ow (ps.map (·.2)) (m+1) (VW ow p.2 (g.here m))).sz+_+_<=g.sz+(6+Xz p.2+ZX ps);omega
theorem EG:∀(ps:List (Nat×ZO)) (m:Nat),(Vt ps m).length=ps.length
 |[],_=>rfl
 |p::r,m=>by show(Vt r (m+1)).length+1=r.length+1;rw[EG r (m+1)]
theorem WI(d:Nat)(ps:List (Nat×ZO))(g:G):(Za d ps g).sz<=g.sz+ZX ps:=by
 unfold Za;have I:=Xc g d;have A:=(Q8 (look (g.goes d).b d) _ (Vt ps ((g.goes d).n+1)) ⟨(g.goes d).l,(g.goes d).n+ps.length,(g.goes d).b⟩ (aP _)).1;have C:=Lc (look (g.goes d).b d) ps ((g.goes d).n+1) (ZI (look (g.goes d).b d) (Vt ps ((g.goes d).n+1)) ⟨(g.goes d).l,(g.goes d).n+ps.length,(g.goes d).b⟩);rw[EG] at A;have D:(G.mk (g.goes d).l ((g.goes d).n+ps.length) (g.goes d).b).sz=(g.goes d).sz+ps.length:=by show(g.goes d).l.length+((g.goes d).n+ps.length)=(g.goes d).l.length+(g.goes d).n+ps.length;omega
 omega
theorem tG(Vy:Bool)(d:Nat)(p0 p1:List (Nat×ZO))(g:G):(UD Vy d p0 p1 g).sz<=g.sz+6+ZX p0+ZX p1:=by
 unfold UD;have I:=Xc g d;have D:((g.goes d).put [ins 0x15 NONE (look (g.goes d).b d) 0]).sz<=g.sz+2:=by rw[WJ];simp only[aj,acg];omega
 dsimp only;generalize (g.goes d).put [ins 0x15 NONE (look (g.goes d).b d) 0]=g1 at*;split;·have A:=WI d p0 ((g1.goes Zo).put [ins 0x45 Wj (look (g1.goes Zo).b Zo) 0]);have C:=Xc g1 Zo;rw[WJ] at A;simp only[aj,acg] at A;omega
 ·have A:=WI d p0 (g1.mark.put [ins 0x45 Wj ((g1.n+1:Nat):Int) 0]);have C:=WI d p1 ((Za d p0 (g1.mark.put [ins 0x45 Wj ((g1.n+1:Nat):Int) 0])).here (g1.n+1));rw[UW] at C;rw[WJ,OM] at A;simp only[aj,acg] at A;omega
theorem tF(m:Nat)(g:G):(Vr m g).sz=g.sz+2:=by
 unfold Vr;rw[WJ,UW];rfl
def T6(p:YH):Nat:=ZX p.p0+ZX p.p1+ZX p.p2+ZX p.p3+ZX p.p4
theorem ae3(p:YH):(gD p).sz<=40+T6 p:=by
 have J:XK.sz<=12:=jD;have I:=tG p.Vy p.d p.p0 p.p1 (Vr 1 XK);have D:=WI p.d p.p2 (Vr 2 (gA p));have A:=WI p.d p.p3 (Vr 3 (gB p));have C:=WI p.d p.p4 (Vr 4 (gC p));rw[tF] at I D A C;change (gA p).sz<=_ at I;change (gB p).sz<=_ at D;change (gC p).sz<=_ at A;change (gD p).sz<=_ at C;unfold T6;omega
theorem W6(ow:Nat):∀(k:Nat) (l:List (Nat×Nat)) (g:G),l.length<=k->Vc g (ZI ow l g)
 |k,[],g,_=>by rw[XE];exact Vc.put _ _
 |k,[(q,m)],g,_=>by rw[XD];exact Vc.put _ _
 |0,x::y::r,g,hk=>by simp at hk
 |k+1,x::y::r,g,hk=>by have A:2<=(x::y::r).length:=jS;rw[XY ow _ A];generalize x::y::r=l at*;exact((((Vc.mark g).trans (Vc.put _ _)).trans (W6 ow k (l.take (l.length/2)) _ (by rw[abg];omega))).trans (Vc.here _ _)).trans (W6 ow k (l.drop (l.length/2)) _ (by rw[aia];omega))
theorem UU(ow:Nat):∀(k:Nat) (l:List (Nat×Nat)) (g:G),l.length<=k->Wl g->Wl (ZI ow l g)
 |k,[],g,_,h=>by rw[XE];exact h.put _
 |k,[(q,m)],g,_,h=>by rw[XD];exact h.put _
 |0,x::y::r,g,hk,_=>by simp at hk
 |k+1,x::y::r,g,hk,h=>by have A:2<=(x::y::r).length:=jS;rw[XY ow _ A];generalize x::y::r=l at*;exact UU ow k _ _ (by rw[aia];omega) ((UU ow k _ _ (by rw[abg];omega) (h.mark.put _)).here _)
theorem TH:∀(l:List (Nat×Nat)) (g:G),Vc g (Zy l g)
 |[],g=>Vc.refl g
 |p::r,g=>(Vc.goes g p.2).trans (TH r _)
theorem M0:∀(l:List (Nat×Nat)) (g:G),Wl g->(∀p∈l,p.2<4294967296)->Wl (Zy l g)
 |[],_,h,_=>h
 |p::r,g,h,hl=>M0 r _ (h.goes (hl p jS)) (λq A=>hl q (by simp[A]))
theorem tE(ow:Nat)(l:List (Nat×Nat))(g:G):Vc g (WQ ow l g):=
 ((Vc.put g _).trans (TH l _)).trans (W6 ow _ _ _ (aP _))
theorem EF(ow:Nat)(p:ZO)(g:G):Vc g (VW ow p g):=by
 cases p with
 |rules wide rs=>exact NG wide ow rs g
 |subs l=>exact tE ow l g
theorem TG(ow:Nat):∀(ps:List ZO) (m:Nat) (g:G),Vc g (Yc ow ps m g)
 |[],_,g=>Vc.refl g
 |p::ps,m,g=>((Vc.here g m).trans (EF ow p _)).trans (TG ow ps (m+1) _)
end Go.Proofs.YtclgigmgbebhgaaGreatDoor
