/- TopFirst: part 4: TopTree TopGenW. -/
import Derived.BigQuiet
import Derived.Laws.EntriesVeiled
import Derived.Test.YtclgigmgbebhgaaGreatDoorF03
set_option linter.unusedVariables false
set_option linter.unusedSimpArgs false
set_option maxRecDepth 100000
set_option maxHeartbeats 16000000
namespace Go.Proofs.YtclgigmgbebhgaaGreatDoor
open Tryz
open Go Go.Proofs Go.RowKit
variable {xs:List Value} {LO O N:Nat} {ad:Option Addr} {W a w:World}
abbrev Pv:Nat:=294
def Pt(x:Vx):List Value:=[.bool x.leaf,.int .u32 x.num,.int .i64 x.place,.int .i64 x.low,.int .i64 x.high]
def Uk(l:List Vx):List Value:=l.flatMap Pt
theorem BU(a b:List Vx):Uk (a++b)=Uk a++Uk b:=by unfold Uk;rw[aca]
theorem dC:(prog.info? Pv).map (λi=>(i.zero,i.size,i.bytes))=some (some (.agg #[.bool false,.int .u32 0,.int .i64 0,.int .i64 0,.int .i64 0]),5,32):=jK
theorem YX {t:TypeId}{cs:Array Value} (h:cs.toList=xs):∀j u,xs[j]? =some u->(W.alloc (.cells cs t)).cell? ((⟨W.heap.size,0,none⟩:Addr).add j)=some u:=by
 intro j u C;have e:=(Z7.new W t cs).cell j;rw[show(⟨W.heap.size,0,none⟩:Addr).add j=⟨W.heap.size,j,none⟩ by simp[Addr.add];omega,e,<-aga,h,C]
structure Ej(LO O:Nat)(W:World)(v:Value)(t:List Vx):Prop where
 blk:Z7 W O 290 #[v]
 own:W.ownsRow LO Pv 5 v t.length (Uk t)
 lo:LO<=O
def Gq(LO O:Nat)(w w':World):Prop:=Below LO w w'/\w.heap.size<=w'.heap.size/\∀k o,w.heap[k]? =some o->k≠O->(∀cs f,o≠.cells cs Pv f)->w'.heap[k]? =some o
theorem Gq.trans {b c:World}(h:Gq LO O a b)(k:Gq LO O b c):Gq LO O a c:=⟨h.1.trans k.1,aO h.2.1 k.2.1,λj o I D C=>k.2.2 j o (h.2.2 j o I D C) D C⟩
theorem Gq.blk {b:World}(h:Gq LO O a b){B:Nat}{t:TypeId}{cs:Array Value}(C:Z7 a B t cs)(D:B≠O)(ht:t≠Pv):Z7 b B t cs:=h.2.2 B _ C D (λcs f e=>by
 injection e with _ e2;exact ht e2)
theorem Ej.drew{v:Value}{t:List Vx}(h:Ej LO O w v t):Ej LO O w.drew v t:=⟨h.blk,h.own.drew,h.lo⟩
theorem Gq.O3 {w':World}(h:Gq LO O w.drew w'):Gq LO O w w':=⟨((aG LO w).drew).trans h.1,h.2.1,h.2.2⟩
theorem YQ {t:Nat}{v:Value}{e s n:Nat} {cs:Array Value}(h:W.ownsRow LO e s v n xs)(I:Z7 W O t cs)(ht:e≠t):v.ownBlock≠some O:=by
 rcases h.2 with⟨rfl,_⟩|⟨g,c,J,rfl,_,D,_⟩;·intro e;cases e
 ·intro e;have e:g=O:=aq e;subst e;have:=D.symm.trans I;injection this with this;injection this with _ C;exact absurd C ht
theorem Ei {v:Value}{t:List Vx}(n:Vx)(w:World)(h:Ej LO O w v t)(hlen:t.length+1<=1000000)(VS:LO<=w.heap.size):
 Calls prog 245 #[.agg #[.bool n.leaf,.int .u32 n.num,.int .i64 n.place,.int .i64 n.low,.int .i64 n.high],.pointer (some ⟨O,0,none⟩)] w λe w'=>e=.returned (.int .i64 t.length)/\∃v',Ej LO O w' v' (t++[n])/\Gq LO O w w':=by
 obtain⟨hb,ho,U⟩:=h;obtain⟨i0,hi,hz0,hz1,hz2⟩:=ZP dC;obtain⟨L,hL⟩:=jX t.length;rw[hL] at ho hlen ⊢;have Y:=YQ ho hb jD;obtain⟨va,vc,rfl⟩:=ZI ho;have HTL:Hid ((t++[n]).length=L+1):=by show _=_;rw[ay,hL];rfl
 have HTF:Hid (Uk (t++[n])=Uk t++Pt n):=by show _=_;rw[BU];simp[Uk]
 have HO:=aT ho;have HBk:=aT hb;have dB:=aT Y;have c0:((w.alloc (.cells #[.bool n.leaf,.int .u32 n.num,.int .i64 n.place,.int .i64 n.low,.int .i64 n.high] Pv)).cell? ⟨O,0,none⟩)=some (.slice va L vc):=by have:=(hb.alloc (.cells #[.bool n.leaf,.int .u32 n.num,.int .i64 n.place,.int .i64 n.low,.int .i64 n.high] Pv)).cell 0;simpa using this
 obtain⟨x0,x1,x2,x3,x4⟩:=(Z7.new w Pv #[.bool n.leaf,.int .u32 n.num,.int .i64 n.place,.int .i64 n.low,.int .i64 n.high]).q5;have J:=aT ((aG w.heap.size w).alloc (aR _) (.cells #[.bool n.leaf,.int .u32 n.num,.int .i64 n.place,.int .i64 n.low,.int .i64 n.high] Pv));have xu:=aT (ho.alloc (.cells #[.bool n.leaf,.int .u32 n.num,.int .i64 n.place,.int .i64 n.low,.int .i64 n.high] Pv));have as8:=aT (hb.alloc (.cells #[.bool n.leaf,.int .u32 n.num,.int .i64 n.place,.int .i64 n.low,.int .i64 n.high] Pv));clear hb ho Y hL;go_enter func245,ntmps245;go_upto_region 1 with fail;generalize w.alloc (.cells #[.bool n.leaf,.int .u32 n.num,.int .i64 n.place,.int .i64 n.low,.int .i64 n.high] Pv)=w1 at*;have hs1:LO<=w1.heap.size:=aO VS J.size;go_upto_region 2 with(first|(refine Great.wpList_buildSliceTo rfl 290 Pv 1 _ rfl _ rfl _ rfl underlying290 #[.bool n.leaf,.int .u32 n.num,.int .i64 n.place,.int .i64 n.low,.int .i64 n.high] jK ?_)|(at_builtin;refine aea _ rfl _ _ 290 rfl LO Pv i0 (.agg #[.bool false,.int .u32 0,.int .i64 0,.int .i64 0,.int .i64 0]) 5 32 underlying290 hi hz0 hz1 hz2 rfl jD _ L _ rfl (xu.alloc _) ⟨w1.heap.size,0,none⟩ 1 1 (Pt n) rfl ?c1 ?c2 ?c3 ?c4 ?c5 ?c6 ?_;(case c1=>rfl);(case c2=>exact YX rfl);(case c3=>intro u hu;unfold Pt at hu;simp only[abb,ahd,arc] at hu;rcases hu with rfl|rfl|rfl|rfl|rfl<;>rfl);(case c4=>unfold maxLen;omega);(case c5=>omega);(case c6=>simp;omega);intro v' w6 C T _;obtain⟨sa,Z,rfl⟩:=ZI C;have I:=Zf (aeb w1 _ _) T;have D:Z7 w6 O 290 #[.slice va L vc]:=as8.kept I (λe=>dB e.symm);have z0:=D.frozen 0;have e0:=D.cell 0;(simp only[au,aM] at e0)))
 have kw:IntKind.i64.wrap ((L:Int)+1-1)=(L:Int):=by rw[aJ _ jO];omega
 have HK:Hid (Ej LO O (w6.setCell ⟨O,0,none⟩ (.slice sa (L+1) Z)) (.slice sa (L+1) Z) (t++[n])):=⟨by simpa using D.set 0 (.slice sa (L+1) Z),by rw[HTL.out,HTF.out];exact KV C D jD,U⟩;have HFr:Hid (Gq LO O w (w6.setCell ⟨O,0,none⟩ (.slice sa (L+1) Z))):=by
  refine⟨((J.mono VS).grown I hs1 (λr e=>(HO.lt r e).1)).setCell (p:=⟨O,0,none⟩) U _,by rw[World.size_setCell];exact aO J.size I.size,λk o hk h1 h3=> ?_⟩;rw[afc w6 ⟨O,0,none⟩ _ k h1];have tS:w1.heap[k]? =some o:=(J.block k (aac.1 hk).1).trans hk;refine(I.block k (aac.1 tS).1 (λe=> ?_)).trans tS;rcases HO.out.2 with⟨e2,_⟩|⟨g1,c1,cur,e2,_,hg,_⟩;·rw[e2] at e;cases e
  ·rw[e2] at e;have e:k=g1:=aq e;subst e;exact h3 cur _ (aq (hk.symm.trans hg))
 generalize w6.setCell ⟨O,0,none⟩ (.slice sa (L+1) Z)=w7 at*;have q0:=HK.blk.e0;clear e0 z0;go_wp2_with fail;go_ret;exact⟨rfl,_,HK,HFr⟩
def TS(N:Nat)(W:World)(ad:Option Addr)(l:List Nat):Prop:=∀(k n:Nat),l[k]? =some n->∃g off,ad=some ⟨g,off,none⟩/\g<N/\W.cell? ⟨g,off+k,none⟩=some (.int .u32 n)
theorem TS.below{K:Nat}{W':World}(hb:Below K W W')(hN:N<=K) {l:List Nat}(h:TS N W ad l):TS N W' ad l:=λk n hk=>by
 obtain⟨g,off,e,hl,C⟩:=h k n hk;exact⟨g,off,e,hl,ZY hb hN hl C⟩
theorem TS.drop{g off:Nat}{l:List Nat}(h:TS N W (some ⟨g,off,none⟩) l)(j:Nat):TS N W (some ⟨g,off+j,none⟩) (l.drop j):=λk n hk=>by
 rw[avg] at hk;obtain⟨g',C,e,hl,D⟩:=h _ n hk;have e:=aq e;injection e with e1 e2;subst e1 e2;exact⟨g,off+j,rfl,hl,by rw[aAb];exact D⟩
theorem TS.take {l:List Nat}(h:TS N W ad l)(j:Nat):TS N W ad (l.take j):=λk n hk=>by
 rw[aja] at hk;split at hk;·exact h k n hk
 ·cases hk
theorem Nj{LO O Pp Gp N:Nat}(hN:N<=LO)(hP:Pp≠O)(hG:Gp≠O):∀(K:Nat) (l:List Nat) (L:Nat),l.length=L->L<=K->0<L->L<=4096->∀(at_:Nat),at_<=900000->∀(ad:Option Addr) (c:Nat) (v:Value) (t:List Vx) (w:World),
 Ej LO O w v t->Z7 w Pp 351 #[.func (.func 245) #[] #[.pointer (some ⟨O,0,none⟩)]]->
 Z7 w Gp 352 #[.func (.func 246) #[] #[.pointer (some ⟨Pp,0,none⟩),.pointer (some ⟨Gp,0,none⟩)]]->
 TS N w ad l->L<=c->c<=9223372036854775807->t.length+2*L<=900000->at_+L<=900000->LO<=w.heap.size->
 Calls prog 246 #[.slice ad L c,.int .i64 at_,.pointer (some ⟨Pp,0,none⟩),.pointer (some ⟨Gp,0,none⟩)] w
  λe w'=>∃(i:Nat) (v':Value) (t':List Vx),e=.returned (.int .i64 i)/\Ej LO O w' v' (t++t')/\Gq LO O w w'/\Ul (t++t') i l at_/\i+1=(t++t').length/\t'.length+1<=2*L
 |0,l,L,_,hk,h0,_,_,_,_,_,_,_,_,_,_,_,_,_,_,_,_,_=>jO
 |K+1,l,L,hL,hk,h0,Xo,at_,hat,ad,c,v,t,w,ht,hp,hg,hm,hc,hcm,gX,aG3,VS=>by
  have HT:=aT ht;have HP:=aT hp;have Z:=aT hg;have HM:=aT hm;have p0:=hp.e0;have g0:=hg.e0;have HL:=aT hL;clear ht hp hg hm hL;by_cases h1:L=1
  ·subst h1;obtain⟨n,rfl⟩:∃n,l=[n]:=List.length_eq_one_iff.1 HL;obtain⟨b,off,rfl,tR,x0⟩:=HM 0 n rfl;rw[aec] at x0;go_enter func246,ntmps246;go_upto_region 2 with fail
   go_region_held3 (λw'=>w'.cell? ⟨Pp,0,none⟩=some (.func (.func 245) #[] #[.pointer (some ⟨O,0,none⟩)])/\w'.cell? ⟨b,off,none⟩=some (.int .u32 n)) (first|exact⟨p0,x0⟩|exact hS) (first
    |(go_at_call 245
      refine(Ei ⟨true,n,(at_:Int),0,0⟩ _ HT.drew jO VS).mono ?_;rintro e w2 ⟨rfl,v2,h2,C⟩;have hS:=And.intro (by simpa using (Gq.blk C HP hP jD).cell 0:w2.cell? ⟨Pp,0,none⟩=some (.func (.func 245) #[] #[.pointer (some ⟨O,0,none⟩)])) (ZY C.1 hN tR x0);have LD:=aT h2;have U:=aT C;clear h2 C))
   go_wp2_with fail;go_ret;exact⟨t.length,v2,[⟨true,n,(at_:Int),0,0⟩],rfl,LD,U.O3,.leaf jS,jS,jS⟩
  ·obtain⟨n0,hn0⟩:∃n,l[0]? =some n:=⟨_,aL (by rw[HL.out];exact h0)⟩;obtain⟨b,off,rfl,tR,_⟩:=HM 0 n0 hn0;obtain⟨H,hH⟩:=jX (L/2);have hH1:1<=H:=jO;have hH2:H<L:=jO;obtain⟨nh,hnh⟩:∃n,l[H]? =some n:=⟨_,aL (by rw[HL.out];exact hH2)⟩;obtain⟨b',as9,e',aG4,x0⟩:=HM H nh hnh;injection aq e' with e1 e2;subst e1 e2;have h1z:((L:Int) == 1)=false:=by rw[af];omega
   have hq:(L:Int)/2=(H:Int):=jO;have hq2:Int.tdiv (L:Int) 2=(H:Int):=by rw[aqc jO];exact hq
   have aG5:=jZ H;have aG6:(H:Int)<=(L:Int):=jO;have aG7:(H:Int)<(L:Int):=jO;have aG8:(H:Int)<=(c:Int):=jO;have HHd:Hid (L/2=H):=hH;have HNH:=aT hnh;clear hn0 hnh hH;have IH1:=aT (Nj hN hP hG K (l.take H) H (by rw[abg,HL.out];omega) jO jO jO at_ jO (some ⟨b,off,none⟩) H v t w.drew HT.drew HP Z (HM.take H) (aR _) jO jO jO VS);go_enter func246,ntmps246;go_upto_region 4 with fail;have D:Hid (∀W:World,∀{B1:Nat} {t1:TypeId} {f:Value},Z7 W B1 t1 #[f]->W.cell? ⟨B1,0,none⟩=some f):=λW B1 t1 f h=>by simpa using h.cell 0
   go_region_held3 (λw'=>w'.cell? ⟨Gp,0,none⟩=some (.func (.func 246) #[] #[.pointer (some ⟨Pp,0,none⟩),.pointer (some ⟨Gp,0,none⟩)])) (first|exact g0|exact hS) (first
    |(go_at_call 246
      refine IH1.mono ?_;rintro e w2 ⟨i1,v1,t1,rfl,h2,C,T,I,J⟩;have hS:=D _ (Gq.blk C Z hG jD);have Tp:=aT h2;have U:=aT C.O3;have sN:=aT T;have dA:=aT I;have zm:=aT J;have Y:=aT (Gq.blk C Z hG jD);have Gn:=aT (Gq.blk C HP hP jD);have BS:=aT (HM.below C.1 hN);clear h2 C T I J))
   clear IH1 HT HP Z p0 g0 hS;have aG9:(t++t1).length=t.length+t1.length:=ay;have aH0:=zm.out;have OZ:LO<=w2.heap.size:=aO VS U.2.1;have g0:=D _ Y;have hcH:¬c=H:=jO;have aw2:IntKind.i64.wrap ((at_:Int)+(H:Int))=(at_:Int)+(H:Int):=aJ _ jO;have lw:((L-H:Nat):Int)=(L:Int)-(H:Int):=jO;have IH2:=aT (Nj hN hP hG K (l.drop H) (L-H) (by rw[aia,HL.out]) (by have:=HHd.out;omega) jO jO (at_+H) jO (some ⟨b,off+H,none⟩) (c-H) v1 (t++t1) w2.drew Tp.drew Gn Y (BS.drop H) jO jO jO jO OZ);rw[ave] at IH2;go_upto_region 5 with fail
   go_region_held3 (λw'=>w'.cell? ⟨Gp,0,none⟩=some (.func (.func 246) #[] #[.pointer (some ⟨Pp,0,none⟩),.pointer (some ⟨Gp,0,none⟩)])) (first|exact g0|exact hS) (first
    |(go_at_call 246
      refine IH2.mono ?_;rintro e w3 ⟨i2,v2,t2,rfl,h2,C,T,I,J⟩;have hS:=D _ (Gq.blk C Y hG jD);have dz:=aT h2;have zl:=aT (U.trans C.O3);have at1:=aT T;have HL2:=aT I;have ny:=aT J;have Gm:=aT (Gq.blk C Gn hP jD);have Fm:=aT (BS.below C.1 hN);clear h2 C T I J))
   clear IH2 Tp Gn Y BS U hS g0;have at2:(t++t1++t2).length=t.length+t1.length+t2.length:=by rw[ay,ay]
   have aH1:=ny.out;have xy:LO<=w3.heap.size:=aO VS zl.2.1;have p0:=D _ Gm;have x1:=ZY zl.1 hN tR x0;go_upto_region 6 with fail
   go_region_held3 (λw'=>w'.cell? ⟨Pp,0,none⟩=some (.func (.func 245) #[] #[.pointer (some ⟨O,0,none⟩)])/\w'.cell? ⟨b,off+H,none⟩=some (.int .u32 nh)) (first|exact⟨p0,x1⟩|exact hS) (first
    |(go_at_call 245
      refine(Ei ⟨false,nh,0,i1,i2⟩ _ dz.drew jO xy).mono ?_;rintro e w4 ⟨rfl,v4,h4,f4⟩;have hS:=And.intro (D _ (Gq.blk f4 Gm hP jD)) (ZY f4.1 hN tR x1);have xE:=aT h4;have xr:=aT (zl.trans f4.O3);clear h4 f4))
   go_wp2_with fail;go_ret;have e4:t++t1++t2++[⟨false,nh,0,i1,i2⟩]=t++(t1++t2++[⟨false,nh,0,i1,i2⟩]):=jS;have e5:((t++t1++t2).length:Int)=(t.length:Int)+((t1.length:Int)+(t2.length:Int)):=by rw[at2];omega
   refine⟨(t++t1++t2).length,v4,t1++t2++[⟨false,nh,0,i1,i2⟩],by rw[e5];rfl,by rw[<-e4];exact xE,xr,?_,by simp;omega,by simp;omega⟩;have hh:l.length/2=H:=by rw[HL.out];exact HHd
   refine .node (lo:=i1) (hi:=i2) (by rw[HL.out];omega) ?_ ?_ ?_;·rw[<-e4,aad (aR _),alc,hh,aee,HNH.out];rfl
   ·rw[hh,<-e4,aag];exact sN.app _
   ·rw[hh,<-e4];exact at1.app _
theorem BQ (l:List Nat)(L:Nat)(hL:l.length=L)(Xo:L<=4096)(hr:l.Pairwise (λa b=>a<b))(ad:Option Addr)(c:Nat)(w:World)(hm:TS N w ad l)(hc:L<=c)(hcm:c<=9223372036854775807)(hN:N<=w.heap.size):
 Calls prog 174 #[.slice ad L c] w λe w'=>∃(v:Value) (t:List Vx),e=.returned (.tuple #[v,.int .i64 0])/\w'.ownsRow w.heap.size Pv 5 v t.length (Uk t)/\Below w.heap.size w w'/\t.length<=9000/\((l=[]/\t=[⟨true,0,-1,0,0⟩])\/(0<L/\Ul t (t.length-1) l 0)):=by
 have HL:=aT hL;have HM:=aT hm;have HR:=aT hr;clear hL hm hr;go_enter func174,ntmps174;go_upto_region 2 with fail;go_loopg [4] (L+1) (λgg iv wr=>∃i:Nat,1<=i/\i<=L+1/\(i=L+1->L=0)/\L+1-i<gg/\iv=.int .i64 (i:Int)/\Hid (Below w.heap.size w wr));case atStart=>exact⟨1,jO,jO,jO,jO,rfl,aG _ _⟩
 case round=>
  obtain⟨i,sM,sR,sL,Vs,rfl,C⟩:=hrel;by_cases hlt:i<L
  ·have Zd:(i:Int)<(L:Int):=by omega
   have iz0:=jZ i;have jz0:(0:Int)<=((i-1:Nat):Int):=jO;have jz1:((i-1:Nat):Int)<(L:Int):=jO;have jw:IntKind.i64.wrap ((i:Int)-1)=((i-1:Nat):Int):=by rw[aJ _ jO];omega
   obtain⟨x,hx⟩:∃x,l[i]? =some x:=⟨_,aL (by rw[HL.out];exact hlt)⟩;obtain⟨y,hy⟩:∃x,l[i-1]? =some x:=⟨_,aL (by rw[HL.out];omega)⟩;obtain⟨g,off,rfl,UW,x0⟩:=HM i x hx;obtain⟨g2,aH2,e2,_,y0⟩:=HM (i-1) y hy;injection aq e2 with e3 e4;subst e3 e4;have x0:=ZY C hN UW x0;have y0:=ZY C hN UW y0;have hxy:y<x:=by obtain⟨h1,rfl⟩:=ak.1 hx;obtain⟨D,rfl⟩:=ak.1 hy;exact ama.1 HR (i-1) i D h1 jO
   have hle:¬(x:Int)<=(y:Int):=jO;have iw:=jW i;clear hx hy hxy;go_upto_region 4 with fail;go_region;have J:=aT C.drew;clear C x0 y0;go_wp2_with fail;go_roundg (L+1-i);case measure=>omega
   case rel=>exact⟨i+1,jO,jO,jO,jO,by go_num,J⟩
  ·have Zd:¬(i:Int)<(L:Int):=by omega
   have hmz:¬(4096:Int)<(L:Int):=jO;by_cases h0:L=0
   ·subst h0;have hnil:l=[]:=alb.1 HL;have HN:=aT hnil
    go_wp2_with (refine Great.wpList_buildSliceTo rfl 290 Pv 1 _ rfl _ rfl _ rfl underlying290 #[.bool true,.int .u32 0,.int .i64 (-1),.int .i64 0,.int .i64 0] jK ?_)
    go_ret2;exact⟨_,rfl,[⟨true,0,-1,0,0⟩],World.ownsRow_lit (base:=w.heap.size) wr #[.bool true,.int .u32 0,.int .i64 (-1),.int .i64 0,.int .i64 0] 1 C.size jD rfl,C.alloc C.size _,jS,by first|exact .inl ⟨HN,rfl⟩|rfl⟩
   ·have mi:((L:Int) == 0)=false:=by rw[af];omega
    have HOa:=aT (Z7.new wr 290 #[.slice none 0 0]);have I:=aT (C.alloc C.size (.cells #[.slice none 0 0] 290));have at3:w.heap.size<=wr.heap.size:=C.size;clear C;go_upto_region 11 with fail;generalize wr.alloc (.cells #[.slice none 0 0] 290)=wa at*;generalize wr.heap.size=O at*;have HPa:=aT (Z7.new wa 351 #[.func (.func 245) #[] #[.pointer (some ⟨O,0,none⟩)]]);have gW:=aT (HOa.alloc (.cells #[.func (.func 245) #[] #[.pointer (some ⟨O,0,none⟩)]] 351));have HBb:=aT (I.alloc I.size (.cells #[.func (.func 245) #[] #[.pointer (some ⟨O,0,none⟩)]] 351));go_upto_region 12 with fail;generalize wa.alloc (.cells #[.func (.func 245) #[] #[.pointer (some ⟨O,0,none⟩)]] 351)=wb at*;generalize wa.heap.size=Pp at*;have Z:=aT (Z7.new wb 352 #[.func (.func 246) #[] #[.pointer (some ⟨Pp,0,none⟩),.pointer (some ⟨wb.heap.size,0,none⟩)]]);have HPb:=aT (HPa.alloc (.cells #[.func (.func 246) #[] #[.pointer (some ⟨Pp,0,none⟩),.pointer (some ⟨wb.heap.size,0,none⟩)]] 352));have T:=aT (gW.alloc (.cells #[.func (.func 246) #[] #[.pointer (some ⟨Pp,0,none⟩),.pointer (some ⟨wb.heap.size,0,none⟩)]] 352));have U:=aT (HBb.alloc HBb.size (.cells #[.func (.func 246) #[] #[.pointer (some ⟨Pp,0,none⟩),.pointer (some ⟨wb.heap.size,0,none⟩)]] 352));go_upto_region 14 with fail;generalize wb.alloc (.cells #[.func (.func 246) #[] #[.pointer (some ⟨Pp,0,none⟩),.pointer (some ⟨wb.heap.size,0,none⟩)]] 352)=wc at*;generalize wb.heap.size=Gp at*;clear HOa I HPa gW HBb;have g0:wc.cell? ⟨Gp,0,none⟩=some (.func (.func 246) #[] #[.pointer (some ⟨Pp,0,none⟩),.pointer (some ⟨Gp,0,none⟩)]):=by simpa using Z.out.cell 0
    have IH:=aT (Nj (LO:=w.heap.size) (N:=N) (O:=O) (Pp:=Pp) (Gp:=Gp) hN (λe=>by subst e;exact absurd (HPb.symm.trans T) (by intro h;injection h with h;injection h with _ D;exact absurd D jD)) (λe=>by subst e;exact absurd (Z.symm.trans T) (by intro h;injection h with h;injection h with _ D;exact absurd D jD)) L l L HL (aR _) jO Xo 0 jO ad c (.slice none 0 0) [] wc ⟨T,⟨rfl,.inl ⟨rfl,rfl⟩⟩,at3⟩ HPb Z (HM.below U hN) hc hcm (by simp;omega) jO U.size);go_wp2_with fail;refine IH.mono ?_;rintro e w2 ⟨i2,v2,t2,rfl,D,f2,Y,hl2,hc2⟩;rw[ahe] at D Y hl2;have Tp:=aT D;have J:=aT (U.trans f2.1);have dy:=aT Y;have q0:w2.cell? ⟨O,0,none⟩=some v2:=by simpa using D.blk.cell 0
    clear D f2 Y IH g0;go_wp2_with fail;go_ret2;refine⟨_,t2,rfl,Tp.own,J,jO,.inr ⟨jO,?_⟩⟩;rw[<-hl2,Nat.add_sub_cancel];exact dy
end Go.Proofs.YtclgigmgbebhgaaGreatDoor
namespace Go.Proofs.YtclgigmgbebhgaaGreatDoor
open Tryz
open Go Go.Proofs
def G.sz(g:G):Nat:=g.l.length+g.n
theorem Wz(g:G)(xs:List Z9):(g.put xs).sz=g.sz+xs.length:=by
 show(g.l++xs).length+g.n=g.l.length+g.n+xs.length;rw[ay];omega
theorem UE(g:G)(m:Nat):(g.here m).sz=g.sz+1:=by
 show(g.l++[Zq m]).length+g.n=g.l.length+g.n+1;rw[ay];show g.l.length+1+g.n=_;omega
theorem Ot(g:G):g.mark.sz=g.sz+1:=by
 show g.l.length+(g.n+1)=g.l.length+g.n+1;omega
theorem W4(g:G)(c:Nat):(g.goes c).sz<=g.sz+1:=by
 unfold G.goes;split;·show g.l.length+(g.n+1)<=g.l.length+g.n+1;omega
 ·omega
theorem GB.ag3{g:G}(h:g.sz<=900000):GB g:=by
 unfold G.sz at h;exact⟨jO,jO⟩
theorem Eh(wide:Bool)(next:Nat):∀(cs:List Z5) (g:G),(Ze wide next cs g).sz<=g.sz+8*cs.length
 |[],g=>by show g.sz<=_;omega
 |c::cs,g=>by have C:=Eh wide next cs ((g.mark.put (XC c wide ((g.n+1:Nat):Int) next)).here (g.n+1));rw[UE,Wz,Ot] at C;have:=Nk (c:=c) (wide:=wide) (yes:=((g.n+1:Nat):Int)) (no:=(next:Int));rw[ai];show(Ze wide next cs _).sz<=_;omega
def V5:List Z3->Nat
 |[]=>1
 |r::rs=>8*r.1.length+4+V5 rs
theorem Eg(wide:Bool)(ow:Nat):∀(rs:List Z3) (g:G),(XK wide ow rs g).sz<=g.sz+V5 rs
 |[],g=>by show(g.put [ins 0x05 0 ow 0]).sz<=_;rw[Wz];exact aR _
 |(cs,code)::rs,g=>by show(XK wide ow rs ((((Ze wide (g.n+1) cs g.mark).goes code).put _).here (g.n+1))).sz<=_;have D:=Eh wide (g.n+1) cs g.mark;have I:=W4 (Ze wide (g.n+1) cs g.mark) code;have C:=Eg wide ow rs ((((Ze wide (g.n+1) cs g.mark).goes code).put [ins 0x05 0 (look ((Ze wide (g.n+1) cs g.mark).goes code).b code) 0]).here (g.n+1));rw[UE,Wz] at C;rw[Ot] at D;simp only[ai,acg] at C;show _<=g.sz+(8*cs.length+4+V5 rs);exact aO C jO
theorem QN(ow:Nat):∀(k:Nat) (l:List (Nat×Nat)) (g:G),l.length<=k->(ZH ow l g).sz<=g.sz+4*l.length+1/\(1<=l.length->(ZH ow l g).sz+3<=g.sz+4*l.length)
 |k,[],g,_=>by rw[XA,Wz];exact⟨jS,λh=>absurd h jS⟩
 |k,[(q,m)],g,_=>by rw[Xz,Wz];exact⟨jS,λ_=>jS⟩
 |0,x::y::r,g,hk=>by simp at hk
 |k+1,x::y::r,g,hk=>by
  have I:2<=(x::y::r).length:=jS;rw[XU ow _ I];generalize x::y::r=l at*;have e1:(l.take (l.length/2)).length=l.length/2:=by rw[abg];omega
  have e2:(l.drop (l.length/2)).length=l.length-l.length/2:=by rw[aia]
  obtain⟨_,C⟩:=QN ow k (l.take (l.length/2)) (g.mark.put [ins 0x35 (l.getD (l.length/2) (0,0)).1 ((g.n+1:Nat):Int) 0]) jO;obtain⟨_,D⟩:=QN ow k (l.drop (l.length/2)) ((ZH ow (l.take (l.length/2)) (g.mark.put [ins 0x35 (l.getD (l.length/2) (0,0)).1 ((g.n+1:Nat):Int) 0])).here (g.n+1)) jO;rw[UE] at D;rw[Wz,Ot] at C;simp only[ai,acg] at C;have C:=C jO;have D:=D jO;exact⟨jO,λ_=>jO⟩
theorem KG:∀(l:List (Nat×Nat)) (g:G),(Zw l g).sz<=g.sz+l.length
 |[],g=>by show g.sz<=_;omega
 |p::r,g=>by have C:=KG r (g.goes p.2);have:=W4 g p.2;show(Zw r (g.goes p.2)).sz<=_;rw[ai];omega
theorem mg(ow:Nat)(l:List (Nat×Nat))(g:G):(WG ow l g).sz<=g.sz+5*l.length+2:=by
 unfold WG;have C:=KG l (g.put [ins 0x20 16 0 0]);have D:=(QN ow _ (l.map λp=>(p.1,look (Zw l (g.put [ins 0x20 16 0 0])).b p.2)) (Zw l (g.put [ins 0x20 16 0 0])) (aR _)).1;rw[aab] at D;rw[Wz] at C;simp only[ai,acg] at C;omega
def Xx:ZM->Nat
 | .rules _ rs=>V5 rs
 | .subs l=>5*l.length+2
theorem mf(ow:Nat)(p:ZM)(g:G):(VM ow p g).sz<=g.sz+Xx p:=by
 cases p with
 |rules wide rs=>exact Eg wide ow rs g
 |subs l=>have:=mg ow l g;exact aO this (by show _<=g.sz+(5*l.length+2);omega)
def ZW:List (Nat×ZM)->Nat
 |[]=>2
 |p::ps=>6+Xx p.2+ZW ps
theorem KF(ow:Nat):∀(ps:List (Nat×ZM)) (m:Nat) (g:G),(X7 ow (ps.map (·.2)) m g).sz+2+5*ps.length<=g.sz+ZW ps
 |[],m,g=>by show g.sz+2+_<=g.sz+2;simp
 |p::ps,m,g=>by have D:=KF ow ps (m+1) (VM ow p.2 (g.here m));have C:=mf ow p.2 (g.here m);rw[UE] at C;rw[ai];show(X7 ow (ps.map (·.2)) (m+1) (VM ow p.2 (g.here m))).sz+_+_<=g.sz+(6+Xx p.2+ZW ps);omega
theorem Ef:∀(ps:List (Nat×ZM)) (m:Nat),(Vg ps m).length=ps.length
 |[],_=>rfl
 |p::r,m=>by show(Vg r (m+1)).length+1=r.length+1;rw[Ef r (m+1)]
theorem Wy(d:Nat)(ps:List (Nat×ZM))(g:G):(Y3 d ps g).sz<=g.sz+ZW ps:=by
 unfold Y3;have J:=W4 g d;have C:=(QN (look (g.goes d).b d) _ (Vg ps ((g.goes d).n+1)) ⟨(g.goes d).l,(g.goes d).n+ps.length,(g.goes d).b⟩ (aR _)).1;have D:=KF (look (g.goes d).b d) ps ((g.goes d).n+1) (ZH (look (g.goes d).b d) (Vg ps ((g.goes d).n+1)) ⟨(g.goes d).l,(g.goes d).n+ps.length,(g.goes d).b⟩);rw[Ef] at C;have I:(G.mk (g.goes d).l ((g.goes d).n+ps.length) (g.goes d).b).sz=(g.goes d).sz+ps.length:=by show(g.goes d).l.length+((g.goes d).n+ps.length)=(g.goes d).l.length+(g.goes d).n+ps.length;omega
 omega
theorem sK(Vl:Bool)(d:Nat)(p0 p1:List (Nat×ZM))(g:G):(Un Vl d p0 p1 g).sz<=g.sz+6+ZW p0+ZW p1:=by
 unfold Un;have J:=W4 g d;have I:((g.goes d).put [ins 0x15 NONE (look (g.goes d).b d) 0]).sz<=g.sz+2:=by rw[Wz];simp only[ai,acg];omega
 dsimp only;generalize (g.goes d).put [ins 0x15 NONE (look (g.goes d).b d) 0]=g1 at*;split;·have C:=Wy d p0 ((g1.goes Zm).put [ins 0x45 VT (look (g1.goes Zm).b Zm) 0]);have D:=W4 g1 Zm;rw[Wz] at C;simp only[ai,acg] at C;omega
 ·have C:=Wy d p0 (g1.mark.put [ins 0x45 VT ((g1.n+1:Nat):Int) 0]);have D:=Wy d p1 ((Y3 d p0 (g1.mark.put [ins 0x45 VT ((g1.n+1:Nat):Int) 0])).here (g1.n+1));rw[UE] at D;rw[Wz,Ot] at C;simp only[ai,acg] at C;omega
theorem sJ(m:Nat)(g:G):(Ve m g).sz=g.sz+2:=by
 unfold Ve;rw[Wz,UE];rfl
def TP(p:YE):Nat:=ZW p.p0+ZW p.p1+ZW p.p2+ZW p.p3+ZW p.p4
theorem ag4(p:YE):(gD p).sz<=40+TP p:=by
 have T:XH.sz<=12:=jD;have I:=sK p.Vl p.d p.p0 p.p1 (Ve 1 XH);have J:=Wy p.d p.p2 (Ve 2 (gA p));have C:=Wy p.d p.p3 (Ve 3 (gB p));have D:=Wy p.d p.p4 (Ve 4 (gC p));rw[sJ] at I J C D;change (gA p).sz<=_ at I;change (gB p).sz<=_ at J;change (gC p).sz<=_ at C;change (gD p).sz<=_ at D;unfold TP;omega
theorem WV(ow:Nat):∀(k:Nat) (l:List (Nat×Nat)) (g:G),l.length<=k->UY g (ZH ow l g)
 |k,[],g,_=>by rw[XA];exact UY.put _ _
 |k,[(q,m)],g,_=>by rw[Xz];exact UY.put _ _
 |0,x::y::r,g,hk=>by simp at hk
 |k+1,x::y::r,g,hk=>by have C:2<=(x::y::r).length:=jS;rw[XU ow _ C];generalize x::y::r=l at*;exact((((UY.mark g).trans (UY.put _ _)).trans (WV ow k (l.take (l.length/2)) _ (by rw[abg];omega))).trans (UY.here _ _)).trans (WV ow k (l.drop (l.length/2)) _ (by rw[aia];omega))
theorem UD(ow:Nat):∀(k:Nat) (l:List (Nat×Nat)) (g:G),l.length<=k->V9 g->V9 (ZH ow l g)
 |k,[],g,_,h=>by rw[XA];exact h.put _
 |k,[(q,m)],g,_,h=>by rw[Xz];exact h.put _
 |0,x::y::r,g,hk,_=>by simp at hk
 |k+1,x::y::r,g,hk,h=>by have C:2<=(x::y::r).length:=jS;rw[XU ow _ C];generalize x::y::r=l at*;exact UD ow k _ _ (by rw[aia];omega) ((UD ow k _ _ (by rw[abg];omega) (h.mark.put _)).here _)
theorem Tn:∀(l:List (Nat×Nat)) (g:G),UY g (Zw l g)
 |[],g=>UY.refl g
 |p::r,g=>(UY.goes g p.2).trans (Tn r _)
theorem MD:∀(l:List (Nat×Nat)) (g:G),V9 g->(∀p∈l,p.2<4294967296)->V9 (Zw l g)
 |[],_,h,_=>h
 |p::r,g,h,hl=>MD r _ (h.goes (hl p jS)) (λq C=>hl q (by simp[C]))
theorem sI(ow:Nat)(l:List (Nat×Nat))(g:G):UY g (WG ow l g):=
 ((UY.put g _).trans (Tn l _)).trans (WV ow _ _ _ (aR _))
theorem Ee(ow:Nat)(p:ZM)(g:G):UY g (VM ow p g):=by
 cases p with
 |rules wide rs=>exact Nl wide ow rs g
 |subs l=>exact sI ow l g
theorem Tm(ow:Nat):∀(ps:List ZM) (m:Nat) (g:G),UY g (X7 ow ps m g)
 |[],_,g=>UY.refl g
 |p::ps,m,g=>((UY.here g m).trans (Ee ow p _)).trans (Tm ow ps (m+1) _)
end Go.Proofs.YtclgigmgbebhgaaGreatDoor
