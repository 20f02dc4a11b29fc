/- TopOther: part 4: TopTree TopGenW. -/
import Derived.BigQuiet
import Derived.Laws.EntriesVeiled
import Derived.Test.YtclgigmgbebhgaaGreatDoorO03
set_option linter.unusedVariables false
set_option linter.unusedSimpArgs false
set_option maxRecDepth 100000
set_option maxHeartbeats 16000000
namespace Go.Proofs.YtclgigmgbebhgaaGreatDoor
open Tryz
open Go Go.Proofs Go.RowKit
variable {xs:List Value} {LO O N:Nat} {ad:Option Addr} {W a w:World}
abbrev PU:Nat:=294
def PS(x:VJ):List Value:=[.bool x.leaf,.int .u32 x.num,.int .i64 x.place,.int .i64 x.low,.int .i64 x.high]
def Uv(l:List VJ):List Value:=l.flatMap PS
theorem BQ(a b:List VJ):Uv (a++b)=Uv a++Uv b:=by unfold Uv;rw[acb]
theorem df:(prog.info? PU).map (λi=>(i.zero,i.size,i.bytes))=some (some (.agg #[.bool false,.int .u32 0,.int .i64 0,.int .i64 0,.int .i64 0]),5,32):=jK
theorem Y1 {t:TypeId}{cs:Array Value} (h:cs.toList=xs):∀j u,xs[j]? =some u->(W.alloc (.cells cs t)).cell? ((⟨W.heap.size,0,none⟩:Addr).add j)=some u:=by
 intro j u A;have e:=(Z7.new W t cs).cell j;rw[show(⟨W.heap.size,0,none⟩:Addr).add j=⟨W.heap.size,j,none⟩ by simp[Addr.add];omega,e,<-aff,h,A]
structure Em(LO O:Nat)(W:World)(v:Value)(t:List VJ):Prop where
 blk:Z7 W O 290 #[v]
 own:W.ownsRow LO PU 5 v t.length (Uv t)
 lo:LO<=O
def Gu(LO O:Nat)(w w':World):Prop:=Below LO w w'/\w.heap.size<=w'.heap.size/\∀k o,w.heap[k]? =some o->k≠O->(∀cs f,o≠.cells cs PU f)->w'.heap[k]? =some o
theorem Gu.trans {b c:World}(h:Gu LO O a b)(k:Gu LO O b c):Gu LO O a c:=⟨h.1.trans k.1,aO h.2.1 k.2.1,λj o D A C=>k.2.2 j o (h.2.2 j o D A C) A C⟩
theorem Gu.blk {b:World}(h:Gu LO O a b){B:Nat}{t:TypeId}{cs:Array Value}(C:Z7 a B t cs)(A:B≠O)(ht:t≠PU):Z7 b B t cs:=h.2.2 B _ C A (λcs f e=>by
 injection e with _ e2;exact ht e2)
theorem Em.drew{v:Value}{t:List VJ}(h:Em LO O w v t):Em LO O w.drew v t:=⟨h.blk,h.own.drew,h.lo⟩
theorem Gu.Pf {w':World}(h:Gu LO O w.drew w'):Gu LO O w w':=⟨((aH LO w).drew).trans h.1,h.2.1,h.2.2⟩
theorem YT {t:Nat}{v:Value}{e s n:Nat} {cs:Array Value}(h:W.ownsRow LO e s v n xs)(A:Z7 W O t cs)(ht:e≠t):v.ownBlock≠some O:=by
 rcases h.2 with⟨rfl,_⟩|⟨g,c,D,rfl,_,C,_⟩;·intro e;cases e
 ·intro e;have e:g=O:=ax e;subst e;have:=C.symm.trans A;injection this with this;injection this with _ I;exact absurd I ht
theorem El {v:Value}{t:List VJ}(n:VJ)(w:World)(h:Em LO O w v t)(hlen:t.length+1<=1000000)(T:LO<=w.heap.size):
 Calls prog 245 #[.agg #[.bool n.leaf,.int .u32 n.num,.int .i64 n.place,.int .i64 n.low,.int .i64 n.high],.pointer (some ⟨O,0,none⟩)] w λe w'=>e=.returned (.int .i64 t.length)/\∃v',Em LO O w' v' (t++[n])/\Gu LO O w w':=by
 obtain⟨hb,ho,U⟩:=h;obtain⟨i0,hi,hz0,hz1,hz2⟩:=ZP df;obtain⟨L,hL⟩:=jX t.length;rw[hL] at ho hlen ⊢;have hno:=YT ho hb jD;obtain⟨va,vc,rfl⟩:=ZI ho;have HTL:Hid ((t++[n]).length=L+1):=by show _=_;rw[ay,hL];rfl
 have HTF:Hid (Uv (t++[n])=Uv t++PS n):=by show _=_;rw[BQ];simp[Uv]
 have HO:=aT ho;have nA:=aT hb;have dc:=aT hno;have c0:((w.alloc (.cells #[.bool n.leaf,.int .u32 n.num,.int .i64 n.place,.int .i64 n.low,.int .i64 n.high] PU)).cell? ⟨O,0,none⟩)=some (.slice va L vc):=by have:=(hb.alloc (.cells #[.bool n.leaf,.int .u32 n.num,.int .i64 n.place,.int .i64 n.low,.int .i64 n.high] PU)).cell 0;simpa using this
 obtain⟨x0,x1,x2,x3,x4⟩:=(Z7.new w PU #[.bool n.leaf,.int .u32 n.num,.int .i64 n.place,.int .i64 n.low,.int .i64 n.high]).q5;have C:=aT ((aH w.heap.size w).alloc (aR _) (.cells #[.bool n.leaf,.int .u32 n.num,.int .i64 n.place,.int .i64 n.low,.int .i64 n.high] PU));have Ek:=aT (ho.alloc (.cells #[.bool n.leaf,.int .u32 n.num,.int .i64 n.place,.int .i64 n.low,.int .i64 n.high] PU));have as7:=aT (hb.alloc (.cells #[.bool n.leaf,.int .u32 n.num,.int .i64 n.place,.int .i64 n.low,.int .i64 n.high] PU));clear hb ho hno hL;go_enter func245,ntmps245;go_upto_region 1 with fail;generalize w.alloc (.cells #[.bool n.leaf,.int .u32 n.num,.int .i64 n.place,.int .i64 n.low,.int .i64 n.high] PU)=w1 at*;have hs1:LO<=w1.heap.size:=aO T C.size;go_upto_region 2 with(first|(refine Great.wpList_buildSliceTo rfl 290 PU 1 _ rfl _ rfl _ rfl underlying290 #[.bool n.leaf,.int .u32 n.num,.int .i64 n.place,.int .i64 n.low,.int .i64 n.high] jK ?_)|(at_builtin;refine adg _ rfl _ _ 290 rfl LO PU i0 (.agg #[.bool false,.int .u32 0,.int .i64 0,.int .i64 0,.int .i64 0]) 5 32 underlying290 hi hz0 hz1 hz2 rfl jD _ L _ rfl (Ek.alloc _) ⟨w1.heap.size,0,none⟩ 1 1 (PS n) rfl ?c1 ?c2 ?c3 ?c4 ?c5 ?c6 ?_;(case c1=>rfl);(case c2=>exact Y1 rfl);(case c3=>intro u hu;unfold PS at hu;simp only[abf,ajf,atg] at hu;rcases hu with rfl|rfl|rfl|rfl|rfl<;>rfl);(case c4=>unfold maxLen;omega);(case c5=>omega);(case c6=>simp;omega);intro v' w6 A J _;obtain⟨Z,sc,rfl⟩:=ZI A;have D:=Zj (aea w1 _ _) J;have I:Z7 w6 O 290 #[.slice va L vc]:=as7.kept D (λe=>dc e.symm);have z0:=I.frozen 0;have e0:=I.cell 0;(simp only[ak,aL] at e0)))
 have kw:IntKind.i64.wrap ((L:Int)+1-1)=(L:Int):=by rw[aJ _ jO];omega
 have HK:Hid (Em LO O (w6.setCell ⟨O,0,none⟩ (.slice Z (L+1) sc)) (.slice Z (L+1) sc) (t++[n])):=⟨by simpa using I.set 0 (.slice Z (L+1) sc),by rw[HTL.out,HTF.out];exact Lb A I jD,U⟩;have HFr:Hid (Gu LO O w (w6.setCell ⟨O,0,none⟩ (.slice Z (L+1) sc))):=by
  refine⟨((C.mono T).grown D hs1 (λr e=>(HO.lt r e).1)).setCell (p:=⟨O,0,none⟩) U _,by rw[World.size_setCell];exact aO C.size D.size,λk o hk h1 h3=> ?_⟩;rw[aef w6 ⟨O,0,none⟩ _ k h1];have Y:w1.heap[k]? =some o:=(C.block k (aaa.1 hk).1).trans hk;refine(D.block k (aaa.1 Y).1 (λe=> ?_)).trans Y;rcases HO.out.2 with⟨e2,_⟩|⟨g1,c1,cur,e2,_,hg,_⟩;·rw[e2] at e;cases e
  ·rw[e2] at e;have e:k=g1:=ax e;subst e;exact h3 cur _ (ax (hk.symm.trans hg))
 generalize w6.setCell ⟨O,0,none⟩ (.slice Z (L+1) sc)=w7 at*;have q0:=HK.blk.e0;clear e0 z0;go_wp2_with fail;go_ret;exact⟨rfl,_,HK,HFr⟩
def T6(N:Nat)(W:World)(ad:Option Addr)(l:List Nat):Prop:=∀(k n:Nat),l[k]? =some n->∃g off,ad=some ⟨g,off,none⟩/\g<N/\W.cell? ⟨g,off+k,none⟩=some (.int .u32 n)
theorem T6.below{K:Nat}{W':World}(hb:Below K W W')(hN:N<=K) {l:List Nat}(h:T6 N W ad l):T6 N W' ad l:=λk n hk=>by
 obtain⟨g,off,e,hl,A⟩:=h k n hk;exact⟨g,off,e,hl,ZY hb hN hl A⟩
theorem T6.drop{g off:Nat}{l:List Nat}(h:T6 N W (some ⟨g,off,none⟩) l)(j:Nat):T6 N W (some ⟨g,off+j,none⟩) (l.drop j):=λk n hk=>by
 rw[awb] at hk;obtain⟨g',A,e,hl,C⟩:=h _ n hk;have e:=ax e;injection e with e1 e2;subst e1 e2;exact⟨g,off+j,rfl,hl,by rw[amd];exact C⟩
theorem T6.take {l:List Nat}(h:T6 N W ad l)(j:Nat):T6 N W ad (l.take j):=λk n hk=>by
 rw[aie] at hk;split at hk;·exact h k n hk
 ·cases hk
theorem Nu{LO O Pp Gp N:Nat}(hN:N<=LO)(hP:Pp≠O)(hG:Gp≠O):∀(K:Nat) (l:List Nat) (L:Nat),l.length=L->L<=K->0<L->L<=4096->∀(at_:Nat),at_<=900000->∀(ad:Option Addr) (c:Nat) (v:Value) (t:List VJ) (w:World),
 Em LO O w v t->Z7 w Pp 351 #[.func (.func 245) #[] #[.pointer (some ⟨O,0,none⟩)]]->
 Z7 w Gp 352 #[.func (.func 246) #[] #[.pointer (some ⟨Pp,0,none⟩),.pointer (some ⟨Gp,0,none⟩)]]->
 T6 N w ad l->L<=c->c<=9223372036854775807->t.length+2*L<=900000->at_+L<=900000->LO<=w.heap.size->
 Calls prog 246 #[.slice ad L c,.int .i64 at_,.pointer (some ⟨Pp,0,none⟩),.pointer (some ⟨Gp,0,none⟩)] w
  λe w'=>∃(i:Nat) (v':Value) (t':List VJ),e=.returned (.int .i64 i)/\Em LO O w' v' (t++t')/\Gu LO O w w'/\Uw (t++t') i l at_/\i+1=(t++t').length/\t'.length+1<=2*L
 |0,l,L,_,hk,h0,_,_,_,_,_,_,_,_,_,_,_,_,_,_,_,_,_=>jO
 |K+1,l,L,hL,hk,h0,Xl,at_,hat,ad,c,v,t,w,ht,hp,hg,hm,hc,hcm,gy,aG0,Z=>by
  have HT:=aT ht;have HP:=aT hp;have HGp:=aT hg;have HM:=aT hm;have p0:=hp.e0;have g0:=hg.e0;have HL:=aT hL;clear ht hp hg hm hL;by_cases h1:L=1
  ·subst h1;obtain⟨n,rfl⟩:∃n,l=[n]:=List.length_eq_one_iff.1 HL;obtain⟨b,off,rfl,Y,x0⟩:=HM 0 n rfl;rw[aeb] at x0;go_enter func246,ntmps246;go_upto_region 2 with fail
   go_region_held3 (λw'=>w'.cell? ⟨Pp,0,none⟩=some (.func (.func 245) #[] #[.pointer (some ⟨O,0,none⟩)])/\w'.cell? ⟨b,off,none⟩=some (.int .u32 n)) (first|exact⟨p0,x0⟩|exact hS) (first
    |(go_at_call 245
      refine(El ⟨true,n,(at_:Int),0,0⟩ _ HT.drew jO Z).mono ?_;rintro e w2 ⟨rfl,v2,h2,A⟩;have hS:=And.intro (by simpa using (Gu.blk A HP hP jD).cell 0:w2.cell? ⟨Pp,0,none⟩=some (.func (.func 245) #[] #[.pointer (some ⟨O,0,none⟩)])) (ZY A.1 hN Y x0);have LR:=aT h2;have J:=aT A;clear h2 A))
   go_wp2_with fail;go_ret;exact⟨t.length,v2,[⟨true,n,(at_:Int),0,0⟩],rfl,LR,J.Pf,.leaf jS,jS,jS⟩
  ·obtain⟨n0,np⟩:∃n,l[0]? =some n:=⟨_,aM (by rw[HL.out];exact h0)⟩;obtain⟨b,off,rfl,Y,_⟩:=HM 0 n0 np;obtain⟨H,hH⟩:=jX (L/2);have hH1:1<=H:=jO;have hH2:H<L:=jO;obtain⟨nh,hnh⟩:∃n,l[H]? =some n:=⟨_,aM (by rw[HL.out];exact hH2)⟩;obtain⟨b',as8,e',aG1,x0⟩:=HM H nh hnh;injection ax e' with e1 e2;subst e1 e2;have h1z:((L:Int) == 1)=false:=by rw[ae];omega
   have hq:(L:Int)/2=(H:Int):=jO;have hq2:Int.tdiv (L:Int) 2=(H:Int):=by rw[aqe jO];exact hq
   have aG2:=jZ H;have aG3:(H:Int)<=(L:Int):=jO;have aG4:(H:Int)<(L:Int):=jO;have aG5:(H:Int)<=(c:Int):=jO;have HHd:Hid (L/2=H):=hH;have HNH:=aT hnh;clear np hnh hH;have IH1:=aT (Nu hN hP hG K (l.take H) H (by rw[abg,HL.out];omega) jO jO jO at_ jO (some ⟨b,off,none⟩) H v t w.drew HT.drew HP HGp (HM.take H) (aR _) jO jO jO Z);go_enter func246,ntmps246;go_upto_region 4 with fail;have I:Hid (∀W:World,∀{B1:Nat} {t1:TypeId} {f:Value},Z7 W B1 t1 #[f]->W.cell? ⟨B1,0,none⟩=some f):=λW B1 t1 f h=>by simpa using h.cell 0
   go_region_held3 (λw'=>w'.cell? ⟨Gp,0,none⟩=some (.func (.func 246) #[] #[.pointer (some ⟨Pp,0,none⟩),.pointer (some ⟨Gp,0,none⟩)])) (first|exact g0|exact hS) (first
    |(go_at_call 246
      refine IH1.mono ?_;rintro e w2 ⟨i1,v1,t1,rfl,h2,A,T,D,C⟩;have hS:=I _ (Gu.blk A HGp hG jD);have Uu:=aT h2;have J:=aT A.Pf;have sY:=aT T;have cZ:=aT D;have zl:=aT C;have U:=aT (Gu.blk A HGp hG jD);have Gt:=aT (Gu.blk A HP hP jD);have BM:=aT (HM.below A.1 hN);clear h2 A T D C))
   clear IH1 HT HP HGp p0 g0 hS;have aG6:(t++t1).length=t.length+t1.length:=ay;have aG7:=zl.out;have Pa:LO<=w2.heap.size:=aO Z J.2.1;have g0:=I _ U;have hcH:¬c=H:=jO;have aw2:IntKind.i64.wrap ((at_:Int)+(H:Int))=(at_:Int)+(H:Int):=aJ _ jO;have lw:((L-H:Nat):Int)=(L:Int)-(H:Int):=jO;have IH2:=aT (Nu hN hP hG K (l.drop H) (L-H) (by rw[ahg,HL.out]) (by have:=HHd.out;omega) jO jO (at_+H) jO (some ⟨b,off+H,none⟩) (c-H) v1 (t++t1) w2.drew Uu.drew Gt U (BM.drop H) jO jO jO jO Pa);rw[avg] at IH2;go_upto_region 5 with fail
   go_region_held3 (λw'=>w'.cell? ⟨Gp,0,none⟩=some (.func (.func 246) #[] #[.pointer (some ⟨Pp,0,none⟩),.pointer (some ⟨Gp,0,none⟩)])) (first|exact g0|exact hS) (first
    |(go_at_call 246
      refine IH2.mono ?_;rintro e w3 ⟨i2,v2,t2,rfl,h2,A,T,D,C⟩;have hS:=I _ (Gu.blk A U hG jD);have cY:=aT h2;have zk:=aT (J.trans A.Pf);have as9:=aT T;have HL2:=aT D;have nk:=aT C;have Gs:=aT (Gu.blk A Gt hP jD);have tY:=aT (BM.below A.1 hN);clear h2 A T D C))
   clear IH2 Uu Gt U BM J hS g0;have at1:(t++t1++t2).length=t.length+t1.length+t2.length:=by rw[ay,ay]
   have aG8:=nk.out;have xq:LO<=w3.heap.size:=aO Z zk.2.1;have p0:=I _ Gs;have x1:=ZY zk.1 hN Y x0;go_upto_region 6 with fail
   go_region_held3 (λw'=>w'.cell? ⟨Pp,0,none⟩=some (.func (.func 245) #[] #[.pointer (some ⟨O,0,none⟩)])/\w'.cell? ⟨b,off+H,none⟩=some (.int .u32 nh)) (first|exact⟨p0,x1⟩|exact hS) (first
    |(go_at_call 245
      refine(El ⟨false,nh,0,i1,i2⟩ _ cY.drew jO xq).mono ?_;rintro e w4 ⟨rfl,v4,h4,f4⟩;have hS:=And.intro (I _ (Gu.blk f4 Gs hP jD)) (ZY f4.1 hN Y x1);have lR:=aT h4;have Es:=aT (zk.trans f4.Pf);clear h4 f4))
   go_wp2_with fail;go_ret;have e4:t++t1++t2++[⟨false,nh,0,i1,i2⟩]=t++(t1++t2++[⟨false,nh,0,i1,i2⟩]):=jS;have e5:((t++t1++t2).length:Int)=(t.length:Int)+((t1.length:Int)+(t2.length:Int)):=by rw[at1];omega
   refine⟨(t++t1++t2).length,v4,t1++t2++[⟨false,nh,0,i1,i2⟩],by rw[e5];rfl,by rw[<-e4];exact lR,Es,?_,by simp;omega,by simp;omega⟩;have hh:l.length/2=H:=by rw[HL.out];exact HHd
   refine .node (lo:=i1) (hi:=i2) (by rw[HL.out];omega) ?_ ?_ ?_;·rw[<-e4,aae (aR _),alb,hh,afg,HNH.out];rfl
   ·rw[hh,<-e4,aba];exact sY.app _
   ·rw[hh,<-e4];exact as9.app _
theorem BK (l:List Nat)(L:Nat)(hL:l.length=L)(Xl:L<=4096)(hr:l.Pairwise (λa b=>a<b))(ad:Option Addr)(c:Nat)(w:World)(hm:T6 N w ad l)(hc:L<=c)(hcm:c<=9223372036854775807)(hN:N<=w.heap.size):
 Calls prog 174 #[.slice ad L c] w λe w'=>∃(v:Value) (t:List VJ),e=.returned (.tuple #[v,.int .i64 0])/\w'.ownsRow w.heap.size PU 5 v t.length (Uv t)/\Below w.heap.size w w'/\t.length<=9000/\((l=[]/\t=[⟨true,0,-1,0,0⟩])\/(0<L/\Uw t (t.length-1) l 0)):=by
 have HL:=aT hL;have HM:=aT hm;have HR:=aT hr;clear hL hm hr;go_enter func174,ntmps174;go_upto_region 2 with fail;go_loopg [4] (L+1) (λgg iv wr=>∃i:Nat,1<=i/\i<=L+1/\(i=L+1->L=0)/\L+1-i<gg/\iv=.int .i64 (i:Int)/\Hid (Below w.heap.size w wr));case atStart=>exact⟨1,jO,jO,jO,jO,rfl,aH _ _⟩
 case round=>
  obtain⟨i,sX,zm,sW,VP,rfl,A⟩:=hrel;by_cases hlt:i<L
  ·have Y8:(i:Int)<(L:Int):=by omega
   have iz0:=jZ i;have jz0:(0:Int)<=((i-1:Nat):Int):=jO;have jz1:((i-1:Nat):Int)<(L:Int):=jO;have jw:IntKind.i64.wrap ((i:Int)-1)=((i-1:Nat):Int):=by rw[aJ _ jO];omega
   obtain⟨x,hx⟩:∃x,l[i]? =some x:=⟨_,aM (by rw[HL.out];exact hlt)⟩;obtain⟨y,hy⟩:∃x,l[i-1]? =some x:=⟨_,aM (by rw[HL.out];omega)⟩;obtain⟨g,off,rfl,U7,x0⟩:=HM i x hx;obtain⟨g2,aG9,e2,_,y0⟩:=HM (i-1) y hy;injection ax e2 with e3 e4;subst e3 e4;have x0:=ZY A hN U7 x0;have y0:=ZY A hN U7 y0;have hxy:y<x:=by obtain⟨h1,rfl⟩:=au.1 hx;obtain⟨C,rfl⟩:=au.1 hy;exact amb.1 HR (i-1) i C h1 jO
   have hle:¬(x:Int)<=(y:Int):=jO;have iw:=jW i;clear hx hy hxy;go_upto_region 4 with fail;go_region;have T:=aT A.drew;clear A x0 y0;go_wp2_with fail;go_roundg (L+1-i);case measure=>omega
   case rel=>exact⟨i+1,jO,jO,jO,jO,by go_num,T⟩
  ·have Y8:¬(i:Int)<(L:Int):=by omega
   have hmz:¬(4096:Int)<(L:Int):=jO;by_cases h0:L=0
   ·subst h0;have hnil:l=[]:=ahf.1 HL;have HN:=aT hnil
    go_wp2_with (refine Great.wpList_buildSliceTo rfl 290 PU 1 _ rfl _ rfl _ rfl underlying290 #[.bool true,.int .u32 0,.int .i64 (-1),.int .i64 0,.int .i64 0] jK ?_)
    go_ret2;exact⟨_,rfl,[⟨true,0,-1,0,0⟩],World.ownsRow_lit (base:=w.heap.size) wr #[.bool true,.int .u32 0,.int .i64 (-1),.int .i64 0,.int .i64 0] 1 A.size jD rfl,A.alloc A.size _,jS,by first|exact .inl ⟨HN,rfl⟩|rfl⟩
   ·have lQ:((L:Int) == 0)=false:=by rw[ae];omega
    have HOa:=aT (Z7.new wr 290 #[.slice none 0 0]);have Z:=aT (A.alloc A.size (.cells #[.slice none 0 0] 290));have at2:w.heap.size<=wr.heap.size:=A.size;clear A;go_upto_region 11 with fail;generalize wr.alloc (.cells #[.slice none 0 0] 290)=wa at*;generalize wr.heap.size=O at*;have HPa:=aT (Z7.new wa 351 #[.func (.func 245) #[] #[.pointer (some ⟨O,0,none⟩)]]);have HOb:=aT (HOa.alloc (.cells #[.func (.func 245) #[] #[.pointer (some ⟨O,0,none⟩)]] 351));have D:=aT (Z.alloc Z.size (.cells #[.func (.func 245) #[] #[.pointer (some ⟨O,0,none⟩)]] 351));go_upto_region 12 with fail;generalize wa.alloc (.cells #[.func (.func 245) #[] #[.pointer (some ⟨O,0,none⟩)]] 351)=wb at*;generalize wa.heap.size=Pp at*;have Y:=aT (Z7.new wb 352 #[.func (.func 246) #[] #[.pointer (some ⟨Pp,0,none⟩),.pointer (some ⟨wb.heap.size,0,none⟩)]]);have HPb:=aT (HPa.alloc (.cells #[.func (.func 246) #[] #[.pointer (some ⟨Pp,0,none⟩),.pointer (some ⟨wb.heap.size,0,none⟩)]] 352));have J:=aT (HOb.alloc (.cells #[.func (.func 246) #[] #[.pointer (some ⟨Pp,0,none⟩),.pointer (some ⟨wb.heap.size,0,none⟩)]] 352));have I:=aT (D.alloc D.size (.cells #[.func (.func 246) #[] #[.pointer (some ⟨Pp,0,none⟩),.pointer (some ⟨wb.heap.size,0,none⟩)]] 352));go_upto_region 14 with fail;generalize wb.alloc (.cells #[.func (.func 246) #[] #[.pointer (some ⟨Pp,0,none⟩),.pointer (some ⟨wb.heap.size,0,none⟩)]] 352)=wc at*;generalize wb.heap.size=Gp at*;clear HOa Z HPa HOb D;have g0:wc.cell? ⟨Gp,0,none⟩=some (.func (.func 246) #[] #[.pointer (some ⟨Pp,0,none⟩),.pointer (some ⟨Gp,0,none⟩)]):=by simpa using Y.out.cell 0
    have IH:=aT (Nu (LO:=w.heap.size) (N:=N) (O:=O) (Pp:=Pp) (Gp:=Gp) hN (λe=>by subst e;exact absurd (HPb.symm.trans J) (by intro h;injection h with h;injection h with _ C;exact absurd C jD)) (λe=>by subst e;exact absurd (Y.symm.trans J) (by intro h;injection h with h;injection h with _ C;exact absurd C jD)) L l L HL (aR _) jO Xl 0 jO ad c (.slice none 0 0) [] wc ⟨J,⟨rfl,.inl ⟨rfl,rfl⟩⟩,at2⟩ HPb Y (HM.below I hN) hc hcm (by simp;omega) jO I.size);go_wp2_with fail;refine IH.mono ?_;rintro e w2 ⟨i2,v2,t2,rfl,C,f2,U,hl2,hc2⟩;rw[age] at C U hl2;have Uu:=aT C;have T:=aT (I.trans f2.1);have cX:=aT U;have q0:w2.cell? ⟨O,0,none⟩=some v2:=by simpa using C.blk.cell 0
    clear C f2 U IH g0;go_wp2_with fail;go_ret2;refine⟨_,t2,rfl,Uu.own,T,jO,.inr ⟨jO,?_⟩⟩;rw[<-hl2,Nat.add_sub_cancel];exact cX
end Go.Proofs.YtclgigmgbebhgaaGreatDoor
namespace Go.Proofs.YtclgigmgbebhgaaGreatDoor
open Tryz
open Go Go.Proofs
def G.sz(g:G):Nat:=g.l.length+g.n
theorem WD(g:G)(xs:List Z9):(g.put xs).sz=g.sz+xs.length:=by
 show(g.l++xs).length+g.n=g.l.length+g.n+xs.length;rw[ay];omega
theorem UQ(g:G)(m:Nat):(g.here m).sz=g.sz+1:=by
 show(g.l++[Zr m]).length+g.n=g.l.length+g.n+1;rw[ay];show g.l.length+1+g.n=_;omega
theorem OD(g:G):g.mark.sz=g.sz+1:=by
 show g.l.length+(g.n+1)=g.l.length+g.n+1;omega
theorem W8(g:G)(c:Nat):(g.goes c).sz<=g.sz+1:=by
 unfold G.goes;split;·show g.l.length+(g.n+1)<=g.l.length+g.n+1;omega
 ·omega
theorem GB.ag5{g:G}(h:g.sz<=900000):GB g:=by
 unfold G.sz at h;exact⟨jO,jO⟩
theorem Ej(wide:Bool)(next:Nat):∀(cs:List Z5) (g:G),(Zg wide next cs g).sz<=g.sz+8*cs.length
 |[],g=>by show g.sz<=_;omega
 |c::cs,g=>by have A:=Ej wide next cs ((g.mark.put (XF c wide ((g.n+1:Nat):Int) next)).here (g.n+1));rw[UQ,WD,OD] at A;have:=Nv (c:=c) (wide:=wide) (yes:=((g.n+1:Nat):Int)) (no:=(next:Int));rw[aj];show(Zg wide next cs _).sz<=_;omega
def Wd:List Z3->Nat
 |[]=>1
 |r::rs=>8*r.1.length+4+Wd rs
theorem Ei(wide:Bool)(ow:Nat):∀(rs:List Z3) (g:G),(XN wide ow rs g).sz<=g.sz+Wd rs
 |[],g=>by show(g.put [ins 0x05 0 ow 0]).sz<=_;rw[WD];exact aR _
 |(cs,code)::rs,g=>by show(XN wide ow rs ((((Zg wide (g.n+1) cs g.mark).goes code).put _).here (g.n+1))).sz<=_;have C:=Ej wide (g.n+1) cs g.mark;have D:=W8 (Zg wide (g.n+1) cs g.mark) code;have A:=Ei wide ow rs ((((Zg wide (g.n+1) cs g.mark).goes code).put [ins 0x05 0 (look ((Zg wide (g.n+1) cs g.mark).goes code).b code) 0]).here (g.n+1));rw[UQ,WD] at A;rw[OD] at C;simp only[aj,acg] at A;show _<=g.sz+(8*cs.length+4+Wd rs);exact aO A jO
theorem Q5(ow:Nat):∀(k:Nat) (l:List (Nat×Nat)) (g:G),l.length<=k->(ZH ow l g).sz<=g.sz+4*l.length+1/\(1<=l.length->(ZH ow l g).sz+3<=g.sz+4*l.length)
 |k,[],g,_=>by rw[XE,WD];exact⟨jS,λh=>absurd h jS⟩
 |k,[(q,m)],g,_=>by rw[XD,WD];exact⟨jS,λ_=>jS⟩
 |0,x::y::r,g,hk=>by simp at hk
 |k+1,x::y::r,g,hk=>by
  have D:2<=(x::y::r).length:=jS;rw[XZ ow _ D];generalize x::y::r=l at*;have e1:(l.take (l.length/2)).length=l.length/2:=by rw[abg];omega
  have e2:(l.drop (l.length/2)).length=l.length-l.length/2:=by rw[ahg]
  obtain⟨_,A⟩:=Q5 ow k (l.take (l.length/2)) (g.mark.put [ins 0x35 (l.getD (l.length/2) (0,0)).1 ((g.n+1:Nat):Int) 0]) jO;obtain⟨_,C⟩:=Q5 ow k (l.drop (l.length/2)) ((ZH ow (l.take (l.length/2)) (g.mark.put [ins 0x35 (l.getD (l.length/2) (0,0)).1 ((g.n+1:Nat):Int) 0])).here (g.n+1)) jO;rw[UQ] at C;rw[WD,OD] at A;simp only[aj,acg] at A;have A:=A jO;have C:=C jO;exact⟨jO,λ_=>jO⟩
theorem KV:∀(l:List (Nat×Nat)) (g:G),(Zx l g).sz<=g.sz+l.length
 |[],g=>by show g.sz<=_;omega
 |p::r,g=>by have A:=KV r (g.goes p.2);have:=W8 g p.2;show(Zx r (g.goes p.2)).sz<=_;rw[aj];omega
theorem lO(ow:Nat)(l:List (Nat×Nat))(g:G):(WK ow l g).sz<=g.sz+5*l.length+2:=by
 unfold WK;have A:=KV l (g.put [ins 0x20 16 0 0]);have C:=(Q5 ow _ (l.map λp=>(p.1,look (Zx l (g.put [ins 0x20 16 0 0])).b p.2)) (Zx l (g.put [ins 0x20 16 0 0])) (aR _)).1;rw[aad] at C;rw[WD] at A;simp only[aj,acg] at A;omega
def Xz:ZM->Nat
 | .rules _ rs=>Wd rs
 | .subs l=>5*l.length+2
theorem lN(ow:Nat)(p:ZM)(g:G):(VV ow p g).sz<=g.sz+Xz p:=by
 cases p with
 |rules wide rs=>exact Ei wide ow rs g
 |subs l=>have:=lO ow l g;exact aO this (by show _<=g.sz+(5*l.length+2);omega)
def ZX:List (Nat×ZM)->Nat
 |[]=>2
 |p::ps=>6+Xz p.2+ZX ps
theorem KU(ow:Nat):∀(ps:List (Nat×ZM)) (m:Nat) (g:G),(Yb ow (ps.map (·.2)) m g).sz+2+5*ps.length<=g.sz+ZX ps
 |[],m,g=>by show g.sz+2+_<=g.sz+2;simp
 |p::ps,m,g=>by have C:=KU ow ps (m+1) (VV ow p.2 (g.here m));have A:=lN ow p.2 (g.here m);rw[UQ] at A;rw[aj];show(Yb ow (ps.map (·.2)) (m+1) (VV ow p.2 (g.here m))).sz+_+_<=g.sz+(6+Xz p.2+ZX ps);omega
theorem Eh:∀(ps:List (Nat×ZM)) (m:Nat),(Vt ps m).length=ps.length
 |[],_=>rfl
 |p::r,m=>by show(Vt r (m+1)).length+1=r.length+1;rw[Eh r (m+1)]
theorem WC(d:Nat)(ps:List (Nat×ZM))(g:G):(Za d ps g).sz<=g.sz+ZX ps:=by
 unfold Za;have D:=W8 g d;have A:=(Q5 (look (g.goes d).b d) _ (Vt ps ((g.goes d).n+1)) ⟨(g.goes d).l,(g.goes d).n+ps.length,(g.goes d).b⟩ (aR _)).1;have I:=KU (look (g.goes d).b d) ps ((g.goes d).n+1) (ZH (look (g.goes d).b d) (Vt ps ((g.goes d).n+1)) ⟨(g.goes d).l,(g.goes d).n+ps.length,(g.goes d).b⟩);rw[Eh] at A;have C:(G.mk (g.goes d).l ((g.goes d).n+ps.length) (g.goes d).b).sz=(g.goes d).sz+ps.length:=by show(g.goes d).l.length+((g.goes d).n+ps.length)=(g.goes d).l.length+(g.goes d).n+ps.length;omega
 omega
theorem sV(Vy:Bool)(d:Nat)(p0 p1:List (Nat×ZM))(g:G):(Uz Vy d p0 p1 g).sz<=g.sz+6+ZX p0+ZX p1:=by
 unfold Uz;have D:=W8 g d;have I:((g.goes d).put [ins 0x15 NONE (look (g.goes d).b d) 0]).sz<=g.sz+2:=by rw[WD];simp only[aj,acg];omega
 dsimp only;generalize (g.goes d).put [ins 0x15 NONE (look (g.goes d).b d) 0]=g1 at*;split;·have A:=WC d p0 ((g1.goes Zo).put [ins 0x45 V1 (look (g1.goes Zo).b Zo) 0]);have C:=W8 g1 Zo;rw[WD] at A;simp only[aj,acg] at A;omega
 ·have A:=WC d p0 (g1.mark.put [ins 0x45 V1 ((g1.n+1:Nat):Int) 0]);have C:=WC d p1 ((Za d p0 (g1.mark.put [ins 0x45 V1 ((g1.n+1:Nat):Int) 0])).here (g1.n+1));rw[UQ] at C;rw[WD,OD] at A;simp only[aj,acg] at A;omega
theorem sU(m:Nat)(g:G):(Vr m g).sz=g.sz+2:=by
 unfold Vr;rw[WD,UQ];rfl
def T4(p:YH):Nat:=ZX p.p0+ZX p.p1+ZX p.p2+ZX p.p3+ZX p.p4
theorem ag6(p:YH):(gD p).sz<=40+T4 p:=by
 have J:XL.sz<=12:=jD;have D:=sV p.Vy p.d p.p0 p.p1 (Vr 1 XL);have A:=WC p.d p.p2 (Vr 2 (gA p));have I:=WC p.d p.p3 (Vr 3 (gB p));have C:=WC p.d p.p4 (Vr 4 (gC p));rw[sU] at D A I C;change (gA p).sz<=_ at D;change (gB p).sz<=_ at A;change (gC p).sz<=_ at I;change (gD p).sz<=_ at C;unfold T4;omega
theorem WX(ow:Nat):∀(k:Nat) (l:List (Nat×Nat)) (g:G),l.length<=k->U9 g (ZH ow l g)
 |k,[],g,_=>by rw[XE];exact U9.put _ _
 |k,[(q,m)],g,_=>by rw[XD];exact U9.put _ _
 |0,x::y::r,g,hk=>by simp at hk
 |k+1,x::y::r,g,hk=>by have A:2<=(x::y::r).length:=jS;rw[XZ ow _ A];generalize x::y::r=l at*;exact((((U9.mark g).trans (U9.put _ _)).trans (WX ow k (l.take (l.length/2)) _ (by rw[abg];omega))).trans (U9.here _ _)).trans (WX ow k (l.drop (l.length/2)) _ (by rw[ahg];omega))
theorem UO(ow:Nat):∀(k:Nat) (l:List (Nat×Nat)) (g:G),l.length<=k->Wj g->Wj (ZH ow l g)
 |k,[],g,_,h=>by rw[XE];exact h.put _
 |k,[(q,m)],g,_,h=>by rw[XD];exact h.put _
 |0,x::y::r,g,hk,_=>by simp at hk
 |k+1,x::y::r,g,hk,h=>by have A:2<=(x::y::r).length:=jS;rw[XZ ow _ A];generalize x::y::r=l at*;exact UO ow k _ _ (by rw[ahg];omega) ((UO ow k _ _ (by rw[abg];omega) (h.mark.put _)).here _)
theorem TF:∀(l:List (Nat×Nat)) (g:G),U9 g (Zx l g)
 |[],g=>U9.refl g
 |p::r,g=>(U9.goes g p.2).trans (TF r _)
theorem MO:∀(l:List (Nat×Nat)) (g:G),Wj g->(∀p∈l,p.2<4294967296)->Wj (Zx l g)
 |[],_,h,_=>h
 |p::r,g,h,hl=>MO r _ (h.goes (hl p jS)) (λq A=>hl q (by simp[A]))
theorem sT(ow:Nat)(l:List (Nat×Nat))(g:G):U9 g (WK ow l g):=
 ((U9.put g _).trans (TF l _)).trans (WX ow _ _ _ (aR _))
theorem Eg(ow:Nat)(p:ZM)(g:G):U9 g (VV ow p g):=by
 cases p with
 |rules wide rs=>exact Nw wide ow rs g
 |subs l=>exact sT ow l g
theorem TE(ow:Nat):∀(ps:List ZM) (m:Nat) (g:G),U9 g (Yb ow ps m g)
 |[],_,g=>U9.refl g
 |p::ps,m,g=>((U9.here g m).trans (Eg ow p _)).trans (TE ow ps (m+1) _)
end Go.Proofs.YtclgigmgbebhgaaGreatDoor
