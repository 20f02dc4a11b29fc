/- TopFirst: part 27: TopRead TopKeysU TopItems TopPl3 TopPl4. -/
import Derived.Shelf.SlIterI.Collect
import Derived.Test.YtclgigmgbebhgaaGreatDoorF26
set_option linter.unusedVariables false
set_option linter.unusedSimpArgs false
set_option maxRecDepth 100000
set_option maxHeartbeats 16000000
namespace Go.Proofs.YtclgigmgbebhgaaGreatDoor
open Tryz
open Go Go.Proofs Go.RowKit Go.Shelf
variable {L j g off N:Nat} {W:World}
attribute [local go_sem] atb
@[go_sem] abbrev fF:Oper:=⟨some 32,.load 84 (.tmp 4),84,"inst.go:106",#[],none⟩
@[go_sem] abbrev fE:Oper:=⟨some 44,.buildSlice 84 1 #[(0,.tmp 43)],84,"inst.go:106",#[⟨11,.data⟩],none⟩
@[go_sem] abbrev fD:Oper:=⟨some 45,.call {callee:=.builtin .append,args:=#[.tmp 32,.tmp 44],argTypes:=#[84,84]},84,"inst.go:106",#[⟨0,.data⟩,⟨12,.data⟩],none⟩
@[go_sem] abbrev fC:Oper:=⟨none,.store 84 (.tmp 4) (.tmp 45),0,"inst.go:106",#[⟨13,.data⟩,⟨13,.chain⟩,⟨0,.phase⟩,⟨1,.phase⟩,⟨2,.phase⟩,⟨3,.phase⟩,⟨4,.phase⟩,⟨5,.phase⟩,⟨6,.phase⟩,⟨7,.phase⟩,⟨8,.phase⟩,⟨9,.phase⟩,⟨10,.phase⟩,⟨11,.phase⟩,⟨12,.phase⟩,⟨13,.phase⟩],none⟩
theorem u1q{ad:Option Addr}{c:Nat}(w:World):Calls prog 62 #[.slice ad L c,.int .i64 8] w λe w'=>e=.returned (.func (.func 115) #[] #[.pointer (some ⟨w.heap.size,0,none⟩),.pointer (some ⟨w.heap.size+1,0,none⟩)])/\w'=(w.alloc (.cells #[.slice ad L c] 42)).alloc (.cells #[.int .i64 8] 3):=by
 have C:∀(fn:Fn) (first cap:Array Value) (w:World),(Instr.makeFunc fn first cap).run prog w=.ok (.func fn first cap) w:=λ_ _ _ _=>rfl
 go_enter func62,ntmps62;go_wp2_with fail;go_ret;exact⟨rfl,rfl⟩
theorem JT{n:Nat}(h:j<n):(List.range n).take (j+1)=(List.range n).take j++[j]:=by
 rw[afd,anf h];rfl
theorem uZ(n:Nat):(List.range n).take n=List.range n:=abe (by rw[afe];exact aR _)
theorem uY(n:Nat)(hn:1<=n)(w:World){Bs Bn M c:Nat}(hL:L=M*8)(hs:Z7 w Bs 42 #[.slice (some ⟨g,off,none⟩) L c])(hb:Z7 w Bn 3 #[.int .i64 8])(hc:L<=c)(hM:M<=100000):
 QD Fence.wide n prog 115 #[.pointer (some ⟨Bs,0,none⟩),.pointer (some ⟨Bn,0,none⟩)] (λx:Nat=>#[.slice (some ⟨g,off+x*8,none⟩) 8 8]) (λ_ _=>False) (λ_ r=>r=Bs\/r=Bn) 0 (λxs=>xs=List.range M) (λpre=>pre <+: List.range M) w:=λl J Jx W hW hJ hJx hY h0=>by
 have HS:=aT (hs.below hW hs.lt);have HB:=aT (hb.below hW hb.lt);have HY:=aT hY;have H0:=aT h0;have HL:=aT hL;clear hs hb hY h0 hL;refine aAc func115 rfl trivial ?_ rfl;simp only[ntmps115,aic,ai,acg,Nat.reduceAdd,Nat.reduceSub,ale,alf,anc,amb,ahe,ahb]
 gi_wp2
 gi_loopw [4] (λi wr=>∃j:Nat,j<=M/\(∃z:Nat,i=.int .i64 (z:Int)/\z=j*8)/\Hid (J ((List.range M).take j) wr)/\Hid (Z7 wr Bs 42 #[.slice (some ⟨g,off,none⟩) L c])/\Hid (Z7 wr Bn 3 #[.int .i64 8])/\W.heap.size<=wr.heap.size) (λi _=>M*8-(intOf i).toNat)
 case atStart=>exact⟨0,jO,⟨0,rfl,rfl⟩,H0,HS,HB,aR _⟩
 case round=>
  obtain⟨j,hj,⟨z,rfl,hz⟩,HJ,Y,T,hsz⟩:=hrel;clear HS HB H0;have k1:=Y.e0;have k2:=T.e0;by_cases hlt:j<M
  ·have U:=HL.out;have Zd:(z:Int)<(L:Int):=jO;have hzL:z+8<=L:=jO;have hzb:z<=800000:=jO;have hz0:=jZ z;have w1:IntKind.i64.wrap ((z:Int)+8)=(z:Int)+8:=aJ _ jO;have hzn:¬z=c:=jO;have Z:J ((List.range M).take j) wr.drew:=hJ _ wr wr.drew none HJ ⟨rfl,rfl,rfl,aR _,λ_ _ _=>rfl⟩ (λr e=>by cases e);obtain⟨fn,tmps,assign,body,hy,hR⟩:=HY _ j wr.drew Z (by rw[<-JT hlt];exact List.take_prefix _ _) hsz;rw[<-JT hlt] at hR;rw[<-hz] at hy;have HR:=aT hR;have HZ:=aT hz;clear hR U hz;have zj:(8:Int)<=(L:Int)-(z:Int):=jO;have aK1:z<=L:=jO;have aK2:((L-z:Nat):Int)=(L:Int)-(z:Int):=jO;have mq0:min (8:Int) ((L:Int)-(z:Int))=8:=jO
   gi_wp2_with fail
   try rw[mq0]
   have k1d:wr.drew.cell? ⟨Bs,0,none⟩=some (.slice (some ⟨g,off,none⟩) L c):=k1;have k2d:wr.drew.cell? ⟨Bn,0,none⟩=some (.int .i64 8):=k2;have I:Hid (Z7 wr.drew Bs 42 #[.slice (some ⟨g,off,none⟩) L c]):=Y;have D:Hid (Z7 wr.drew Bn 3 #[.int .i64 8]):=T;have aa1:W.heap.size<=wr.drew.heap.size:=hsz
   gi_region
   generalize wr.drew=wd at*;clear Z k1 k2 Y T HJ;have w2:IntKind.i64.wrap ((z:Int)+8)=(z:Int)+8:=aJ _ jO;have z8:(((z:Int)+8).toNat)=z+8:=jO;have hz8:(0:Int)<=(z:Int)+8:=jO;have hzc:z+8<=c:=jO;have aK3:(z:Int)+8<=(c:Int):=jO;have hzs:z+8-z=8:=jO
   try rw[mq0]
   gi_wp2_with fail
   refine HR.mono ?_;rintro e W3 ⟨hK,(⟨rfl,hJ3⟩|⟨rfl,C⟩)⟩
   ·have HJ3:=aT hJ3;have xn:Hid (Z7 W3 Bs 42 #[.slice (some ⟨g,off,none⟩) L c]):=(hK.2 _ (Z7.lt I) (.inl rfl)).trans I;have Ni:Hid (Z7 W3 Bn 3 #[.int .i64 8]):=(hK.2 _ (Z7.lt D) (.inr rfl)).trans D;have jI:=aO aa1 hK.1;have y2:=Ni.e0;clear hJ3 hK I D k1d k2d
    gi_wp2
    go_roundw
    case rel=>exact⟨j+1,jO,⟨z+8,by go_num,by have:=HZ.out;omega⟩,HJ3,xn,Ni,jI⟩
    case measure=>
     have:=HZ.out;simp[intOf];omega
   ·have HX:=aT C;clear C
    gi_wp2
    refine aaf (aof rfl _ _ _) rfl ?_;exact⟨⟨_,rfl⟩,.inr ⟨_,List.take_prefix _ _,HX⟩⟩
  ·obtain rfl:j=M:=by omega
   have U:=HL.out;have Zd:¬(z:Int)<(L:Int):=jO;clear U
   gi_wp2
   go_end0;have:=HJ.out;rw[uZ] at this;exact⟨⟨_,rfl⟩,.inl this⟩
theorem AE {l:List ZN}{x:Nat}{i:ZN}(h:Yi N W (some ⟨g,off,none⟩) (Yz l))(hx:l[x]? =some i):Yi N W (some ⟨g,off+x*8,none⟩) i.bytes:=λj b hb=>by
 have D:j<8:=(ak.1 hb).1;obtain⟨g',C,e,hl,hc⟩:=h (x*8+j) b ((Mo l x i hx j D).trans hb);cases e;exact⟨g,off+x*8,rfl,hl,by rw[aAb];exact hc⟩
theorem jH{i:ZN}(h:i.fit):TD i.bytes (Yj 0 2)=i.code:=by
 rw[aa2];have:=ax ZN.code (NN h);exact this
theorem az2{i:ZN}(h:i.fit):TD i.bytes (Yj 4 4)=i.k:=by
 rw[pU];have:=ax ZN.k (NN h);exact this
theorem VI {B e size n:Nat}{v u:Value}{xs:List Value}(h:W.ownsRow B e size v n xs)(J:v.ownBlock≠some g):(W.setCell ⟨g,j,none⟩ u).ownsRow B e size v n xs:=by
 refine⟨h.1,?_⟩;rcases h.2 with C|⟨I,cap,D,T,C,U,Y⟩;·exact .inl C
 ·refine .inr ⟨I,cap,D,T,C,(afc W ⟨g,j,none⟩ u I (show I≠g from λe2=> ?_)).trans U,Y⟩;subst e2;rw[T] at J;exact J rfl
def yr(B4 h:Nat)(l:List ZN)(w0:World)(pre:List Nat)(W:World):Prop:=∃v,Z7 W B4 84 #[v]/\W.ownsRow (h+2) XD 4 v pre.length ((l.take pre.length).flatMap NM)/\Below w0.heap.size w0 W
theorem FZ{B4 h:Nat}{l:List ZN}{w0:World}(J:B4≠h+1)(T:w0.heap.size<=h+1):YL (λr=>r=h+1\/False) (yr B4 h l w0):=λU A B row ⟨v,hb,ho,D⟩ I hr=>by
 have C:∀k,row=some k->k=h+1:=λk e=>(hr k e).elim id (λe=>e.elim)
 refine⟨v,hb.kept I (λe=>J (C _ e.symm)),ho.kept I ?_,D.grown I D.size (λk e=>by rw[C k e];exact T)⟩;rcases ho.2 with⟨rfl,_⟩|⟨k,cap,Y,rfl,Z,hk,_⟩;·exact .inl rfl
 ·refine .inr (λe=> ?_);have e2:some k=row:=e;have:=C k e2.symm;omega
theorem pR{n c:Nat}{l:List ZN}(hn:l.length=n)(hL:L=n*8)(hn1:1<=n)(Xo:n<=4096)(uX:∀x∈l,x.fit)(hc:L<=c)(w:World)(hm:Yi N w (some ⟨g,off,none⟩) (Yz l))(hN:N<=w.heap.size):
 Calls prog 29 #[.slice (some ⟨g,off,none⟩) L c] w λe w'=>∃v,e=.returned (.tuple #[v,.int .i64 0])/\w'.ownsRow w.heap.size XD 4 v n (l.flatMap NM)/\Below w.heap.size w w':=by
 have HLN:=aT hn;have HL:=aT hL;have HM:=aT hm;have HF:=aT uX;have hb1:¬(32768:Int)<(L:Int):=jO;have hb2:(L:Int)%8=0:=jO;have hb3:(L:Int).tmod 8=0:=by rw[Int.tmod_eq_emod_of_nonneg jO];omega
 have VE:=aT ((aG w.heap.size w).alloc (aR _) (.cells #[.slice none 0 0] 84));have HD1:=aT (Z7.new w 84 #[.slice none 0 0]);clear hn hL hm uX;refine(ajc (n:=8)).1 ?_;refine ayb func29 rfl trivial ?_ rfl;simp only[ntmps29,aic,ai,acg,Nat.reduceAdd,Nat.reduceSub,ale,alf,anc,amb,ahe,ahb]
 gi_upto_region 6 with fail
 generalize w.alloc (.cells #[.slice none 0 0] 84)=w1 at*;have aK4:w.heap.size<w1.heap.size:=HD1.lt
 gi_wp2_with fail
 refine⟨trivial,?_⟩;refine(ajc.2 (u1q (ad:=some ⟨g,off,none⟩) (L:=L) (c:=c) w1)).mono ?_;rintro e Y ⟨rfl,hw2⟩;have Qw:Hid (Z7 Y w1.heap.size 42 #[.slice (some ⟨g,off,none⟩) L c]):=by rw[hw2];exact(Z7.new w1 _ _).alloc _
 have HN2:Hid (Z7 Y (w1.heap.size+1) 3 #[.int .i64 8]):=by rw[hw2];have:=Z7.new (w1.alloc (.cells #[.slice (some ⟨g,off,none⟩) L c] 42)) 3 #[.int .i64 8];rwa [aj] at this
 have hbz:Below w1.heap.size w1 Y:=by rw[hw2];exact((aG _ w1).alloc (aR _) _).alloc jS _
 have XX:=aT (VE.trans (hbz.mono VE.size));have lx:=aT (HD1.below hbz HD1.lt);have Ro:w1.heap.size+1<Y.heap.size:=HN2.lt;clear hw2 hbz VE HD1;generalize w1.heap.size=B2 at*
 gi_wp2_with fail
 refine Xe rfl jD (gf:=115) (lb:=#[.pointer (some ⟨B2,0,none⟩),.pointer (some ⟨B2+1,0,none⟩)]) rfl trivial (enters_of func115 jK rfl)
  (uY 7 jO Y HL Qw HN2 hc jO) (λr h=>h.elim) (λr h=>jO) (aG _ _) (λ_=>rfl)
  (yr w.heap.size Y.heap.size l w)
  (λ_ _ _=>False)
  (FZ jO jO)
  (λc _ _ _ _ h _ _=>h)
  ⟨_,lx,Ya _ _ _ _,XX⟩
  (λx a' W=>a'={tmps:=#[.slice (some ⟨g,off,none⟩) L c,undef,.slice none 0 0,.int .i64 0,.pointer (some ⟨w.heap.size,0,none⟩),.slice (some ⟨g,off+x*8,none⟩) 8 8,undef,undef,undef,undef,.bool false,.slice (some ⟨g,off,none⟩) L c,.int .i64 L,.bool false,.bool false,.slice (some ⟨g,off,none⟩) L c,.int .i64 L,.int .i64 0,.bool false,.slice (some ⟨g,off,none⟩) L c,.func (.func 115) #[] #[.pointer (some ⟨B2,0,none⟩),.pointer (some ⟨B2+1,0,none⟩)],.slice (some ⟨g,off+x*8,none⟩) 8 8,undef,undef,undef,undef,undef,undef,undef,undef,undef,undef,undef,undef,undef,undef,undef,undef,undef,undef,undef,undef,undef,undef,undef,undef,undef],defers:=[]})
  (λ_ _ _ _ _ _ h _ _=>h)
  ?assign ?body ?done ?stop
 case assign=>
  rintro l' C x W K hI hsp hsz J
  gi_wp2
  exact J _ _ (ZT.refl _ _) hI rfl
 case body=>
  rintro l' C x a' W hsz hsp hI rfl;have hx:=Dj hsp;obtain rfl:x=C.length:=by obtain⟨hlt,e⟩:=ak.1 hx;rw[List.getElem_range] at e;exact e.symm
  have Dx:C.length<n:=by have:=(ak.1 hx).1;rwa [afe] at this
  obtain⟨v,hblk,hown,Kl⟩:=hI;obtain⟨i,hi⟩:∃i,l[C.length]? =some i:=⟨_,aL (by rw[HLN.out];exact Dx)⟩;have hfi:=HF i (ag hi);have vh:(l.take (C++[C.length]).length).flatMap NM=(l.take C.length).flatMap NM++NM i:=by rw[ay,aob,afd,hi,aca];simp
  have sQ:=aT vh;have hle:(C++[C.length]).length=C.length+1:=by rw[ay,aob]
  have HLE:=aT hle;clear vh hle;have HPB:Hid (∀W',Below w.heap.size w W'->Yi N W' (some ⟨g,off+C.length*8,none⟩) i.bytes):=λW' Z=>AE (HM.below Z hN) hi
  have pQ:∀b∈i.bytes,b<256:=by
   obtain⟨h1,h2,h3,h4⟩:=hfi;intro b hb;unfold ZN.bytes at hb;simp only[abb,ahd,arc] at hb;rcases hb with rfl|rfl|rfl|rfl|rfl|rfl|rfl|rfl
   all_goals first|assumption|exact avf _ jD
  have HC:Hid (∀W',Below w.heap.size w W'->Calls prog 63 #[.slice (some ⟨g,off+C.length*8,none⟩) 8 8,.int .i64 0,.int .i64 2,.bool false] W' λe w'=>e=.returned (.tuple #[.int .u64 i.code,.int .i64 0])/\Below W'.heap.size W' w'):=λW' Z=>by have:=F4 (L:=8) (c:=8) (at_:=0) (k:=2) (.inl rfl) rfl jO jO pQ W' (HPB W' Z) (aO hN Z.size);rw[jH hfi] at this;exact this
  have lz:Hid (∀W',Below w.heap.size w W'->Calls prog 63 #[.slice (some ⟨g,off+C.length*8,none⟩) 8 8,.int .i64 4,.int .i64 4,.bool false] W' λe w'=>e=.returned (.tuple #[.int .u64 i.k,.int .i64 0])/\Below W'.heap.size W' w'):=λW' Z=>by have:=F4 (L:=8) (c:=8) (at_:=4) (k:=4) (.inr rfl) rfl jO jO pQ W' (HPB W' Z) (aO hN Z.size);rw[az2 hfi] at this;exact this
  have HJ2:Hid (∀W',Below w.heap.size w W'->W'.cell? ⟨g,off+C.length*8+2,none⟩=some (.int .u8 i.jt)/\W'.cell? ⟨g,off+C.length*8+3,none⟩=some (.int .u8 i.jf)):=λW' Z=>by obtain⟨g1,o1,e1,_,h1⟩:=HPB W' Z 2 i.jt rfl;obtain⟨g2,o2,e2,_,h2⟩:=HPB W' Z 3 i.jf rfl;cases e1;cases e2;exact⟨h1,h2⟩
  have hpc:C.length<=4096:=jO;obtain⟨i0,XS,hz0,hz1,hz2⟩:=ZP OO;obtain⟨hf0,vE,hf2,hf3⟩:=hfi;obtain⟨ic,T,U,ik⟩:=i;dsimp only at HC lz HJ2 hf0 vE hf2 hf3;have q1:IntKind.u16.wrap (ic:Int)=(ic:Int):=IntWalk.u16_in _ jO;have q2:IntKind.u32.wrap (ik:Int)=(ik:Int):=awg _ jO;have AD:=aT Kl;have aa4:=aT hblk;have al3:=aT hown;have HKP:Hid (ZT (YZ (λ_ r=>r=B2\/r=B2+1) Y.heap.size) W W):=ZT.refl _ _;clear hx hsp hblk hown Kl hi pQ HPB;generalize C.length=P at*
  gi_wp2_with fail
  refine⟨trivial,?_⟩;refine(CallsIn.inRound l' (ajc.2 (HC _ AD))).mono ?_;rintro e w3 ⟨rfl,hb⟩;have yq:=aT (AD.trans (hb.mono AD.size));have pP:=aT (aa4.below hb aa4.lt);have fB:=aT (ZC al3 hb);have aa5:=aT (HKP.trans (ZT.below hb));clear hb AD aa4 al3 HKP HC
  gi_wp2_with fail
  refine⟨trivial,?_⟩;refine(CallsIn.inRound l' (ajc.2 (lz _ yq))).mono ?_;rintro e w4 ⟨rfl,hb⟩;have jI:Y.heap.size+2<=w4.heap.size:=aO (aO hsz aa5.1) hb.size;have pO:=aT (yq.trans (hb.mono yq.size));have fA:=aT (pP.below hb pP.lt);have fz:=aT (ZC fB hb);have al4:=aT (aa5.trans (ZT.below hb));clear hb yq pP fB aa5 lz;obtain⟨c2,c3⟩:=HJ2 w4 pO;have xn:Hid (w4.drew.cell? ⟨g,off+P*8+2,none⟩=some (.int .u8 T)/\w4.drew.cell? ⟨g,off+P*8+3,none⟩=some (.int .u8 U)):=⟨c2,c3⟩;clear c2 c3;have tH:Hid (Below w.heap.size w w4.drew):=pO.drew;have aV:Hid (Z7 w4.drew w.heap.size 84 #[v]):=fA;have HO5:Hid (w4.drew.ownsRow (Y.heap.size+2) XD 4 v P ((l.take P).flatMap NM)):=fz;have Ci:Hid (ZT (YZ (λ_ r=>r=B2\/r=B2+1) Y.heap.size) W w4.drew):=al4;have aK5:Y.heap.size+2<=w4.drew.heap.size:=jI
  gi_wp2_with fail
  refine F2 (S:=λw'=>w'.cell? ⟨g,off+P*8+2,none⟩=some (.int .u8 T)/\w'.cell? ⟨g,off+P*8+3,none⟩=some (.int .u8 U)) jK (by intro o ho cc;simp only[abb,ahd,arc] at ho;rcases ho with rfl|rfl|rfl|rfl|rfl|rfl|rfl|rfl|rfl|rfl|rfl|rfl|rfl|rfl|rfl<;>(intro h;cases h)) xn (λhHeld=> ?_);clear pO fA fz al4;generalize w4.drew=wd at*;clear jI;refine jT 1 ⟨some 33,.move (.tmp 6),23,"inst.go:106",#[],none⟩ ?_;try simp only[Act.put,aS,aP,aQ]
  refine jT 2 ⟨some 34,.convert 23 137 (.tmp 33),137,"inst.go:106",#[⟨1,.data⟩],none⟩ ?_;try simp only[Act.put,aS,aP,aQ]
  refine jT 3 ⟨some 35,.move (.tmp 5),42,"inst.go:106",#[],none⟩ ?_;try simp only[Act.put,aS,aP,aQ]
  refine jT 4 ⟨some 36,.indexAddr 42 (.tmp 35) (.const (.int .i64 2)),0,"inst.go:106",#[⟨3,.data⟩],none⟩ ?_;try simp only[Act.put,aS,aP,aQ]
  refine jT 5 ⟨some 37,.load 5 (.tmp 36),5,"inst.go:106",#[⟨4,.data⟩],none⟩ ?_;try simp only[Act.put,aS,aP,aQ]
  refine jT 6 ⟨some 38,.move (.tmp 5),42,"inst.go:106",#[],none⟩ ?_;try simp only[Act.put,aS,aP,aQ]
  refine jT 7 ⟨some 39,.indexAddr 42 (.tmp 38) (.const (.int .i64 3)),0,"inst.go:106",#[⟨6,.data⟩],none⟩ ?_;try simp only[Act.put,aS,aP,aQ]
  refine jT 8 ⟨some 40,.load 5 (.tmp 39),5,"inst.go:106",#[⟨7,.data⟩],none⟩ ?_;try simp only[Act.put,aS,aP,aQ]
  refine jT 9 ⟨some 41,.move (.tmp 8),23,"inst.go:106",#[],none⟩ ?_;try simp only[Act.put,aS,aP,aQ]
  refine jT 10 ⟨some 42,.convert 23 53 (.tmp 41),53,"inst.go:106",#[⟨9,.data⟩],none⟩ ?_;try simp only[Act.put,aS,aP,aQ]
  refine jT 11 ⟨some 43,.build 166 #[(0,.tmp 34),(1,.tmp 37),(2,.tmp 40),(3,.tmp 42)],166,"inst.go:106",#[⟨2,.data⟩,⟨5,.data⟩,⟨8,.data⟩,⟨10,.data⟩],none⟩ ?_;try simp only[Act.put,aS,aP,aQ]
  have HLT:=aT (Z7.new wd XD #[.int .u16 ic,.int .u8 T,.int .u8 U,.int .u32 ik]);have Ed:=aT (tH.alloc tH.size (.cells #[.int .u16 ic,.int .u8 T,.int .u8 U,.int .u32 ik] XD));have Cf:=aT (aV.alloc (.cells #[.int .u16 ic,.int .u8 T,.int .u8 U,.int .u32 ik] XD));have K4:=aT (ZC HO5 ((aG wd.heap.size wd).alloc (aR _) (.cells #[.int .u16 ic,.int .u8 T,.int .u8 U,.int .u32 ik] XD)));have HPA:=aT (Ci.trans (ZT.alloc wd (.cells #[.int .u16 ic,.int .u8 T,.int .u8 U,.int .u32 ik] XD)));have mN:Y.heap.size+2<=(wd.alloc (.cells #[.int .u16 ic,.int .u8 T,.int .u8 U,.int .u32 ik] XD)).heap.size:=by rw[aj];omega
  have Jf:Hid ((wd.alloc (.cells #[.int .u16 ic,.int .u8 T,.int .u8 U,.int .u32 ik] XD)).cell? ⟨g,off+P*8+2,none⟩=some (.int .u8 T)/\(wd.alloc (.cells #[.int .u16 ic,.int .u8 T,.int .u8 U,.int .u32 ik] XD)).cell? ⟨g,off+P*8+3,none⟩=some (.int .u8 U)):=HJ2 _ Ed;have k4:=aV.cell 0;have k5:=Cf.cell 0;have f5:=Cf.frozen 0;simp only[au,aM] at k4 k5;refine aba (rs:=[0,12]) jK jS ?_;refine ae (o:=fF) rfl (λK' J=> ?az3) (ae (o:=fE) rfl (λK' J=> ?az4) aae)
  case az3=>
   go_simp;refine J _ _ hHeld (λhHeld=> ?_);clear J K';try simp only[Act.put,aS,aP,aQ]
   refine aba (rs:=[12]) jK jS ?_;refine ae (o:=fE) rfl (λK' J=> ?_) aae;go_simp;clear hHeld;refine J _ _ Jf (λhHeld=> ?_);clear J K';try simp only[Act.put,aS,aP,aQ]
   refine aba (rs:=[13]) jK jS ?_;refine ae (o:=fD) rfl (λK' J=> ?_) aae;refine X6 _ _ _ 84 jR (Y.heap.size+2) XD i0 (.agg #[.int .u16 0,.int .u8 0,.int .u8 0,.int .u32 0]) 4 8 underlying84 XS hz0 hz1 hz2 rfl jD v P _ jR K4 ⟨wd.heap.size,0,none⟩ 1 1 [.int .u16 ic,.int .u8 T,.int .u8 U,.int .u32 ik] jR rfl (YX rfl) (by simp[Value.oneCell']) (by unfold maxLen;omega) jO mN ?_;intro v' w7 I D;have Jg:∀k,v.ownBlock=some k->w.heap.size<=k/\k≠w.heap.size/\Y.heap.size+2<=k:=λk e=>by have:=(K4.lt k e).1;omega
   have Od:=aT (Ed.grown D Ed.size (λk e=>(Jg k e).1));have HK7:=aT (Cf.kept D (λe=>(Jg _ e.symm).2.1 rfl));have LA:=aT (HJ2 _ Od);have hnk:∀k,v.ownBlock=some k->¬YZ (λ_ r=>r=B2\/r=B2+1) Y.heap.size k:=λk e hk=>by have:=Jg k e;unfold YZ at hk;omega
   have HP7:=aT (HPA.trans (ZT.grown D hnk));obtain⟨g7,q7,rfl,_,_⟩:=World.ownsRow.form I jO;have Lz:=aT I;have k7:=HK7.cell 0;have f7:=HK7.frozen 0;simp only[au,aM] at k7;clear D I hnk Jg;clear hHeld;refine J _ _ LA (λhHeld=> ?_);clear J K';try simp only[Act.put,aS,aP,aQ]
   refine aba (rs:=[14]) jK jS ?_;refine ae (o:=fC) rfl (λK' J=> ?_) aae;have yo:Hid (Below w.heap.size w (w7.setCell ⟨w.heap.size,0,none⟩ (.slice (some ⟨g7,0,none⟩) (P+1) q7))):=Od.setCell (p:=⟨w.heap.size,0,none⟩) (aR _) (.slice (some ⟨g7,0,none⟩) (P+1) q7);have Eb:=aT (HJ2 _ yo);have RZ:Hid (ZT (YZ (λ_ r=>r=B2\/r=B2+1) Y.heap.size) W (w7.setCell ⟨w.heap.size,0,none⟩ (.slice (some ⟨g7,0,none⟩) (P+1) q7))/\yr w.heap.size Y.heap.size l w (C++[P]) (w7.setCell ⟨w.heap.size,0,none⟩ (.slice (some ⟨g7,0,none⟩) (P+1) q7))):=by refine⟨HP7.trans (ZT.setCell _ _ _ (λhk=>by unfold YZ at hk;simp only at hk;omega)),(.slice (some ⟨g7,0,none⟩) (P+1) q7),HK7.set 0 (.slice (some ⟨g7,0,none⟩) (P+1) q7),?_,yo⟩;rw[sQ.out,HLE.out];exact VI Lz (λe=>by have:=(Lz.lt _ e).1;omega)
   go_simp;clear hHeld;refine J _ _ Eb (λhHeld=> ?_);clear J K';refine ana jK ?_ _;clear k4 k5 f5 k7 f7
   gi_wp2
   exact RZ
  case az4=>
   go_simp;clear hHeld;refine J _ _ Jf (λhHeld=> ?_);clear J K';try simp only[Act.put,aS,aP,aQ]
   refine aba (rs:=[0]) jK jS ?_;refine ae (o:=fF) rfl (λK' J=> ?_) aae;go_simp;refine J _ _ hHeld (λhHeld=> ?_);clear J K';try simp only[Act.put,aS,aP,aQ]
   refine aba (rs:=[13]) jK jS ?_;refine ae (o:=fD) rfl (λK' J=> ?_) aae;refine X6 _ _ _ 84 jR (Y.heap.size+2) XD i0 (.agg #[.int .u16 0,.int .u8 0,.int .u8 0,.int .u32 0]) 4 8 underlying84 XS hz0 hz1 hz2 rfl jD v P _ jR K4 ⟨wd.heap.size,0,none⟩ 1 1 [.int .u16 ic,.int .u8 T,.int .u8 U,.int .u32 ik] jR rfl (YX rfl) (by simp[Value.oneCell']) (by unfold maxLen;omega) jO mN ?_;intro v' w7 I D;have Jg:∀k,v.ownBlock=some k->w.heap.size<=k/\k≠w.heap.size/\Y.heap.size+2<=k:=λk e=>by have:=(K4.lt k e).1;omega
   have Od:=aT (Ed.grown D Ed.size (λk e=>(Jg k e).1));have HK7:=aT (Cf.kept D (λe=>(Jg _ e.symm).2.1 rfl));have LA:=aT (HJ2 _ Od);have hnk:∀k,v.ownBlock=some k->¬YZ (λ_ r=>r=B2\/r=B2+1) Y.heap.size k:=λk e hk=>by have:=Jg k e;unfold YZ at hk;omega
   have HP7:=aT (HPA.trans (ZT.grown D hnk));obtain⟨g7,q7,rfl,_,_⟩:=World.ownsRow.form I jO;have Lz:=aT I;have k7:=HK7.cell 0;have f7:=HK7.frozen 0;simp only[au,aM] at k7;clear D I hnk Jg;clear hHeld;refine J _ _ LA (λhHeld=> ?_);clear J K';try simp only[Act.put,aS,aP,aQ]
   refine aba (rs:=[14]) jK jS ?_;refine ae (o:=fC) rfl (λK' J=> ?_) aae;have yo:Hid (Below w.heap.size w (w7.setCell ⟨w.heap.size,0,none⟩ (.slice (some ⟨g7,0,none⟩) (P+1) q7))):=Od.setCell (p:=⟨w.heap.size,0,none⟩) (aR _) (.slice (some ⟨g7,0,none⟩) (P+1) q7);have Eb:=aT (HJ2 _ yo);have RZ:Hid (ZT (YZ (λ_ r=>r=B2\/r=B2+1) Y.heap.size) W (w7.setCell ⟨w.heap.size,0,none⟩ (.slice (some ⟨g7,0,none⟩) (P+1) q7))/\yr w.heap.size Y.heap.size l w (C++[P]) (w7.setCell ⟨w.heap.size,0,none⟩ (.slice (some ⟨g7,0,none⟩) (P+1) q7))):=by refine⟨HP7.trans (ZT.setCell _ _ _ (λhk=>by unfold YZ at hk;simp only at hk;omega)),(.slice (some ⟨g7,0,none⟩) (P+1) q7),HK7.set 0 (.slice (some ⟨g7,0,none⟩) (P+1) q7),?_,yo⟩;rw[sQ.out,HLE.out];exact VI Lz (λe=>by have:=(Lz.lt _ e).1;omega)
   go_simp;clear hHeld;refine J _ _ Eb (λhHeld=> ?_);clear J K';refine ana jK ?_ _;clear k4 k5 f5 k7 f7
   gi_wp2
   exact RZ
 case done=>
  rintro xs W rfl ⟨v,hblk,hown,Kl⟩ J;have k0:=hblk.e0;rw[afe,abe (by rw[HLN.out];exact aR _)] at hown
  gi_wp2
  refine⟨jS,.inl ⟨_,_,rfl,axg J,?_⟩⟩;refine⟨.tuple #[v,.int .i64 0],?_,v,rfl,?_,Kl.trans (belowK_b (w:=w) (aR _) _ Y.heap.size _ (.deferred none) jO J rfl rfl)⟩;·simp[results,Tryz.f29,go_sem]
  ·have:=Y7 hown (show w.heap.size<=Y.heap.size+2 from jO);refine⟨this.1,?_⟩;rcases this.2 with h2|⟨k,cap,cur,h1,h2,h3,h4⟩;·exact .inl h2
   ·refine .inr ⟨k,cap,cur,h1,h2,?_,h4⟩;show(W.heap.setIfInBounds Y.heap.size _)[k]? =_;rw[aif (by have:=hown.lt k (by rw[h1];rfl);omega)];exact h3
 case stop=>
  rintro c C W hS h J;exact h.elim
end Go.Proofs.YtclgigmgbebhgaaGreatDoor
namespace Go.Proofs.YtclgigmgbebhgaaGreatDoor
open Tryz
open Go Go.Proofs Go.RowKit Go.Maps Go.WideMaps Go.ChangeMaps Go.Sort Go.Shelf
variable {cur:Array Value} {ss:List Nat} {base Bm nn g:Nat} {W w:World}
attribute [local go_sem] atb
theorem fy(W:World)(o:Obj):Below W.heap.size W (W.alloc o):=(aG _ W).alloc (aR _) _
theorem JS {e s n:Nat}{v:Value}{xs:List Value}(h:W.ownsRow base e s v n xs):∃a c,v=.slice a n c:=by
 rcases h.2 with⟨rfl,D⟩|⟨g,cap,C,rfl,_⟩;·exact⟨none,0,by rw[D]⟩
 ·exact⟨_,_,rfl⟩
theorem uW(l:List Nat):Vw l=l.map ZK:=(List.map_eq_flatMap).symm
theorem uV(C:Option Nat)(W:World):Calls prog 57 #[.map C] W λe w'=>e=.returned (.func (.func 108) #[] #[.pointer (some ⟨W.heap.size,0,none⟩)])/\w'=W.alloc (.cells #[.map C] 133):=by
 have D:∀(fn:Fn) (first cap:Array Value) (w:World),(Instr.makeFunc fn first cap).run prog w=.ok (.func fn first cap) w:=λ_ _ _ _=>rfl
 go_enter func57,ntmps57;go_wp2_with fail;go_ret;exact⟨rfl,rfl⟩
theorem pN{x y:Nat}(h:ZK x=ZK y):x=y:=by
 unfold ZK at h;injection h with _ h;omega
theorem Hd{key:Value}{kl:Lit}(h:keyOf prog 53 key=some kl):∃n:Nat,key=ZK n/\kl=.int .u32 (n:Int):=by
 have hk:=underlying53;cases key<;>simp[keyOf,hk,mapKey] at h
 rename_i q a;obtain⟨⟨rfl,hw⟩,rfl⟩:=h;have D:0<=a:=by have C:(decide (IntKind.u32.min<=a)&&decide (a<=IntKind.u32.max))=true:=hw;rw[aef,adf] at C;exact C.1
 obtain⟨n,rfl⟩:∃n:Nat,a=(n:Int):=⟨a.toNat,jO⟩;exact⟨n,rfl,rfl⟩
def R6(D:DataW Unit)(left:Lit->Bool)(ss:List Nat):Prop:=ss.Nodup/\∀x:Nat,x∈ss↔(Maps.has D (.int .u32 x)=true/\left (.int .u32 x)=false)
theorem R6.start(D:DataW Unit):R6 D (Maps.has D) []:=⟨List.nodup_nil,λx=>by cases Maps.has D (.int .u32 x)<;>simp⟩
theorem R6.step{D:DataW Unit}{left:Lit->Bool} (h:R6 D left ss){x:Nat}(C:Maps.has D (.int .u32 x)=true)(J:left (.int .u32 x)=true):R6 D (λz=>left z && !z.sameKey (.int .u32 x)) (ss++[x]):=by
 have I:x∉ss:=λhx=>by have T:=((h.2 x).1 hx).2;rw[J] at T;cases T
 refine⟨atg.2 ⟨h.1,jS,λa ha b hb e=>I (by rw[<-aaa.1 hb,<-e];exact ha)⟩,λy=> ?_⟩;rw[abf,h.2 y,aaa];by_cases hy:y=x;·subst hy;simp[C,Lit.sameKey]
 ·have:¬(y:Int)=(x:Int):=by omega
  simp[hy,Lit.sameKey,this]
theorem R6.perm{D:List (Lit×DataW Unit)}{b:List (Nat×Nat)}{left:Lit->Bool} (h:R6 (.map D) left ss)(hl:∀I,left I=false)(C:D.Perm ((Qx b).map λp=>((keyOf prog 53 p.1).getD (.bool false),.lit (.bool true))))(hk:b.Pairwise (λp q=>p.1≠q.1))(hb:∀p∈b,p.1<4294967296/\p.2≠0):ss.Perm (b.map (·.1)):=by
 refine(List.perm_ext_iff_of_nodup h.1 (afa.2 hk)).2 λx=> ?_
 rw[h.2 x,hl];have e:∀p∈b,((keyOf prog 53 (.int .u32 p.1)).getD (.bool false))=.int .u32 (p.1:Int):=λp hp=>by
  rw[keyOf_int_mk underlying53 (by have:=(hb p hp).1;show(decide (IntKind.u32.min<=(p.1:Int))&&decide ((p.1:Int)<=IntKind.u32.max))=true;rw[aef,adf,adf];show(0:Int)<=(p.1:Int)/\(p.1:Int)<=4294967295;omega)]
  rfl
 rw[Maps.has_eq,aka,ah];constructor
 ·rintro⟨⟨q,J,hs⟩,_⟩;obtain⟨v,hv,rfl⟩:=ah.1 (C.mem_iff.1 J);obtain⟨p,hp,rfl⟩:=ah.1 hv;rw[show(Qx b).map _=_ from rfl] at*;dsimp only at hs;rw[e p hp] at hs;refine⟨p,hp,?_⟩;have:(p.1:Int)=(x:Int):=by simpa [Lit.sameKey] using hs
  omega
 ·rintro⟨p,hp,rfl⟩;refine⟨⟨_,C.mem_iff.2 (ah.2 ⟨(.int .u32 p.1,.int .i64 p.2),ah.2 ⟨p,hp,rfl⟩,rfl⟩),?_⟩,rfl⟩;dsimp only;rw[e p hp];simp[Lit.sameKey]
theorem uU(n:Nat)(hn:1<=n)(Bm B nn:Nat)(D:DataW Unit)(w:World)(U:Z7 w Bm 133 #[.map (some B)])(C:w.ownsMap prog 53 Rc B nn D):
 QD Fence.wide n prog 108 #[.pointer (some ⟨Bm,0,none⟩)] (λx:Nat=>#[ZK x]) (λh r=>r=h) (λh r=>r=h\/r=B) 1 (λss=>R6 D (λ_=>false) ss) (λpre=>pre.length<=Maps.size D) w:=λl J Jx W hW hJ hJx hY h0=>by
 have hlt:=C.lt;have hm:=(U.below hW U.lt).e0;have Z:W.ownsMap prog 53 Rc B nn D:=by obtain⟨es,clock,hb,Ft,hs,hD⟩:=C;exact⟨es,clock,(hW.block B hlt).trans hb,Ft,hs,hD⟩
 have hBW:B<W.heap.size:=adg hlt hW.size;refine aAc func108 rfl trivial ?_ rfl;simp only[ntmps108,aic,ai,acg,Nat.reduceAdd,Nat.reduceSub,ale,alf,anc,amb,ahe,ahb];clear C U
 gi_wp2_with (first
  |(gi_at_range;refine wpListIn_range_own _ rfl _ 133 rfl 53 3 KR underlying133 _ B nn _ rfl Z ?_;intro w0 hrg0 hg0 hs0)
  |gi_in)
 try go_frame
 gi_loopw [3] (λ_ wr=>∃(left:Lit->Bool) (cnt:Nat) (ss:List Nat),wr.ranges prog 53 Rc B W.heap.size nn D left cnt/\ss.length+cnt<=Maps.size D/\R6 D left ss/\J ss wr/\W.heap.size+1<=wr.heap.size)
  (λ_ wr=>wr.rangeLeft B W.heap.size)
 case atStart=>
  exact⟨_,_,[],hrg0,jS,R6.start D,hJ [] W w0 none h0 hg0 (λr e=>by cases e),jO⟩
 case round=>
  obtain⟨left,cnt,ss,hrg,hcs,hC,hJs,hsz⟩:=hrel
  gi_wp2_with (first
   |(gi_at_next;refine wpListIn_next_ranges _ rfl _ rfl 53 KR Rc ZK id (λkey kl hk=>by obtain⟨x,hx,_⟩:=Hd hk;exact⟨x,hx⟩) (λv _ _=>⟨v,rfl⟩) B W.heap.size nn _ _ _ rfl hrg ?_ ?_)
   |gi_in)
  ·intro hc0 hl0
   gi_wp2
   go_end0;refine⟨⟨_,rfl⟩,.inl ⟨ss,⟨hC.1,λx=> ?_⟩,hJs⟩⟩;rw[hC.2 x,hl0]
  ·intro x c kl yd yp w2 T hkey hlk hv hat hrg2 Ro hg2 hs2 hen;obtain⟨x',ex,rfl⟩:=Hd hkey;obtain rfl:x=x':=pN ex;have hJ2:J ss w2:=hJ ss wr w2 (some W.heap.size) hJs hg2 (λr e=>by cases e;rfl);have az5:Maps.has D (.int .u32 x)=true:=Maps.has_true_of_atKey hat;obtain⟨fn,tmps,assign,body,hy,hR⟩:=hY ss x w2 hJ2 (by rw[ay,aob];omega) (by rw[hs2];exact hsz);have I2:W.heap.size+1<=w2.heap.size:=by rw[hs2];exact hsz
   clear hs2
   gi_wp2
   refine hR.mono ?_;rintro e W3 ⟨Y,(⟨rfl,hJ3⟩|⟨rfl,hJ3⟩)⟩
   ·gi_wp2
    have I:W3.ranges prog 53 Rc B W.heap.size nn D (λz=>left z && !z.sameKey (.int .u32 x)) T:=by obtain⟨es,clock,since,seen,c0,hb,F,hs,hD,hr,rest⟩:=hrg2;exact⟨es,clock,since,seen,c0,(Y.2 B jO (.inr rfl)).trans hb,F,hs,hD,(Y.2 W.heap.size jO (.inl rfl)).trans hr,rest⟩
    go_roundw
    case rel=>exact⟨_,T,ss++[x],I,by rw[ay,aob];omega,hC.step az5 hlk,hJ3,aO I2 Y.1⟩
    case measure=>rw[I.left_eq,hrg.left_eq];exact Ro
   ·gi_wp2
    refine aaf (aof rfl _ _ _) rfl ?_;exact⟨⟨_,rfl⟩,.inr ⟨_,by rw[ay,aob];omega,hJ3⟩⟩
def aa6(Bs base:Nat)(w:World)(xs:List Nat)(W:World):Prop:=∃v,Z7 W Bs 100 #[v]/\W.ownsRow base 53 1 v xs.length (xs.map ZK)/\Below Bs w W
theorem Di{Bs:Nat} {own:Nat->Prop}(hs:Bs<=w.heap.size)(h:∀r,own r->Bs<r/\r<base):YL own (aa6 Bs base w):=λs A B row ⟨v,T,D,I⟩ C hr=>by
 refine⟨v,T.kept C (λe=>by have:=h _ (hr _ e.symm);omega),D.kept C ?_,I.grown C (aO hs I.size) (λk e=>by have:=h _ (hr _ e);omega)⟩;rcases D.2 with⟨rfl,_⟩|⟨k,cap,J,rfl,U,hk,_⟩;·exact .inl rfl
 ·refine .inr (λe=> ?_);have e2:some k=row:=e;have:=h k (hr k e2.symm);omega
theorem aa7:(prog.info? 53).map (λi=>(i.zero,i.size,i.bytes))=some (some (.int .u32 0),1,4):=jK
def Mn(D:DataW Unit)(w:World):Ending->World->Prop:=λe w'=>∃(v:Value) (xs:List Nat),e=.returned v/\R6 D (λ_=>false) xs/\w'.ownsRow w.heap.size 53 1 v xs.length (xs.map ZK)/\Below w.heap.size w w'
theorem Dh{B:Nat}{D:DataW Unit}(hD:Maps.size D<=1000000)(w:World)(hBm:Z7 w Bm 133 #[.map (some B)])(hown:w.ownsMap prog 53 Rc B nn D):
 Calls prog 176 #[.slice none 0 0,.func (.func 108) #[] #[.pointer (some ⟨Bm,0,none⟩)]] w (Mn D w):=by
 have hB:=hown.lt;have Cn:Below w.heap.size w (w.alloc (.cells #[.slice none 0 0] 100)):=(aG _ w).alloc (aR _) _;have Fk:Hid (aa6 w.heap.size (w.heap.size+4) w [] (w.alloc (.cells #[.slice none 0 0] 100))):=⟨_,Z7.new w _ _,Ya _ _ _ _,Cn⟩;have HSq:=aT (uU 7 jD Bm B nn D (w.alloc (.cells #[.slice none 0 0] 100)) (hBm.alloc _) (by obtain⟨es,clock,hb,Ft,hs,hD⟩:=hown;exact⟨es,clock,(Cn.block B hB).trans hb,Ft,hs,hD⟩))
 clear hBm hown Cn;refine(ajc (n:=8)).1 ?_;refine ayb func176 rfl trivial ?_ rfl;simp only[ntmps176,aic,ai,acg,Nat.reduceAdd,Nat.reduceSub,ale,alf,anc,amb,ahe,ahb]
 gi_upto_region 1 with fail
 obtain⟨w1,I1⟩:=jX (w.alloc (.cells #[.slice none 0 0] 100));rw[I1] at Fk HSq ⊢;have hs1:w1.heap.size=w.heap.size+1:=by rw[<-I1];simp
 clear I1
 gi_wp2_with fail
 refine Xe rfl jD (gf:=108) (lb:=#[.pointer (some ⟨Bm,0,none⟩)]) rfl trivial (enters_of func108 jK rfl)
  HSq (λr h=>by subst h;omega) (λr h=>jO) (aG _ _) (λ_=>rfl)
  (aa6 w.heap.size (w.heap.size+4) w)
  (λ_ _ _=>False)
  (Di (aR _) (λr h=>by rcases h with rfl|rfl<;>omega))
  (λc _ _ _ _ h _ _=>h)
  Fk
  (λx a' W=>a'={tmps:=#[.slice none 0 0,.func (.func 108) #[] #[.pointer (some ⟨Bm,0,none⟩)],.pointer (some ⟨w.heap.size,0,none⟩),undef,.slice none 0 0,ZK x,.func (.func 108) #[] #[.pointer (some ⟨Bm,0,none⟩)],ZK x,undef,undef,undef,undef,undef],defers:=[]})
  (λ_ _ _ _ _ _ h _ _=>h)
  ?assign ?body ?done ?stop
 case assign=>
  rintro l' C x W K hI hsp hsz hK
  gi_wp2
  exact hK _ _ (ZT.refl _ _) hI rfl
 case body=>
  rintro l' C x a' W hsz hsp hI rfl;obtain⟨v,hblk,I,Y⟩:=hI;obtain⟨va,vc,rfl⟩:=JS I;have hpl:C.length+1<=1000000:=by rw[ay,aob] at hsp;omega
  obtain⟨i0,XS,hz0,hz1,hz2⟩:=ZP aa7;have HX:Hid ((C++[x]).length=C.length+1/\(C++[x]).map ZK=C.map ZK++[ZK x]):=⟨jS,jS⟩;have Z:=aT hblk;have J:=aT I;have AD:=aT Y;have hws:w.heap.size<W.heap.size:=hblk.lt;obtain⟨pm,Jl⟩:=jX (C.map ZK);rw[Jl] at HX J;obtain⟨P,hP⟩:=jX C.length;rw[hP] at HX J hpl Z;clear hblk I Y hsp Jl hP;have c0:=Z.e0;unfold ZK at*
  gi_wp2_with (gi_at_builtin;refine wpListIn_append_own _ rfl _ _ 100 rfl (w.heap.size+4) 53 i0 (.int .u32 0) 1 4 underlying100 XS hz0 hz1 hz2 rfl jD _ P _ rfl (ZC J (fy W (.cells #[.int .u32 x] 53))) ⟨W.heap.size,0,none⟩ 1 1 [.int .u32 x] rfl ?c1 ?c2 ?c3 ?c4 ?c5 ?c6 ?_;(case c1=>rfl);(case c2=>exact YX rfl);(case c3=>simp[Value.oneCell']);(case c4=>unfold maxLen;omega);(case c5=>omega);(case c6=>rw[aj];omega);intro v' w3 U hg3 hnil3;have T:=(Z.alloc (.cells #[.int .u32 x] 53)).kept hg3 (λe=>by have:=(J.lt _ e.symm).1;omega);have hc3:=T.cell 0;have hf3:=T.frozen 0;have hb3:Below w.heap.size w w3:=(AD.alloc AD.size _).grown hg3 (by rw[aj];omega) (λk e=>by have:=(J.lt k e).1;omega);have hk3:ZT (YZ (λh r=>r=h\/r=B) w1.heap.size) W w3:=(ZT.alloc W _).trans (ZT.grown hg3 (λr e hr=>by have:=(J.lt r e).1;rcases hr with rfl|rfl|rfl|rfl<;>omega));simp only[au,aM] at hc3;obtain⟨va3,vc3,rfl⟩:=JS U)
  try gi_wp2
  refine⟨hk3.trans (ZT.setCell _ _ _ (λhr=>by rcases hr with e|e|e|e<;>(have e:w.heap.size=_:=e;omega))),_,T.set 0 _,?_,hb3.setCell (p:=⟨w.heap.size,0,none⟩) (aR _) _⟩;have e2:(C++[x]).map ZK=pm++[ZK x]:=HX.2;rw[HX.out.1,e2];exact VI U (λe=>by have:=(U.lt _ e).1;omega)
 case done=>
  rintro xs W hS ⟨v,hblk,I,Y⟩ hK;have k0:=hblk.e0;have HS:=aT hS;clear hS
  gi_wp2
  refine⟨jS,.inl ⟨_,_,rfl,axg hK,?_⟩⟩;refine⟨v,?_,v,xs,rfl,HS,?_,Y.trans (belowK_b (w:=w) (aR _) _ w1.heap.size _ (.deferred none) jO hK rfl rfl)⟩;·simp[results,Tryz.f176,go_sem]
  ·have:=Y7 I (show w.heap.size<=w.heap.size+4 from jO);refine⟨this.1,?_⟩;rcases this.2 with h2|⟨k,cap,cur,h1,h2,h3,h4⟩;·exact .inl h2
   ·refine .inr ⟨k,cap,cur,h1,h2,?_,h4⟩;show(W.heap.setIfInBounds w1.heap.size _)[k]? =_;rw[aif (by have:=I.lt k (by rw[h1];rfl);omega)];exact h3
 case stop=>
  rintro c C W hS h hK;exact h.elim
theorem FY{B:Nat}{D:DataW Unit}(U:Maps.size D<=1000000)(w:World)(J:Z7 w Bm 133 #[.map (some B)])(I:w.ownsMap prog 53 Rc B nn D):
 Calls prog 106 #[.func (.func 108) #[] #[.pointer (some ⟨Bm,0,none⟩)]] w (Mn D w):=by
 have T:=aT (Dh U w J I);clear J I;go_enter func106,ntmps106;go_wp2_with fail;refine T.mono ?_;rintro e Z ⟨v,xs,rfl,hS,C,hb⟩;have Y:=aT (And.intro hS (And.intro C hb));clear hS C hb T;go_wp2_with fail;go_ret;exact⟨v,xs,rfl,Y⟩
theorem aa8 {e:TypeId} (hb:w.heap[g]? =some (.cells cur e (0,0)))(ht:cur.toList.take ss.length=ss.map ZK):Sort.Holds ZK w g 0 ss.toArray:=by
 intro j I;have C:j<ss.length:=by simpa using I
 refine⟨?_,by simp[World.frozen?,hb]⟩;have D:(cur.toList.take ss.length)[j]? =(ss.map ZK)[j]? :=by rw[ht]
 rw[List.getElem?_take_of_lt C] at D;simp only[World.cell?,hb,ade];simp only[Option.isSome_none,Bool.false_eq_true,if_false];rw[<-aga,D];simp[C]
theorem al5 {n:Nat}{os:Array Obj} {e:TypeId}(d:Array Nat)(hb:w.heap[g]? =some (.cells cur e (0,0))):(Sort.grow (Sort.putRow ZK (Sort.ahead w n) g 0 d) os).heap[g]? =some (.cells (Sort.putCells ZK 0 d cur) e (0,0)):=by
 have C:g<w.heap.size:=(aac.1 hb).1;rw[Sort.heap_grow_old _ _ (by simpa using C)];simp[Sort.putRow,Sort.mapBlock,Sort.ahead,ala,hb,onCells]
theorem aa9 {n:Nat}{os:Array Obj}(d:Array Nat):w.grownBy (Sort.grow (Sort.putRow ZK (Sort.ahead w n) g 0 d) os) (some g):=by
 refine⟨rfl,rfl,rfl,jS,λk hk C=> ?_⟩;rw[Sort.heap_grow_old _ _ (by simpa using hk)];have:g≠k:=λe=>C (by rw[e])
 simp[Sort.putRow,Sort.mapBlock,Sort.ahead,ala,this]
theorem Dg {cap n k:Nat}{e:TypeId}{os:Array Obj} {d:Array Nat}(hl:d.size=n)(C:base<=g)(hb:w.heap[g]? =some (.cells cur e (0,0)))(T:n<=cap)(J:cap<=maxLen)(I:cur.size=cap*1):(Sort.grow (Sort.putRow ZK (Sort.ahead w k) g 0 d) os).ownsRow base e 1 (.slice (some ⟨g,0,none⟩) n cap) n (d.toList.map ZK):=by
 refine⟨by simp[hl],.inr ⟨g,cap,_,rfl,C,al5 _ hb,T,J,by simp[Sort.putCells,I],?_⟩⟩;rw[aqa];apply agb;intro j;by_cases D:j<n;·rw[List.getElem?_take_of_lt D,aga];simp[Sort.putCells,hl,D,show j<cur.size from jO]
 ·rw[List.getElem?_take_eq_none jO,ahg (by simp;omega)]
theorem Df {B:Nat}{b:List (Nat×Nat)}(h:Zz W B (Qx b))(hk:b.Pairwise (λp q=>p.1≠q.1))(hb:∀p∈b,p.1<4294967296/\p.2≠0)(hl:b.length<=1000000)(hne:b≠[]):
 Calls prog 56 #[.func (.func 108) #[] #[.pointer (some ⟨W.heap.size,0,none⟩)]] (W.alloc (.cells #[.map (some B)] 133)) λe w'=>∃v cs,e=.returned v/\cs.Perm (b.map (·.1))/\w'.ownsRow W.heap.size 53 1 v cs.length (Vw cs)/\Below W.heap.size W w':=by
 have hSl:(Qx b).length=b.length:=by unfold Qx;rw[aab]
 obtain⟨DL,I,hD⟩:=(h.alloc (.cells #[.map (some B)] 133)).owns (P:=prog) (k:=53) (λp hp=>by obtain⟨q,hq,rfl⟩:=ah.1 hp;exact xG (hb q hq).1) (by rw[hSl];unfold maxLen;omega)
 have hDs:Maps.size (.map DL)=b.length:=by show DL.length=_;rw[hD.length_eq,aab,hSl]
 have HC:=aT (FY (by rw[hDs];exact hl) _ (Z7.new W _ _) I);have hb1:Below W.heap.size W (W.alloc (.cells #[.map (some B)] 133)):=fy W _;have HP:Hid (∀ss:List Nat,R6 (.map DL) (λ_=>false) ss->ss.Perm (b.map (·.1))):=λss hs=>hs.perm (λ_=>rfl) hD hk hb
 have Z:=aT hb1;clear I hD hDs h hb1;go_enter func56,ntmps56;generalize W.alloc (.cells #[.map (some B)] 133)=W1 at*;go_wp2_with fail;refine HC.mono ?_;rintro e w2 ⟨v,xs,rfl,hS,D,hb2⟩;have Jl:=HP xs hS;have bC:xs.length<=1000000:=by rw[Jl.length_eq,aab];exact hl
 have Y:=aT Jl;have XX:=aT (Z.trans (hb2.mono Z.size));have hs1:=Z.size;clear hS hb2 HC HP Jl;rcases D.2 with⟨rfl,hz⟩|⟨gb,cap,cur,rfl,C,U,r1,r2,r3,r4⟩
 ·have hx0:xs=[]:=aod hz;subst hx0;exact absurd (List.map_eq_nil_iff.1 (List.nil_perm.1 Y)) hne
 ·have hH:Sort.Holds ZK w2 gb 0 xs.toArray:=aa8 U (by simpa using r4)
  have hx1:0<xs.length:=by rw[Y.out.length_eq,aab];exact aya.2 hne
  obtain⟨n,hn⟩:=jX xs.length;rw[hn] at bC hx1 r1 ⊢;have HSo:=aT (vt (cap:=cap) hH (n:=n) (by rw[<-hn];simp) bC hx1);have HN:=aT hn;have HG:=aT U;clear hH D r4 hn U;go_wp2_with fail;refine HSo.mono ?_;rintro e w3 ⟨v,d',rfl,rfl,⟨⟨_,k3,os3,J⟩,_,T,hp',_⟩⟩;have tM:Hid (w3.ownsRow W.heap.size 53 1 (.slice (some ⟨gb,0,none⟩) n cap) n (d'.toList.map ZK)):=by rw[J];exact Dg T (aO hs1 C) HG r1 r2 r3
  have Uy:Hid (Below W.heap.size W w3):=by rw[J];exact XX.grown (aa9 d') XX.size (λk e=>by cases e;exact aO hs1 C)
  have HD:Hid (d'.toList.length=n/\d'.toList.Perm (b.map (·.1))):=⟨by rw[ane];exact T,hp'.trans Y⟩;clear J T hp' HG;go_wp2_with fail;go_ret;refine⟨_,d'.toList,rfl,HD.2,?_,Uy⟩;rw[HD.out.1,uW];exact tM
end Go.Proofs.YtclgigmgbebhgaaGreatDoor
namespace Go.Proofs.YtclgigmgbebhgaaGreatDoor
open Tryz
open Go Go.Proofs Go.RowKit Go.Maps Go.WideMaps Go.ChangeMaps
def aI(i:Nat):Nat:=if i=0 then 0 else i+1
def jG(i:Nat):Nat:=if i=0 then Qy else if i=1 then O7 else if i=2 then O6 else O5
theorem ab0{i:Nat}(hi:i<4)(w:World):Calls prog 48 #[.int .i64 (aI i:Int)] w λe w'=>(∃nm bit bits,e=.returned (.tuple #[.agg #[.string nm,.int .u32 (jG i:Int),.bool bit,.int .i64 bits],.int .i64 0]))/\Below w.heap.size w w':=by
 refine(Gb (aI i:Int) w).mono ?_;rintro e w' ⟨rfl,hb⟩;refine⟨?_,hb⟩;rcases (show i=0\/i=1\/i=2\/i=3 from jO) with rfl|rfl|rfl|rfl;·exact⟨r0.name,r0.bit,r0.bits,rfl⟩
 ·exact⟨r2.name,r2.bit,r2.bits,rfl⟩
 ·exact⟨r3.name,r3.bit,r3.bits,rfl⟩
 ·exact⟨r4.name,r4.bit,r4.bits,rfl⟩
def RX(i:Nat):List (Value×Value):=(List.range i).map λj=>(.int .i64 (aI j:Int),.int .i64 ((j:Int)+1))
theorem uT(i:Nat):RX (i+1)=RX i++[(.int .i64 (aI i:Int),.int .i64 ((i:Int)+1))]:=by
 unfold RX;rw[amc,ada];rfl
theorem pM{i j:Nat}(h:j<i):(Value.int .i64 (aI j:Int),Value.int .i64 ((j:Int)+1))∈RX i:=ah.2 ⟨j,aib.2 h,rfl⟩
theorem pL{i j:Nat}(h:aI i=aI j):i=j:=by unfold aI at h;split at h<;>split at h<;>omega
theorem pK{i:Nat}(h:i<=5):aI i<=6:=by unfold aI;split<;>omega
theorem De{i:Nat}(hi:i<=5):∀p∈RX i,∃l,keyOf prog 3 p.1=some l:=λp hp=>by
 obtain⟨j,C,rfl⟩:=ah.1 hp;have:=pK (i:=j) (by have:=aib.1 C;omega);exact O1 _ jO
theorem AA(i:Nat):(RX i).Pairwise (λp q=>p.1≠q.1):=by
 unfold RX;rw[afa];refine List.nodup_range.imp (λ{a b} C e=> ?_);injection e with _ e;exact C (pL jO)
theorem Dd{W:World}{B i j:Nat}(h:Zz W B (RX i))(hi:i<=5)(C:j<i):(Instr.lookup 140 (.map (some B)) (.int .i64 (aI j:Int)) false).run prog W=.ok (.int .i64 ((j:Int)+1)) W:=
 Xq underlying140 V7 h (De hi) (O1 _ (by have:=pK (i:=j) jO;omega)) (pM C) (AA i)
theorem jF{W:World}{B i:Nat}(h:Zz W B (RX i))(hi:i<5):∃W',(Instr.mapUpdate 140 (.map (some B)) (.int .i64 (aI i:Int)) (.int .i64 ((i:Int)+1))).run prog W=.ok () W'/\Zz W' B (RX (i+1))/\W.grownBy W' (some B):=by
 rw[uT];refine Vd underlying140 V7 h (De jO) (O1 _ (by have:=pK (i:=i) jO;omega)) (λp hp e=> ?_) _;obtain⟨j,C,rfl⟩:=ah.1 hp;have:=aib.1 C;injection e with _ e;have:=pL (show aI j=aI i from jO);omega
def Ph(i:Nat):G:=⟨ins 0x20 4 0 0::(List.range i).map (λj=>ins 0x15 (jG j) ((j:Int)+1) 0),i,[]⟩
theorem jE:Ph 4=KY:=rfl
theorem Az(i:Nat):Ph (i+1)=(Ph i).mark.put [ins 0x15 (jG i) ((i:Int)+1) 0]:=by
 unfold Ph G.put G.mark;rw[amc,ada];rfl
theorem pJ(i:Nat):V9 (Ph i):=⟨List.Pairwise.nil,λp hp=>(by cases hp),abd _⟩
structure UM(N M Bm Bt P0:Nat)(q:X5)(es:Nat->List (Nat×List Z3))(s0 s1:List (Nat×Nat))(w0 W:World)(v:Value)(g:G)(S:List (Value×Value)):Prop where
 Xc:Zj w0.heap.size M Bm W v g
 Zr:Below w0.heap.size w0 W
 pl:Z7 W P0 Xw (Zy q)
 tk:Zz W Bt S
 pk:Ug N W q es s0 s1
 ok:V9 g
 ne:Bt≠M/\Bt≠Bm/\w0.heap.size<=Bt
 hN:N<=w0.heap.size
section
variable {N M Bm Bt P0:Nat} {q:X5} {es:Nat->List (Nat×List Z3)} {s0 s1:List (Nat×Nat)} {w0 W W':World} {v:Value} {g:G} {S:List (Value×Value)}
theorem Yb.az6{LO:Nat}(f:Yb LO M Bm W W')(h:Zz W Bt S)(I:Bt≠M)(D:Bt≠Bm):Zz W' Bt S:=by
 obtain⟨es,c,hb,C⟩:=h;exact⟨es,c,f.2.2 Bt _ hb I D (λcs f e=>by cases e),C⟩
theorem UM.A0{v':Value}{g':G}(h:UM N M Bm Bt P0 q es s0 s1 w0 W v g S)(f:Yb w0.heap.size M Bm W W')(hm:Zj w0.heap.size M Bm W' v' g')(ho:V9 g'):UM N M Bm Bt P0 q es s0 s1 w0 W' v' g' S:=
 ⟨hm,h.Zr.trans f.1,f.Yu h.Xc h.pl jD jD,f.az6 h.tk h.ne.1 h.ne.2.1,h.pk.below f.1 h.hN,ho,h.ne,h.hN⟩
theorem UM.bl(h:UM N M Bm Bt P0 q es s0 s1 w0 W v g S)(hb:Below W.heap.size W W'):UM N M Bm Bt P0 q es s0 s1 w0 W' v g S:=
 ⟨h.Xc.Zr hb,h.Zr.trans (hb.mono h.Zr.size),h.pl.below hb h.pl.lt,h.tk.below hb h.tk.lt,h.pk.below hb (aO h.hN h.Zr.size),h.ok,h.ne,h.hN⟩
theorem UM.alloc(h:UM N M Bm Bt P0 q es s0 s1 w0 W v g S)(o:Obj):UM N M Bm Bt P0 q es s0 s1 w0 (W.alloc o) v g S:=h.bl ((aG _ W).alloc (aR _) o)
theorem UM.tok{S':List (Value×Value)}(h:UM N M Bm Bt P0 q es s0 s1 w0 W v g S)(C:W.grownBy W' (some Bt))(hm:Zz W' Bt S'):UM N M Bm Bt P0 q es s0 s1 w0 W' v g S':=by
 have hb:Below w0.heap.size W W':=(aG _ W).grown C h.Zr.size (λk e=>by have:=aq e;have:=h.ne.2.2;omega);refine⟨⟨h.Xc.blk.kept C (λe=>h.ne.1 (aq e).symm),h.Xc.own.kept C (.inr (KU h.Xc.own h.tk)),h.Xc.map.kept C (λe=>h.ne.2.1 (aq e).symm),h.Xc.lo⟩,h.Zr.trans hb,h.pl.kept C (λe=>V4 h.pl h.tk (aq e)),hm,h.pk.below hb h.hN,h.ok,h.ne,h.hN⟩
theorem UM.lo(h:UM N M Bm Bt P0 q es s0 s1 w0 W v g S):w0.heap.size<=W.heap.size:=h.Zr.size
end
theorem az7{i:Nat}(hi:i<4):(#[Value.int .i64 0,.int .i64 2,.int .i64 3,.int .i64 4]:Array Value)[i]? =some (.int .i64 (aI i:Int)):=by
 rcases (show i=0\/i=1\/i=2\/i=3 from jO) with rfl|rfl|rfl|rfl<;>rfl
def gN(p:YE):Nat->G
 |0=>XH
 |1=>gA p
 |2=>gB p
 |3=>gC p
 |_=>gD p
def PC(es:Nat->List (Nat×List Z3))(s0 s1:List (Nat×Nat))(a:Nat)(l:List (Nat×ZM)):Prop:=l.Perm (ZZ a (es a) s0 s1)/\l.Pairwise (λx y=>x.1<y.1)
def PR(q:X5)(es:Nat->List (Nat×List Z3))(s0 s1:List (Nat×Nat))(i:Nat)(p:YE):Prop:=
 p.d=q.d/\p.Vl=q.x/\(0<i->PC es s0 s1 0 p.p0/\((q.x=true->p.p1.Perm (ZZ 1 (es 1) s0 s1))/\(q.x=false->p.p1=[])/\p.p1.Pairwise (λx y=>x.1<y.1)))/\(1<i->PC es s0 s1 2 p.p2)/\(2<i->PC es s0 s1 3 p.p3)/\(3<i->PC es s0 s1 4 p.p4)
theorem uS:look (KY.goes Zm).b Zm=5:=jD
theorem jC:([0,2,3,4]:List Int).mergeSort leI=[0,2,3,4]:=by
 first
  |exact List.mergeSort_of_pairwise jD
  |exact List.Ce jD
theorem az8{i:Nat}(hi:i<4):(([0,2,3,4]:List Int).map encZ)[i]? =some (.int .i64 (aI i:Int)):=by
 rcases (show i=0\/i=1\/i=2\/i=3 from jO) with rfl|rfl|rfl|rfl<;>rfl
theorem Dc:∀{b:List (Nat×Nat)} {p:Nat×Nat},(∀p∈b,p.2≠0)->p∈b->look b p.1≠0:=λ{b p} hz hp e=>Xp hz e p hp rfl
theorem pI{p:YE}(C:V9 (gD p)){cs:List Nat}(h:cs.Perm ((gD p).b.map (·.1))):Oz p cs:=by
 refine⟨h.nodup_iff.2 (afa.2 C.keys),λc=> ?_⟩;rw[h.mem_iff,ah];constructor;·rintro⟨q,D,rfl⟩;exact Dc (λp hp=>(C.Fp p hp).2) D
 ·intro hc;exact⟨_,KS hc,rfl⟩
theorem Db(b:List (Nat×Nat)){cs:List Nat}{i c:Nat}(h:cs[i]? =some c):Zv b (cs.take (i+1))=Zv b (cs.take i)++[Zq (look b c),ins 0x06 c 0 0]:=by
 unfold Zv;rw[afd,h,aca];rfl
theorem S3(b:List (Nat×Nat)):∀cs:List Nat,(Zv b cs).length=2*cs.length
 |[]=>rfl
 |c::cs=>by have:=S3 b cs;unfold Zv at*;rw[ace,ay,this];simp only[ai,acg];omega
theorem jB{q:X5}{es:Nat->List (Nat×List Z3)}{s0 s1:List (Nat×Nat)}{i:Nat}{p:YE}{ps:List (Nat×ZM)}(hi:0<i)(h4:i<4)(h:PR q es s0 s1 i p)(C:PC es s0 s1 (i+1) ps):∃T,PR q es s0 s1 (i+1) T/\Y3 q.d ps (Ve (i+1) (gN p i))=gN T (i+1):=by
 obtain⟨D,J,I,U,Y,Z⟩:=h;rcases (show i=1\/i=2\/i=3 from jO) with rfl|rfl|rfl;·exact⟨{p with p2:=ps},⟨D,J,λ_=>I jD,λ_=>C,λh=>absurd h jD,λh=>absurd h jD⟩,by rw[<-D];rfl⟩
 ·exact⟨{p with p3:=ps},⟨D,J,λ_=>I jD,λ_=>U jD,λ_=>C,λh=>absurd h jD⟩,by rw[<-D];rfl⟩
 ·exact⟨{p with p4:=ps},⟨D,J,λ_=>I jD,λ_=>U jD,λ_=>Y jD,λ_=>C⟩,by rw[<-D];rfl⟩
def pH(q:X5)(es:Nat->List (Nat×List Z3))(s0 s1:List (Nat×Nat))(w:World):Ending->World->Prop:=λe w'=>∃(v:Value) (p:YE) (cs:List Nat),e=.returned v/\p.d=q.d/\p.Vl=q.x/\
     (p.p0.Perm (ZZ 0 (es 0) s0 s1)/\p.p0.Pairwise (λx y=>x.1<y.1))/\((q.x=true->p.p1.Perm (ZZ 1 (es 1) s0 s1))/\(q.x=false->p.p1=[])/\p.p1.Pairwise (λx y=>x.1<y.1))/\(p.p2.Perm (ZZ 2 (es 2) s0 s1)/\p.p2.Pairwise (λx y=>x.1<y.1))/\(p.p3.Perm (ZZ 3 (es 3) s0 s1)/\p.p3.Pairwise (λx y=>x.1<y.1))/\(p.p4.Perm (ZZ 4 (es 4) s0 s1)/\p.p4.Pairwise (λx y=>x.1<y.1))/\
     Oz p cs/\(∀c∈cs,c<4294967296)/\(ZL p cs).length<=1000000/\(ZL p cs).length<=80+2*TP p/\w'.ownsRow w.heap.size Wc 5 v (ZL p cs).length (XT (ZL p cs))/\Below w.heap.size w w'
theorem uR{N:Nat}{q:X5}{es:Nat->List (Nat×List Z3)}{s0 s1:List (Nat×Nat)}(w:World)(hp:Ug N w q es s0 s1)(hN:N<=w.heap.size)(hk:∀a,a<5->ZW (ZZ a (es a) s0 s1)<=10000):
 Calls prog 24 #[.agg (Zy q)] w (pH q es s0 s1 w):=by
 have Jj:= @aog prog;have HK:=aT hk;have HPK:=aT hp;have HN:=aT hN;clear hk hp hN;unfold Zy VD at*;go_enter func24,ntmps24;go_upto_region 2 with fail;have hP1:Z7 (((w.alloc (.cells #[.int .u32 q.d,.bool q.x,.slice q.e0.1 q.e0.2.1 q.e0.2.2,.slice q.e1.1 q.e1.2.1 q.e1.2.2,.slice q.e2.1 q.e2.2.1 q.e2.2.2,.slice q.e3.1 q.e3.2.1 q.e3.2.2,.slice q.e4.1 q.e4.2.1 q.e4.2.2,.slice q.s0.1 q.s0.2.1 q.s0.2.2,.slice q.s1.1 q.s1.2.1 q.s1.2.2] Xw)).alloc (.map #[] 0)).alloc (.cells #[.slice none 0 0,.int .i64 0,.map (some (w.heap.size+1))] Fq)) w.heap.size Xw #[.int .u32 q.d,.bool q.x,.slice q.e0.1 q.e0.2.1 q.e0.2.2,.slice q.e1.1 q.e1.2.1 q.e1.2.2,.slice q.e2.1 q.e2.2.1 q.e2.2.2,.slice q.e3.1 q.e3.2.1 q.e3.2.2,.slice q.e4.1 q.e4.2.1 q.e4.2.2,.slice q.s0.1 q.s0.2.1 q.s0.2.2,.slice q.s1.1 q.s1.2.1 q.s1.2.2]:=((Z7.new w _ _).alloc _).alloc _;have hM1:Zz (((w.alloc (.cells #[.int .u32 q.d,.bool q.x,.slice q.e0.1 q.e0.2.1 q.e0.2.2,.slice q.e1.1 q.e1.2.1 q.e1.2.2,.slice q.e2.1 q.e2.2.1 q.e2.2.2,.slice q.e3.1 q.e3.2.1 q.e3.2.2,.slice q.e4.1 q.e4.2.1 q.e4.2.2,.slice q.s0.1 q.s0.2.1 q.s0.2.2,.slice q.s1.1 q.s1.2.1 q.s1.2.2] Xw)).alloc (.map #[] 0)).alloc (.cells #[.slice none 0 0,.int .i64 0,.map (some (w.heap.size+1))] Fq)) (w.heap.size+1) []:=by have:=(Zz.made (w.alloc (.cells #[.int .u32 q.d,.bool q.x,.slice q.e0.1 q.e0.2.1 q.e0.2.2,.slice q.e1.1 q.e1.2.1 q.e1.2.2,.slice q.e2.1 q.e2.2.1 q.e2.2.2,.slice q.e3.1 q.e3.2.1 q.e3.2.2,.slice q.e4.1 q.e4.2.1 q.e4.2.2,.slice q.s0.1 q.s0.2.1 q.s0.2.2,.slice q.s1.1 q.s1.2.1 q.s1.2.2] Xw))).alloc (.cells #[.slice none 0 0,.int .i64 0,.map (some (w.heap.size+1))] Fq);rwa [aj] at this
 have hK1:Z7 (((w.alloc (.cells #[.int .u32 q.d,.bool q.x,.slice q.e0.1 q.e0.2.1 q.e0.2.2,.slice q.e1.1 q.e1.2.1 q.e1.2.2,.slice q.e2.1 q.e2.2.1 q.e2.2.2,.slice q.e3.1 q.e3.2.1 q.e3.2.2,.slice q.e4.1 q.e4.2.1 q.e4.2.2,.slice q.s0.1 q.s0.2.1 q.s0.2.2,.slice q.s1.1 q.s1.2.1 q.s1.2.2] Xw)).alloc (.map #[] 0)).alloc (.cells #[.slice none 0 0,.int .i64 0,.map (some (w.heap.size+1))] Fq)) (w.heap.size+1+1) Fq #[.slice none 0 0,.int .i64 0,.map (some (w.heap.size+1))]:=by have:=Z7.new ((w.alloc (.cells #[.int .u32 q.d,.bool q.x,.slice q.e0.1 q.e0.2.1 q.e0.2.2,.slice q.e1.1 q.e1.2.1 q.e1.2.2,.slice q.e2.1 q.e2.2.1 q.e2.2.2,.slice q.e3.1 q.e3.2.1 q.e3.2.2,.slice q.e4.1 q.e4.2.1 q.e4.2.2,.slice q.s0.1 q.s0.2.1 q.s0.2.2,.slice q.s1.1 q.s1.2.1 q.s1.2.2] Xw)).alloc (.map #[] 0)) Fq #[.slice none 0 0,.int .i64 0,.map (some (w.heap.size+1))];rwa [aj,aj] at this
 have Cn:Below w.heap.size w (((w.alloc (.cells #[.int .u32 q.d,.bool q.x,.slice q.e0.1 q.e0.2.1 q.e0.2.2,.slice q.e1.1 q.e1.2.1 q.e1.2.2,.slice q.e2.1 q.e2.2.1 q.e2.2.2,.slice q.e3.1 q.e3.2.1 q.e3.2.2,.slice q.e4.1 q.e4.2.1 q.e4.2.2,.slice q.s0.1 q.s0.2.1 q.s0.2.2,.slice q.s1.1 q.s1.2.1 q.s1.2.2] Xw)).alloc (.map #[] 0)).alloc (.cells #[.slice none 0 0,.int .i64 0,.map (some (w.heap.size+1))] Fq)):=(((aG w.heap.size w).alloc (aR _) _).alloc (by rw[aj];omega) _).alloc (by rw[aj,aj];omega) _;generalize ((w.alloc (.cells #[.int .u32 q.d,.bool q.x,.slice q.e0.1 q.e0.2.1 q.e0.2.2,.slice q.e1.1 q.e1.2.1 q.e1.2.2,.slice q.e2.1 q.e2.2.1 q.e2.2.2,.slice q.e3.1 q.e3.2.1 q.e3.2.2,.slice q.e4.1 q.e4.2.1 q.e4.2.2,.slice q.s0.1 q.s0.2.1 q.s0.2.2,.slice q.s1.1 q.s1.2.1 q.s1.2.2] Xw)).alloc (.map #[] 0)).alloc (.cells #[.slice none 0 0,.int .i64 0,.map (some (w.heap.size+1))] Fq)=w1 at*;have hlM:w.heap.size<=w.heap.size+1+1:=jO;have hlB:w.heap.size<=w.heap.size+1:=jO;generalize w.heap.size+1+1=M at*;generalize w.heap.size+1=Bm at*;have HH:Hid (Zj w.heap.size M Bm w1 (.slice none 0 0) ⟨[],0,[]⟩):=⟨hK1,Ya _ _ _ _,hM1,hlM,hlB⟩;have HP1:Hid (Z7 w1 w.heap.size Xw #[.int .u32 q.d,.bool q.x,.slice q.e0.1 q.e0.2.1 q.e0.2.2,.slice q.e1.1 q.e1.2.1 q.e1.2.2,.slice q.e2.1 q.e2.2.1 q.e2.2.2,.slice q.e3.1 q.e3.2.1 q.e3.2.2,.slice q.e4.1 q.e4.2.1 q.e4.2.2,.slice q.s0.1 q.s0.2.1 q.s0.2.2,.slice q.s1.1 q.s1.2.1 q.s1.2.2]):=hP1;have VE:=aT Cn;have MZ:=Cn.size;clear hP1 hM1 hK1 Cn
 go_wp2_with (refine Great.wpList_buildSliceTo rfl 79 Wc 1 _ rfl _ rfl _ rfl underlying79 #[.int .i64 0,.int .u16 32,.int .u32 4,.int .i64 0,.int .i64 0] jK ?_)
 refine(YW (xs:=[ins 0x20 4 0 0]) w1 HH rfl rfl jD MZ).mono ?_;rintro e w2 ⟨rfl,v2,h2,f2⟩;have hI:UM N M Bm w2.heap.size w.heap.size q es s0 s1 w (w2.alloc (.map #[] 0)) v2 (Ph 0) (RX 0):=by
  have hb:Below w.heap.size w w2:=VE.trans f2.1;refine⟨h2.al _,hb.alloc hb.size _,(f2.Yu HH HP1 jD jD).alloc _,Zz.made w2,(HPK.below hb HN).below ((aG _ w2).alloc (aR _) _) (aO HN hb.size),pJ 0,⟨?_,?_,hb.size⟩,HN⟩;·have:=h2.blk.lt;omega
  ·have:=h2.map.lt;omega
 have C:=aT hI;clear h2 f2 HH HP1 VE hI;go_upto_region 4 with fail;generalize w2.alloc (.map #[] 0)=w3 at*;generalize w2.heap.size=Bt at*;have HI4:=aT (C.alloc (.cells #[.int .i64 0,.int .i64 2,.int .i64 3,.int .i64 4] 3));have HL4:=aT (Z7.new w3 3 #[.int .i64 0,.int .i64 2,.int .i64 3,.int .i64 4]);go_upto_region 5 with(refine Great.wpList_buildSliceTo rfl 94 3 4 _ rfl _ rfl _ rfl underlying94 #[.int .i64 0,.int .i64 2,.int .i64 3,.int .i64 4] jK ?_)
 generalize w3.alloc (.cells #[.int .i64 0,.int .i64 2,.int .i64 3,.int .i64 4] 3)=w4 at*;generalize w3.heap.size=BL at*;clear C;go_loopg [23] 5 (λgg iv wr=>∃(i:Nat) (v':Value),i<=4/\4-i<gg/\iv=.int .i64 (i:Int)/\Hid (UM N M Bm Bt w.heap.size q es s0 s1 w wr v' (Ph i) (RX i))/\Hid (Z7 wr BL 3 #[.int .i64 0,.int .i64 2,.int .i64 3,.int .i64 4]));case atStart=>exact⟨0,v2,jO,jO,rfl,HI4,HL4⟩
 case round=>
  obtain⟨i,v',hi4,Vs,rfl,C,HBL⟩:=hrel;clear HI4 HL4;have i0:=jZ i;by_cases hlt:i<4
  ·have Zd:(i:Int)<4:=by omega
   have y0:wr.cell? ⟨BL,i,none⟩=some (.int .i64 (aI i:Int)):=(HBL.cell i).trans (az7 hlt);have iw:=jW i;obtain⟨A,hA⟩:=jX (aI i);rw[hA] at y0;have HA:=aT hA;have Hw:=aT (ab0 hlt wr);rw[hA] at Hw;clear hA;go_wp2_with fail;refine Hw.mono ?_;rintro e w5 ⟨⟨nm,bit,bits,rfl⟩,Da⟩;obtain⟨T,hT⟩:=jX (jG i);rw[hT];have HT:=aT hT;have Y:=aT ((C.bl Da).alloc (.cells #[.string nm,.int .u32 T,.bool bit,.int .i64 bits] 142));have al6:=aT ((HBL.below Da HBL.lt).alloc (.cells #[.string nm,.int .u32 T,.bool bit,.int .i64 bits] 142));have Ck:=aT (Z7.new w5 142 #[.string nm,.int .u32 T,.bool bit,.int .i64 bits]);clear hT Da Hw C HBL y0;go_upto_region 8 with fail;generalize w5.alloc (.cells #[.string nm,.int .u32 T,.bool bit,.int .i64 bits] 142)=w6 at*;generalize w5.heap.size=B6 at*;have HMK:Hid (Calls prog 49 #[.pointer (some ⟨M,0,none⟩)] w6 λe w'=>e=.returned (.int .i64 ((i:Int)+1))/\Zj w.heap.size M Bm w' v' (Ph i).mark/\Yb w.heap.size M Bm w6 w'):=Vc w6 Y.Xc (by show i+1<=_;omega);go_wp2_with fail;refine HMK.mono ?_;rintro e w7 ⟨rfl,h7,f7⟩;have hI7:=Y.A0 f7 h7 Y.ok.mark;obtain⟨w8,u8,m8,g8⟩:=jF hI7.tk jO;have hI8:=hI7.tok g8 m8;rw[HA.out] at u8;have TH:=f7.Yu Y.Xc Ck jD jD;have z1:w8.cell? ⟨B6,1,none⟩=some (.int .u32 T):=by have:=(TH.kept g8 (λe=>V4 TH hI7.tk (aq e))).cell 1;simpa using this
   have ab1:=f7.Yu Y.Xc al6 jD jD;have al7:=aT (ab1.kept g8 (λe=>V4 ab1 hI7.tk (aq e)));have lk:=Dd hI8.tk jO (amd i);rw[HA.out] at lk;have U:=aT hI8;have pG:=hI8.lo;clear h7 f7 hI7 m8 g8 hI8 TH ab1 HMK Y al6 Ck
   go_wp2_with (refine Great.wpList_buildSliceTo rfl 79 Wc 1 _ rfl _ rfl _ rfl underlying79 #[.int .i64 0,.int .u16 21,.int .u32 T,.int .i64 ((i:Int)+1),.int .i64 0] jK ?_)
   refine(YW (xs:=[ins 0x15 T ((i:Int)+1) 0]) w8 U.Xc rfl rfl (by show((Ph i).l.length+1<=_);simp[Ph];omega) pG).mono ?_;rintro e w9 ⟨rfl,v9,h9,f9⟩;have hI9:=U.A0 f9 h9 (U.ok.put _);have az9:=aT (f9.Yu U.Xc al7 jD jD);rw[<-HT.out,<-Az] at hI9;have D:=aT hI9;clear h9 f9 hI9 U al7 u8 lk z1 pG;go_wp2_with fail;go_roundg (4-i);case measure=>omega
   case rel=>exact⟨i+1,v9,jO,jO,by go_num,D,az9⟩
  ·obtain rfl:i=4:=by omega
   have Zd:¬(((4:Nat):Int)<4):=jO;rw[jE] at C;clear HBL;have Ou:=C.lo;go_wp2_with fail;refine(TW (c:=Zm) wr C.Xc C.ok jD jD Ou).mono ?_;rintro e w5 ⟨rfl,h5,f5⟩;have Y:=aT (C.A0 f5 h5 (C.ok.goes jD));have Ek:=Y.lo;rw[uS];clear h5 f5 C Ou
   go_wp2_with (refine Great.wpList_buildSliceTo rfl 79 Wc 1 _ rfl _ rfl _ rfl underlying79 #[.int .i64 0,.int .u16 5,.int .u32 0,.int .i64 5,.int .i64 0] jK ?_)
   refine(YW (xs:=[ins 0x05 0 5 0]) w5 Y.Xc rfl rfl jD Ek).mono ?_;rintro e w6 ⟨rfl,v6,h6,f6⟩;have gq:=Y.A0 f6 h6 (Y.ok.put _);have bD:Hid (UM N M Bm Bt w.heap.size q es s0 s1 w w6 v6 XH (RX 4)):=gq;clear h6 f6 gq Y Ek;have HKY:=aT (vU (some Bt) w6);have HSO:=aT (DI (ks:=[0,2,3,4]) bD.tk rfl jD jD);rw[jC] at HSO;go_wp2_with fail;refine HKY.mono ?_;rintro e w7 ⟨rfl,rfl⟩;go_wp2_with fail;refine HSO.mono ?_;rintro e w7 ⟨vs,rfl,J,TH⟩;obtain⟨gS,cS,rfl,_,_⟩:=World.ownsRow.form J jD;have HI7:=aT (bD.bl TH);have HRW:=aT (Y7 J bD.lo);clear J TH HKY HSO bD;go_upto_region 13 with fail;go_loopg [56] 5 (λgg iv wq=>∃(i:Nat) (v':Value) (g':G) (p:YE),i<=4/\4-i<gg/\iv=.int .i64 (i:Int)/\Hid (UM N M Bm Bt w.heap.size q es s0 s1 w wq v' g' (RX 4))/\Hid (wq.ownsRow w.heap.size 3 1 (.slice (some ⟨gS,0,none⟩) 4 cS) 4 (([0,2,3,4]:List Int).map encZ))/\Hid (PR q es s0 s1 i p)/\Hid (g'=gN p i)/\Hid (g'.sz<=20+i*22000));case atStart=>exact⟨0,v6,XH,⟨q.x,q.d,[],[],[],[],[]⟩,jO,jO,rfl,HI7,HRW,⟨rfl,rfl,λh=>absurd h jD,λh=>absurd h jD,λh=>absurd h jD,λh=>absurd h jD⟩,rfl,(show XH.sz<=20 from jD)⟩
   case round=>
    obtain⟨i,v',g',p,hi4,Vs,rfl,C,Ay,HPR,HGN,fx⟩:=hrel;clear HI7 HRW;have i0:=jZ i;by_cases hlt:i<4
    ·have Zd:(i:Int)<4:=by omega
     have y0:wr.cell? ⟨gS,i,none⟩=some (.int .i64 (aI i:Int)):=(Ay.cellAt i jO).trans (az8 hlt);obtain⟨A,hA⟩:=jX (aI i);have lk:=Dd C.tk jO hlt;rw[hA] at y0 lk;have HA:=aT hA;clear hA;have hsz:=fx.out;have hg1:g'.l.length+1<=1000000:=by unfold G.sz at hsz;omega
     have hg2:(g'.here (i+1)).l.length+1<=1000000:=by have:=UE g' (i+1);unfold G.sz at this hsz;omega
     have Jg:=C.lo;go_wp2_with fail;refine(TT (m:=i) wr C.Xc hg1 Jg).mono ?_;rintro e w8 ⟨rfl,v8,h8,f8⟩;have U:=aT (C.A0 f8 h8 (C.ok.here _));have fS:=aT (f8.TN C.Xc Ay jD jD);have pG:=U.lo;clear h8 f8 C Ay y0 lk Jg hg1
     go_wp2_with (refine Great.wpList_buildSliceTo rfl 79 Wc 1 _ rfl _ rfl _ rfl underlying79 #[.int .i64 0,.int .u16 32,.int .u32 0,.int .i64 0,.int .i64 0] jK ?_)
     refine(YW (xs:=[ins 0x20 0 0 0]) w8 U.Xc rfl rfl hg2 pG).mono ?_;rintro e w9 ⟨rfl,v9,h9,f9⟩;have hI9:UM N M Bm Bt w.heap.size q es s0 s1 w w9 v9 (Ve (i+1) g') (RX 4):=U.A0 f9 h9 (U.ok.put _);have D:=aT hI9;have mM:=aT (f9.TN U.Xc fS jD jD);have al8:=D.lo;have hst:=sJ (i+1) g';clear h9 f9 hI9 U fS pG hg2;obtain⟨c0,c1,c2,c3,c4,c5,c6,c7,c8⟩:=Kc D.pl;have iw:=jW i;by_cases sL:i=0
     ·subst sL;obtain rfl:A=0:=HA.out.symm;have hk0:=HK 0 jD;have tS:=HK 1 jD;have HX:=aT (kD w9 D.pk D.Xc D.ok jO HN al8);unfold Zy VD at HX;go_wp2_with fail;refine HX.mono ?_;rintro e w10 ⟨rfl,v10,p0,p1,a1,a2,b1,b2,b3,h10,f10,o10⟩;have ab2:=aT (D.A0 f10 h10 o10);have Aw:=aT (f10.TN D.Xc mM jD jD)
      have pF:(Un q.x q.d p0 p1 (Ve 1 g')).sz<=20+1*22000:=by
       have h1:=sK q.x q.d p0 p1 (Ve 1 g');have e0:=Y2 a1;have e1:ZW p1<=10000:=by
        cases hx:q.x with
        |true=>rw[Y2 (b1 hx)];exact tS
        |false=>rw[b2 hx];decide
       simp only[Nat.zero_mul,aec] at hsz;rw[show(0+1)=1 from rfl] at hst;omega
      have pE:Hid (PR q es s0 s1 1 ⟨q.x,q.d,p0,p1,[],[],[]⟩):=⟨rfl,rfl,λ_=>⟨⟨a1,a2⟩,b1,b2,b3⟩,λh=>absurd h jD,λh=>absurd h jD,λh=>absurd h jD⟩;have ab3:Hid (Un q.x q.d p0 p1 (Ve 1 g')=gN ⟨q.x,q.d,p0,p1,[],[],[]⟩ 1):=by rw[show g'=XH from HGN.out];rfl
      have ab4:=aT pF;clear h10 f10 o10 a1 a2 b1 b2 b3 HX D mM c0 c1 c2 c3 c4 c5 c6 c7 c8 pF hst;go_wp2_with fail;go_roundg (4-0);case measure=>omega
      case rel=>exact⟨1,v10,_,_,jO,jO,by go_num,ab2,Aw,pE,ab3,ab4⟩
     ·have hAi:A=i+1:=by rw[<-HA.out];unfold aI;rw[aN sL]
      have xH:A<5:=jO;have haz:((A:Int) == 0)=false:=by rw[af];omega
      have HAI:=aT hAi;have hka:=HK A xH;have HX:=aT (NY w9 D.pk xH D.Xc D.ok jO HN al8);unfold Zy VD at HX;clear hAi;go_wp2_with fail;refine HX.mono ?_;rintro e w10 ⟨rfl,v10,ps,a1,a2,h10,f10,o10⟩;have ab2:=aT (D.A0 f10 h10 o10);have Aw:=aT (f10.TN D.Xc mM jD jD);have pF:(Y3 q.d ps (Ve (i+1) g')).sz<=20+(i+1)*22000:=by have h1:=Wy q.d ps (Ve (i+1) g');have e0:=Y2 a1;omega
      rw[HAI.out] at a1;obtain⟨p',mS,tI⟩:=jB jO hlt HPR (ps:=ps) ⟨a1,a2⟩;rw[<-HGN.out] at tI;have pE:=aT mS;have ab3:=aT tI;have ab4:=aT pF;clear h10 f10 o10 a1 a2 HX D mM c0 c1 c2 c3 c4 c5 c6 c7 c8 pF hst mS tI;go_wp2_with fail;go_roundg (4-i);case measure=>omega
      case rel=>exact⟨i+1,v10,_,p',jO,jO,by go_num,ab2,Aw,pE,ab3,ab4⟩
    ·obtain rfl:i=4:=by omega
     have Zd:¬(((4:Nat):Int)<4):=jO;have hgd:g'=gD p:=HGN;subst hgd;have hsz:=fx.out;unfold G.sz at hsz;have mz:=C.ok;have hbl:(gD p).b.length<=100000:=by have:=mz.len;omega
     have HSO:=aT (Df C.Xc.map mz.keys mz.Fp jO (by
      have h1:=OA.2.2;obtain⟨_,_,_,_,l1,l2,l3,l4⟩:=TZ p;have h2:=(((l1.trans l2).trans l3).trans l4).b _ h1;have hk:look (gD p).b Zm≠0:=by rw[h2];exact h1
      intro e;exact hk (by rw[e];rfl)))
     have HKY:=aT (uV (some Bm) wr);have m2:wr.cell? ⟨M,2,none⟩=some (.map (some Bm)):=by simpa using C.out.Xc.blk.cell 2
     have HBL:=aT hbl;clear mz;go_wp2_with fail;refine HKY.mono ?_;rintro e w11 ⟨rfl,rfl⟩;go_wp2_with fail;refine HSO.mono ?_;rintro e w11 ⟨vc,cs,rfl,Jl,J,al9⟩;obtain⟨K,hK⟩:=jX cs.length;have hKb:K<=100000:=by have:=Jl.length_eq;rw[aab] at this;have:=HBL.out;omega
     rw[hK] at J;obtain⟨ka,kc,rfl⟩:=ZI J;have am0:=aT (C.bl al9);have am1:=aT (Y7 J C.lo);have qL:=aT Jl;have HKK:=aT hK;have I:Hid (UM N M Bm Bt w.heap.size q es s0 s1 w w11 v' ⟨(gD p).l++Zv (gD p).b (cs.take 0),(gD p).n,(gD p).b⟩ (RX 4)):=by
      have h:=am0.out;rw[show(⟨(gD p).l++Zv (gD p).b (cs.take 0),(gD p).n,(gD p).b⟩:G)=gD p by rw[List.take_zero];show G.mk ((gD p).l++[]) _ _=_;rw[adb]]
      exact h
     clear Jl hK J al9 HKY HSO C m2 Ay am0;go_upto_region 22 with fail;go_loopg [86] (K+1) (λgg iv wq=>∃(i:Nat) (v':Value),i<=K/\K-i<gg/\iv=.int .i64 (i:Int)/\Hid (UM N M Bm Bt w.heap.size q es s0 s1 w wq v' ⟨(gD p).l++Zv (gD p).b (cs.take i),(gD p).n,(gD p).b⟩ (RX 4))/\Hid (wq.ownsRow w.heap.size 53 1 (.slice ka K kc) K (Vw cs)));case atStart=>exact⟨0,v',jO,jO,rfl,I,am1⟩
     case round=>
      obtain⟨i,v3,hiK,ai0,rfl,C,Ay⟩:=hrel;clear I am1;have j0:=jZ i;by_cases hlt:i<K
      ·have pD:(i:Int)<(K:Int):=by omega
       obtain⟨c,hc⟩:∃c,cs[i]? =some c:=⟨_,aL (by rw[HKK.out];exact hlt)⟩;obtain⟨kg,rfl,Jd,Ny⟩:=X9 (λn:Nat=>[Value.int .u32 n]) 1 (λ_=>rfl) HKK Ay hc;have y0:=Ny 0 jD;simp only[aqa,aec,aM] at y0;have hcm:c∈(gD p).b.map (·.1):=qL.mem_iff.1 (ag hc);obtain⟨pp,hpp,hpc⟩:=ah.1 hcm;have aA0:c<4294967296:=by rw[<-hpc];exact(C.ok.Fp pp hpp).1
       have m2:wr.cell? ⟨M,2,none⟩=some (.map (some Bm)):=by simpa using C.out.Xc.blk.cell 2
       have lk:=KQ C.Xc.map C.ok.keys C.ok.Fp aA0;dsimp only at lk;have sQ:=aT (Db (gD p).b hc);obtain⟨LK,hLK⟩:=jX (look (gD p).b c);rw[hLK] at lk sQ;have hl1:((gD p).l++Zv (gD p).b (cs.take i)).length+2<=1000000:=by rw[ay,S3,abg];omega
       have Jg:=C.lo;have dA:=aT hl1;clear Ny hc hcm hpp hpc hLK hl1;go_wp2_with fail;refine(KP (m:=LK) wr C.Xc (by have:=dA.out;show((gD p).l++Zv (gD p).b (cs.take i)).length+1<=_;omega) Jg).mono ?_;rintro e w12 ⟨rfl,v12,h12,f12⟩;have I:=aT (C.A0 f12 h12 (C.ok.here _));have pC:=aT (f12.TN C.Xc Ay jD jD);have fw:=I.lo;clear h12 f12 C Ay m2 lk y0 Jg
       go_wp2_with (refine Great.wpList_buildSliceTo rfl 79 Wc 1 _ rfl _ rfl _ rfl underlying79 #[.int .i64 0,.int .u16 6,.int .u32 c,.int .i64 0,.int .i64 0] jK ?_)
       refine(YW (xs:=[ins 0x06 c 0 0]) w12 I.Xc rfl rfl (by show(((gD p).l++Zv (gD p).b (cs.take i))++[Zq (LK:Int)]).length+1<=_;have:=dA.out;rw[ay];show((gD p).l++Zv (gD p).b (cs.take i)).length+1+1<=_;omega) fw).mono ?_;rintro e w13 ⟨rfl,v13,h13,f13⟩;have am2:=I.A0 f13 h13 (I.ok.put _);have aA1:Hid (UM N M Bm Bt w.heap.size q es s0 s1 w w13 v13 ⟨(gD p).l++Zv (gD p).b (cs.take (i+1)),(gD p).n,(gD p).b⟩ (RX 4)):=by
        rw[show(⟨(gD p).l++Zv (gD p).b (cs.take (i+1)),(gD p).n,(gD p).b⟩:G)=((⟨(gD p).l++Zv (gD p).b (cs.take i),(gD p).n,(gD p).b⟩:G).here LK).put [ins 0x06 c 0 0] by rw[sQ.out];unfold G.here G.put;simp only[aag];rfl]
        exact am2
       have aA2:=aT (f13.TN I.Xc pC jD jD);have iw:=jW i;clear h13 f13 am2 I pC fw dA;go_wp2_with fail;go_roundg (K-i);case measure=>omega
       case rel=>exact⟨i+1,v13,jO,jO,by go_num,aA1,aA2⟩
      ·obtain rfl:i=K:=by omega
       have pD:¬(i:Int)<(i:Int):=jO;have m0:wr.cell? ⟨M,0,none⟩=some v3:=by simpa using C.out.Xc.blk.cell 0
       have Z:(gD p).l++Zv (gD p).b (cs.take i)=ZL p cs:=by rw[abe (by rw[HKK.out];exact aR _)];rfl
       have hlen:(ZL p cs).length<=1000000:=by rw[<-Z,ay,S3,abg];omega
       have fu:(ZL p cs).length<=80+2*TP p:=by have z1:=ag4 p;have z2:(gD p).b.length<=(gD p).n:=C.ok.len;have z3:=qL.length_eq;rw[aab] at z3;rw[<-Z,ay,S3,abg];unfold G.sz at z1;omega
       have HIT:=aT Z;have HLN:=aT hlen;have HL2:=aT fu;clear Z hlen fu Ay;go_wp2_with fail;go_ret;have hown:=C.Xc.own;dsimp only at hown;rw[HIT.out] at hown;obtain⟨a1,a2,a3,a4,a5,a6⟩:=HPR.out;exact⟨_,p,cs,rfl,a1,a2,(a3 jD).1,(a3 jD).2,a4 jD,a5 jD,a6 jD,pI (by
        have h:=C.ok;exact⟨h.keys,h.Fp,h.len⟩) qL,(λc hc=>by
        obtain⟨q,hq,rfl⟩:=ah.1 (qL.mem_iff.1 hc);exact(C.ok.Fp q hq).1),HLN,HL2,hown,C.Zr⟩
end Go.Proofs.YtclgigmgbebhgaaGreatDoor
namespace Go.Proofs.YtclgigmgbebhgaaGreatDoor
open Tryz
open Go Go.Proofs Go.RowKit
theorem Mm:∀l:List Z3,(YG l).length<=l.length
 |[]=>aR _
 |(cs,code)::r=>by
  have C:=Mm r;unfold YG;split;·rw[ai];omega
  ·rw[ai,ai,acg];omega
  ·rw[ai,ai];omega
theorem Hb:∀l:List Z3,(UF l).length<=l.length
 |[]=>aR _
 |(cs,code)::r=>by
  have C:=Hb r;unfold UF;split;·rw[ai,ai,acg];omega
  ·rw[ai,ai];omega
theorem JR:∀l:List Z3,∀r∈YG l,∃q∈l,r.1.length<=q.1.length/\r.2=q.2
 |[],r,h=>by cases h
 |(cs,code)::l,r,h=>by
  have I:=JR l;unfold YG at h;split at h;·obtain⟨q,D,C⟩:=I r h;exact⟨q,by simp[D],C⟩
  ·rw[aaa.1 h];exact⟨(cs,code),jS,abd _,rfl⟩
  ·rename_i ns J;rcases abb.1 h with rfl|h;·exact⟨(cs,code),jS,Tj jA,rfl⟩
   ·obtain⟨q,D,C⟩:=I r h;exact⟨q,by simp[D],C⟩
theorem yl(a d:Nat)(g:List Z3):(Yn a d g).length<=g.length:=by
 unfold Yn strike;rw[avb];have h:=(List.dropWhile_suffix (λr:Z3=>r.2 == d) (l:=(if a=2 then YG g else UF g).reverse)).length_le;rw[avb] at h;have C:=Mm g;have D:=Hb g;split at h<;>split<;>omega
theorem Av{a d:Nat}{g:List Z3}{r:Z3}(h:r∈Yn a d g):∃q∈g,r.1.length<=q.1.length/\r.2=q.2:=by
 have hm:=Kr (VR d _ (if a=2 then YG g else UF g) (aR _)) r h;split at hm;·exact JR g r hm
 ·exact⟨r,Nd g r hm,aR _,rfl⟩
theorem NL{C:Nat}:∀rs:List Z3,(∀r∈rs,r.1.length<=C)->V5 rs<=1+rs.length*(8*C+4)
 |[],_=>by show 1<=1+_;omega
 |r::rs,h=>by have J:=NL rs (λq D=>h q (by simp[D]));have I:=h r jS;unfold V5;rw[ai,ara,Nat.one_mul];omega
theorem Pg:∀xs ys:List (Nat×ZM),ZW (xs++ys)+2=ZW xs+ZW ys
 |[],ys=>by show ZW ys+2=2+ZW ys;omega
 |x::xs,ys=>by have C:=Pg xs ys;show 6+Xx x.2+ZW (xs++ys)+2=6+Xx x.2+ZW xs+ZW ys;omega
theorem Ml{C a:Nat}:∀es:List Xk,(∀e∈es,∀r∈e.2,r.1.length<=C)->ZW (es.map (Vr a))<=2+7*es.length+(es.map (λe=>e.2.length)).sum*(8*C+4)
 |[],_=>by show 2<=_;omega
 |e::es,h=>by have J:=Ml (a:=a) es (λq D=>h q (by simp[D]));have I:=NL e.2 (h e jS);rw[aed,aed,akb,ai,ara];show 6+V5 e.2+ZW (es.map (Vr a))<=_;omega
theorem yj:∀{l:List Nat} {x:Nat},x∈l->x<=l.sum
 |[],x,h=>by cases h
 |y::l,x,h=>by
  rw[akb];rcases abb.1 h with rfl|h;·omega
  ·have:=yj h;omega
theorem pA{l l':List Nat}(h:l.Perm l'):l.sum=l'.sum:=by
 induction h with
 |nil=>rfl
 |cons x _ I=>rw[akb,akb,I]
 |swap x y l=>rw[akb,akb,akb,akb];omega
 |trans _ _ C D=>rw[C,D]
section
variable {l:List Z4.Z1} {dn:List (ByteArray×List Z3)} {x:Bool} {d a m:Nat}
theorem Ha:∀dn:List (ByteArray×List Z3),((Xu x d l dn a).map (λe=>e.2.length)).sum<=(dn.map (λg=>g.2.length)).sum
 |[]=>aR _
 |g::dn=>by
  have C:=Ha dn;unfold Xu at C ⊢;rw[ace,ada,List.sum_append,aed,akb];have:((Y1 x d (YK l g.1).num g.2 a).map (λe=>e.2.length)).sum<=g.2.length:=by
   have h:=yl a d g.2;unfold Y1;split;·exact abd _
   ·split;·exact abd _
    ·split;·exact abd _
     ·simpa using h
  omega
theorem yi:∀dn:List (ByteArray×List Z3),(∀g∈dn,g.2≠[])->dn.length<=(dn.map (λg=>g.2.length)).sum
 |[],_=>aR _
 |g::dn,h=>by have I:=yi dn (λq C=>h q (by simp[C]));have D:=aya.2 (h g jS);rw[ai,aed,akb];omega
theorem Au{C M:Nat}{es:List Xk}{s0 s1:List (Nat×Nat)}(hp:es.Perm (Xu x d l dn a))(I:∀g∈dn,∀r∈g.2,r.1.length<=C)(J:(dn.map (λg=>g.2.length)).sum<=M)(hl:dn.length<=M)(h0:s0.length<=M)(h1:s1.length<=M):ZW (ZZ a es s0 s1)<=18+17*M+M*(8*C+4):=by
 have e1:=Ml (C:=C) (a:=a) es (λe T r hr=>by obtain⟨g,U,_,_,_,rfl⟩:=VY.1 (hp.mem_iff.1 T);obtain⟨q,Y,D,_⟩:=Av hr;exact aO D (I g U q Y))
 have e2:es.length<=M:=by rw[hp.length_eq];exact aO (QG x d l dn a) hl
 have e3:(es.map (λe=>e.2.length)).sum<=M:=by rw[pA (hp.map _)];exact aO (Ha dn) J
 have e4:=aud (8*C+4) e3;have e5:=Pg (es.map (Vr a)) (if a=2 then [(102,.subs s0),(117,.subs s1)] else []);have Z:ZW (if a=2 then [(102,ZM.subs s0),(117,ZM.subs s1)] else [])<=18+5*s0.length+5*s1.length:=by
  split;·show 6+(5*s0.length+2)+(6+(5*s1.length+2)+2)<=_;omega
  ·show 2<=_;omega
 unfold ZZ;omega
theorem uQ{es:List Xk}{s0 s1:List (Nat×Nat)}(I:Z4.ZA l)(C:Mt l dn)(hn:(dn.map (·.1)).Nodup)(ha:a<5)(hp:es.Perm (Xu x d l dn a)):((ZZ a es s0 s1).map (·.1)).Nodup:=by
 have J:(es.map (·.1)).Nodup:=afa.2 (hp.symm.pairwise (vz I C hn ha) (λh e=>h e.symm));unfold ZZ;rw[ada,akd];have e:es.map ((·.1)∘Vr a)=es.map (·.1):=rfl;rw[e];split
 ·rename_i T;refine atg.2 ⟨J,jS,λu hu v hv D=> ?_⟩;subst D;obtain⟨q,Z,rfl⟩:=ah.1 hu;obtain⟨g,Y,U,_,_,rfl⟩:=VY.1 (hp.mem_iff.1 Z);obtain⟨i,hi,e1,_⟩:=J2 (C g Y);have hm:=(Z4.cu (I i hi)).2.2.2.1;rw[<-e1] at hm;unfold Z4.Sb at hm;subst T;have e2:(YK l g.1).num 2=(YK l g.1).n2:=rfl;have e3:whole 2 ((YK l g.1).num 2).toNat=((YK l g.1).num 2).toNat:=rfl;rw[e2] at U;simp only[aed,aqb,abb,ahd,arc] at hv;rw[e3,e2] at hv;rcases hv with hv|hv;·exact hm (.inl jO)
  ·exact hm (.inr jO)
 ·simpa using J
end
structure U1(pr:List NR)(l:List Z4.Z1)(d:Nat)(x:Bool)(dn:List (ByteArray×List Z3))(es:Nat->List Xk)(s0 s1:List (Nat×Nat)):Prop where
 uP:DnF pr d dn
 tab:Z4.ZA l
 all:Mt l dn
 kE:∀a,a<5->(es a).Perm (Xu x d l dn a)
 m0:s0.Perm (WO l dn 0)
 m1:s1.Perm (WO l dn 1)
 r0:Sd s0
 r1:Sd s1
 d32:d<4294967296
section
variable {pr:List NR} {l:List Z4.Z1} {d:Nat} {x:Bool} {dn:List (ByteArray×List Z3)} {es:Nat->List Xk} {s0 s1:List (Nat×Nat)}
theorem U1.jz(h:U1 pr l d x dn es s0 s1):dn.length<=pr.length:=aO (yi dn h.uP.ne) h.uP.cnt
theorem U1.cost{C:Nat}(h:U1 pr l d x dn es s0 s1)(D:∀q∈pr,q.cs.length<=C){a:Nat}(ha:a<5):ZW (ZZ a (es a) s0 s1)<=18+17*pr.length+pr.length*(8*C+4):=by
 refine Au (h.kE a ha) (λg I r hr=> ?_) h.uP.cnt h.jz ?_ ?_;·obtain⟨q,T,J⟩:=h.uP.cs g I r hr;exact aO J (D q T)
 ·rw[h.m0.length_eq];exact aO (Vk l dn 0) h.jz
 ·rw[h.m1.length_eq];exact aO (Vk l dn 1) h.jz
theorem K3(h:U1 pr l d x dn es s0 s1){m:Nat}:∀p∈WO l dn m,p.1<4294967296/\p.2<4294967296:=λp hp=>by
 unfold WO at hp;obtain⟨g,C,hp⟩:=aqd.1 hp;obtain⟨_,rfl⟩:=Q1 hp;have D:=(QH h.tab g.1).2.2.2.2;have I:=(QH h.tab g.1).2.2.2.1;refine⟨by show(YK l g.1).sub.toNat<_;omega,?_⟩;cases hr:g.2[0]? with
 |none=>show(0:Nat)<_;decide
 |some r=>exact h.uP.code g C r (ag hr)
theorem pz{l:List Z4.Z1}(C:Z4.ZA l)(nm:ByteArray){a:Nat}(ha:a<5)(D:0<=(YK l nm).num a):whole a ((YK l nm).num a).toNat<4294967296:=by
 have:=(QH C nm).1 a ha;unfold whole VT;split<;>omega
theorem G9(h:U1 pr l d x dn es s0 s1){a:Nat}(ha:a<5):∀e∈es a,e.1<4294967296/\O0 e.2:=λe D=>by
 obtain⟨g,C,I,_,_,rfl⟩:=VY.1 ((h.kE a ha).mem_iff.1 D);refine⟨pz h.tab g.1 ha I,λr hr=>⟨?_,?_⟩⟩;·obtain⟨q,J,_,e2⟩:=Av hr;rw[e2];exact h.uP.code g C q J
 ·exact(Kq (h.uP.rules g C)).2 r hr
theorem FX{lo:Nat}{W:World}{v:Value}{l:List Xk}(h:Re lo W v l):WA W.heap.size W v l:=by
 obtain⟨ds,rfl,C⟩:=h;obtain⟨a,c,rfl⟩:=Z0 C.row;refine⟨a,c,by rw[aab],λi e D=> ?_⟩;rw[acd] at D;obtain⟨y,hy,rfl⟩:=Option.map_eq_some_iff.1 D;obtain⟨g,e1,_,hc⟩:=X9 Jb 2 (λ_=>rfl) rfl C.row hy;have c0:=hc 0 jD;have c1:=hc 1 jD;refine⟨g,0,.slice y.a y.m y.c,e1,afg _ _ c0,by rw[ade];exact c0,by rw[ade];exact c1,(C.rs y (ag hy)).rules⟩
theorem G8{lo:Nat}{W:World}{v:Value}{l:List (Nat×Nat)}(h:Mw lo W v l):Vy W.heap.size W v l:=by
 have C:W.ownsRow lo Ob 2 v l.length (l.flatMap encS):=h;obtain⟨a,c,rfl⟩:=Z0 C;refine⟨a,c,rfl,λi e D=> ?_⟩;obtain⟨g,e1,_,hc⟩:=X9 encS 2 (λ_=>rfl) rfl C D;have c0:=hc 0 jD;have c1:=hc 1 jD;exact⟨g,0,e1,afg _ _ c0,by rw[ade];exact c0,by rw[ade];exact c1⟩
theorem U1.ok{C:Nat}(h:U1 pr l d x dn es s0 s1)(hL:pr.length<=4000)(Z:∀q∈pr,q.cs.length<=C)(Y:C<=1000000){N:Nat}{W:World}{q:X5}(hd:q.d=d)(hE:∀a,a<5->WA N W (VD (q.e a)) (es a))(I:Vy N W (VD q.s0) s0)(J:Vy N W (VD q.s1) s1):Ug N W q es s0 s1:=by
 have hdl:=h.jz;have D:∀a,a<5->(es a).length<=4000:=λa ha=>by rw[(h.kE a ha).length_eq];have:=QG x d l dn a;omega
 refine⟨by rw[hd];exact h.d32,hE,λa ha e T=> ?_,D,I,J,⟨?_,h.r0,λp hp=>(K3 h p (h.m0.mem_iff.1 hp)).2⟩,⟨?_,h.r1,λp hp=>(K3 h p (h.m1.mem_iff.1 hp)).2⟩,λa ha=>uQ h.tab h.all h.uP.nodup ha (h.kE a ha)⟩
 ·obtain⟨h1,h2⟩:=G9 h ha e T;obtain⟨g,U,g0,_,_,rfl⟩:=VY.1 ((h.kE a ha).mem_iff.1 T);refine⟨h1,h2,?_,λr hr=> ?_⟩;·have e1:=yl a d g.2;have e2:g.2.length<=(dn.map (λg=>g.2.length)).sum:=yj (ah.2 ⟨g,U,rfl⟩);have e3:=h.uP.cnt;show(Yn a d g.2).length<=_;omega
  ·obtain⟨q,hq,e2,_⟩:=Av hr;obtain⟨y,hy,e3⟩:=h.uP.cs g U q hq;have:=Z y hy;omega
 ·rw[h.m0.length_eq];have:=Vk l dn 0;omega
 ·rw[h.m1.length_eq];have:=Vk l dn 1;omega
theorem NK(h:U1 pr l d x dn es s0 s1){a:Nat}(ha:a<5){ps:List (Nat×ZM)}(hp:ps.Perm (ZZ a (es a) s0 s1)):Ub ps:=λp D=>by
 rcases F6.1 (hp.mem_iff.1 D) with⟨e,C,rfl⟩|⟨_,rfl|rfl⟩;·exact G9 h ha e C
 ·exact⟨(by show(102:Nat)<_;decide),λp hp=>K3 h p (h.m0.mem_iff.1 hp)⟩
 ·exact⟨(by show(117:Nat)<_;decide),λp hp=>K3 h p (h.m1.mem_iff.1 hp)⟩
theorem Mk{p:YE}(h:U1 pr l d x dn es s0 s1)(hd:p.d=d)(hx:p.Vl=x)(I:p.p0.Perm (ZZ 0 (es 0) s0 s1)/\p.p0.Pairwise (λx y=>x.1<y.1))(C:(x=true->p.p1.Perm (ZZ 1 (es 1) s0 s1))/\(x=false->p.p1=[])/\p.p1.Pairwise (λx y=>x.1<y.1))(D:p.p2.Perm (ZZ 2 (es 2) s0 s1)/\p.p2.Pairwise (λx y=>x.1<y.1))(J:p.p3.Perm (ZZ 3 (es 3) s0 s1)/\p.p3.Pairwise (λx y=>x.1<y.1))(T:p.p4.Perm (ZZ 4 (es 4) s0 s1)/\p.p4.Pairwise (λx y=>x.1<y.1)):
 Rb p (gsT l dn) s0 s1/\p.B:=by
 subst hd hx;have at_:∀{a:Nat} {ps:List (Nat×ZM)},a<5->ps.Perm (ZZ a (es a) s0 s1)->ps.Pairwise (λx y=>x.1<y.1)->Ut p.Vl p.d (gsT l dn) s0 s1 a ps:=λ{a ps} ha C D=>qh (h.kE a ha) C D h.uP.rules h.r0 h.r1
 have Y:WE p.p1/\Ub p.p1:=by
  cases hx:p.Vl with
  |true=>exact⟨(at_ jD (C.1 hx) C.2.2).1,NK h jD (C.1 hx)⟩
  |false=>
   rw[C.2.1 hx];exact⟨⟨List.Pairwise.nil,λq U=>by cases U⟩,λq U=>by cases U⟩
 refine⟨⟨at_ jD I.1 I.2,λhx=>at_ jD (C.1 hx) C.2.2,Y.1,at_ jD D.1 D.2,at_ jD J.1 J.2,at_ jD T.1 T.2,λG Z=> ?_⟩,NK h jD I.1,Y.2,NK h jD D.1,NK h jD J.1,NK h jD T.1⟩;obtain⟨g,hg,rfl⟩:=ah.1 Z;exact h.uP.rules g hg
end
theorem py{pr:List NR}{gs:List Uu}{ss:List ByteArray}{k n:Int}{rn:List NR}(U:ss.Perm (gs.map (·.nm)))(T:gs.Pairwise (λx y=>x.nm≠y.nm))(C:Tc YM pr gs)(Y:RY pr gs)(Z:ss.flatMap (Ts k n gs)=rn)
 (hr:∀r∈pr,r.cs.length<=1000/\∀c∈r.cs,c.right) (ha:∀r∈pr,Yk.Zu r.k r.n=true):rn.length<=pr.length/\∀q∈rn,Yk.Zu q.k q.n=true/\q.cs.length<=1000/\∀c∈q.cs,c.m<YN/\c.v<YN:=by
 subst Z;have J:ss.Nodup:=U.nodup_iff.2 (afa.2 T);refine⟨?_,λq I=> ?_⟩;·rw[List.length_flatMap];refine aO (A5 _ (λnm=>(ofName nm pr).length) ss (λnm _=> ?_)) (OS ss pr J);have h1:=DA k n gs nm;have h2:=Ib (C nm);rw[aab,aab] at h2;omega
 ·obtain⟨nm,_,I⟩:=aqd.1 I;obtain⟨_,q2,D,_,h3,h4,h5⟩:=Ra Y (Ta I);have h6:=ha q2 D;rw[h3,h4] at h6;refine⟨h6,aO h5 (hr q2 D).1,λc hc=> ?_⟩
  have hN:Ui ((XW gs nm).map RF):=DU (C nm) (λr h=>by obtain⟨y,hy,rfl⟩:=ah.1 h;exact(hr y (Q8 hy)).2)
  have:=(hN (RF q) (List.mem_map_of_mem (Ta I)) c hc).1;exact⟨this.2.2.2.1,this.2.2.2.2⟩
theorem G7{α:Type}{l:List α}{i j:Nat}{q:α}(C:i<=j)(D:l[j]? =some q):(l.drop i).take (j+1-i)=(l.drop i).take (j-i)++[q]:=by
 rw[show j+1-i=(j-i)+1 from jO,afd,avg,show i+(j-i)=j from jO,D];rfl
theorem take_split{α:Type}{l:List α}{i j:Nat}(C:i<=j):l.take j=l.take i++(l.drop i).take (j-i):=by
 rw[<-List.take_add]
 congr 1
 omega
section
variable {lo P R:Nat} {W W':World} {d:Nat} {x:Bool} {ve vs:Nat->Value} {E:Nat->List Xk} {S:Nat->List (Nat×Nat)}
theorem Re.uO{v:Value}{l:List Xk}{B t:Nat}{cs:Array Value}(h:Re lo W v l)(C:Z7 W B t cs)(U:Oj≠t)(I:TQ≠t)(D:TC≠t)(j:Nat)(u:Value):Re lo (W.setCell ⟨B,j,none⟩ u) v l:=by
 obtain⟨es,e,T,J⟩:=h;exact⟨es,e,ZV T C U j u,λy hy=>(J y hy).set C I D j u⟩
theorem Mw.uO{v:Value}{l:List (Nat×Nat)}{B t:Nat}{cs:Array Value}(h:Mw lo W v l)(I:Z7 W B t cs)(D:Ob≠t)(j:Nat)(u:Value):Mw lo (W.setCell ⟨B,j,none⟩ u) v l:=by
 have C:W.ownsRow lo Ob 2 v l.length (l.flatMap encS):=h;exact ZV C I D j u
structure R5(lo:Nat)(W:World)(ve vs:Nat->Value)(E:Nat->List Xk)(S:Nat->List (Nat×Nat)):Prop where
 OT:∀a,a<5->Re lo W (ve a) (E a)
 subs:∀m,m<2->Mw lo W (vs m) (S m)
theorem R5.uO{B t:Nat}{cs:Array Value}(h:R5 lo W ve vs E S)(C:Z7 W B t cs)(T:Oj≠t)(I:TQ≠t)(D:TC≠t)(J:Ob≠t)(j:Nat)(u:Value):R5 lo (W.setCell ⟨B,j,none⟩ u) ve vs E S:=⟨λa ha=>(h.OT a ha).uO C T I D j u,λm hm=>(h.subs m hm).uO C J j u⟩
theorem R5.set{B:Nat}{cs:Array Value}(h:R5 lo W ve vs E S)(C:Z7 W B Xw cs)(j:Nat)(u:Value):R5 lo (W.setCell ⟨B,j,none⟩ u) ve vs E S:=h.uO C jD jD jD jD j u
theorem R5.px{c0 c1 c2 c3 c4 c5 c6 c7 c8:Value}(h:R5 lo W ve vs E S)(hb:Z7 W R Xw #[c0,c1,c2,c3,c4,c5,c6,c7,c8])(Y T U D I Z J C d8:Value):R5 lo (((((((((W.setCell ⟨R,0,none⟩ Y).setCell ⟨R,1,none⟩ T).setCell ⟨R,2,none⟩ U).setCell ⟨R,3,none⟩ D).setCell ⟨R,4,none⟩ I).setCell ⟨R,5,none⟩ Z).setCell ⟨R,6,none⟩ J).setCell ⟨R,7,none⟩ C).setCell ⟨R,8,none⟩ d8) ve vs E S:=by
 have b0:=hb.set 0 Y;have b1:=b0.set 1 T;have b2:=b1.set 2 U;have b3:=b2.set 3 D;have b4:=b3.set 4 I;have b5:=b4.set 5 Z;have b6:=b5.set 6 J;have b7:=b6.set 7 C;exact((((((((h.set hb 0 Y).set b0 1 T).set b1 2 U).set b2 3 D).set b3 4 I).set b4 5 Z).set b5 6 J).set b6 7 C).set b7 8 d8
theorem Yt.rows(h:Yt lo P W d x ve vs E S):R5 lo W ve vs E S:=⟨h.OT,h.subs⟩
theorem Yt.am3(h:Yt lo P W d x ve vs E S):∃q:X5,q.d=d/\q.x=x/\U5 d x ve vs=Zy q/\(∀a,a<5->VD (q.e a)=ve a)/\VD q.s0=vs 0/\VD q.s1=vs 1:=by
 have C:∀a,a<5->∃t:Option Addr×Nat×Nat,VD t=ve a:=λa ha=>by obtain⟨es,_,hE⟩:=h.OT a ha;obtain⟨b,c,e⟩:=Z0 hE.row;exact⟨(b,es.length,c),e.symm⟩
 have hs:∀m,m<2->∃t:Option Addr×Nat×Nat,VD t=vs m:=λm hm=>by have Y:W.ownsRow lo Ob 2 (vs m) (S m).length ((S m).flatMap encS):=h.subs m hm;obtain⟨b,c,e⟩:=Z0 Y;exact⟨(b,(S m).length,c),e.symm⟩
 obtain⟨Z,e0⟩:=C 0 jD;obtain⟨t1,e1⟩:=C 1 jD;obtain⟨t2,e2⟩:=C 2 jD;obtain⟨J,e3⟩:=C 3 jD;obtain⟨t4,e4⟩:=C 4 jD;obtain⟨T,I⟩:=hs 0 jD;obtain⟨U,D⟩:=hs 1 jD;refine⟨⟨d,x,Z,t1,t2,J,t4,T,U⟩,rfl,rfl,?_,λa ha=> ?_,I,D⟩;·unfold U5 Zy;rw[e0,e1,e2,e3,e4,I,D]
 ·rcases (show a=0\/a=1\/a=2\/a=3\/a=4 from jO) with rfl|rfl|rfl|rfl|rfl<;>assumption
theorem Yt.am4(h:Yt lo P W d x ve vs E S){a:Nat}(ha:a<5){es es':List Lx}(he:es.map (λy=>(y.n,y.rs))=E a)(I:kM lo W (ve a) es)(hp:es'.Perm es)(hO:W'.ownsRow lo Oj 2 (ve a) es.length (es'.flatMap Jb))(hb:Below lo W W')(hsz:W.heap.size<=W'.heap.size)(hk:∀j o,W.heap[j]? =some o->(ve a).ownBlock≠some j->W'.heap[j]? =some o):
 Yt lo P W' d x ve vs (N2 E a (es'.map (λy=>(y.n,y.rs)))) S/\Kept lo P W W':=by
 have J:W.grownBy W' (ve a).ownBlock:=⟨hb.os,hb.tape,hb.output,hsz,λk hlt Y=>by have e:=ang hlt;rw[e];exact hk k _ e (λe2=>Y e2.symm)⟩
 have hK:Kept lo P W W':=Kept.grown h.lt I.row (.inl rfl) J;have U:Z7 W' P Xw (U5 d x ve vs):=h.blk.kept J (λe=>U4 I.row h.blk jD e.symm);refine⟨⟨U,h.lw,λb D=> ?_,λm hm=> ?_,h.mW,h.mV⟩,hK⟩
 ·by_cases e:b=a;·subst e;rw[XQ];refine⟨es',rfl,?_,λy hy=>hK.N3 (I.rs y (hp.mem_iff.1 hy))⟩;rw[hp.length_eq];exact hO
  ·rw[X4 _ _ e];obtain⟨Z,e2,T,h2⟩:=h.OT b D;refine⟨Z,e2,T.kept J ?_,λy hy=>hK.N3 (h2 y hy)⟩;cases C:(ve a).ownBlock with
   |none=>cases (ve b).ownBlock<;>simp
   |some k=>exact .inr (h.mW a b ha D (ame e) k C)
 ·have T:W.ownsRow lo Ob 2 (vs m) (S m).length ((S m).flatMap encS):=h.subs m hm;refine World.ownsRow.kept T J ?_;cases C:(ve a).ownBlock with
  |none=>cases (vs m).ownBlock<;>simp
  |some k=>
   obtain⟨cs,hc⟩:=Xm I.row C;exact .inr (U4 T hc jD)
theorem Yt.am5(h:Yt lo P W d x ve vs E S){m:Nat}(hm:m<2){s':List (Nat×Nat)}(hp:s'.Perm (S m))(hO:W'.ownsRow lo Ob 2 (vs m) (S m).length (s'.flatMap encS))(hb:Below lo W W')(Z:W.heap.size<=W'.heap.size)(hk:∀j o,W.heap[j]? =some o->(vs m).ownBlock≠some j->W'.heap[j]? =some o):
 Yt lo P W' d x ve vs E (N2 S m s')/\Kept lo P W W':=by
 have I:W.grownBy W' (vs m).ownBlock:=⟨hb.os,hb.tape,hb.output,Z,λk hlt U=>by have e:=ang hlt;rw[e];exact hk k _ e (λe2=>U e2.symm)⟩
 have hS:W.ownsRow lo Ob 2 (vs m) (S m).length ((S m).flatMap encS):=h.subs m hm;have hK:Kept lo P W W':=Kept.grown h.lt hS (.inr rfl) I;have T:Z7 W' P Xw (U5 d x ve vs):=h.blk.kept I (λe=>U4 hS h.blk jD e.symm);refine⟨⟨T,h.lw,λb C=> ?_,λb C=> ?_,h.mW,h.mV⟩,hK⟩
 ·obtain⟨Y,e2,J,h2⟩:=h.OT b C;refine⟨Y,e2,J.kept I ?_,λy hy=>hK.N3 (h2 y hy)⟩;cases D:(vs m).ownBlock with
  |none=>cases (ve b).ownBlock<;>simp
  |some k=>
   obtain⟨cs,hc⟩:=Xm hS D;exact .inr (U4 J hc jD)
 ·by_cases e:b=m;·subst e;rw[XQ];show World.ownsRow _ _ _ _ _ _ _;rw[hp.length_eq];exact hO
  ·rw[X4 _ _ e];have J:W.ownsRow lo Ob 2 (vs b) (S b).length ((S b).flatMap encS):=h.subs b C;refine World.ownsRow.kept J I ?_;cases D:(vs m).ownBlock with
   |none=>cases (vs b).ownBlock<;>simp
   |some k=>exact .inr (h.mV m b hm C (ame e) k D)
end
end Go.Proofs.YtclgigmgbebhgaaGreatDoor
