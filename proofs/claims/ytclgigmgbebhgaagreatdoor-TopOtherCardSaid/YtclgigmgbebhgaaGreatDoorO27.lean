/- TopOther: part 27: TopRead TopKeysU TopItems TopPl3 TopPl4. -/
import Derived.Shelf.SlIterI.Collect
import Derived.Test.YtclgigmgbebhgaaGreatDoorO26
set_option linter.unusedVariables false
set_option linter.unusedSimpArgs false
set_option maxRecDepth 100000
set_option maxHeartbeats 16000000
namespace Go.Proofs.YtclgigmgbebhgaaGreatDoor
open Tryz
open Go Go.Proofs Go.RowKit Go.Shelf
variable {L j g off N:Nat} {W:World}
attribute [local go_sem] atd
@[go_sem] abbrev eZ:Oper:=⟨some 32,.load 84 (.tmp 4),84,"inst.go:106",#[],none⟩
@[go_sem] abbrev eY:Oper:=⟨some 44,.buildSlice 84 1 #[(0,.tmp 43)],84,"inst.go:106",#[⟨11,.data⟩],none⟩
@[go_sem] abbrev eX:Oper:=⟨some 45,.call {callee:=.builtin .append,args:=#[.tmp 32,.tmp 44],argTypes:=#[84,84]},84,"inst.go:106",#[⟨0,.data⟩,⟨12,.data⟩],none⟩
@[go_sem] abbrev eW:Oper:=⟨none,.store 84 (.tmp 4) (.tmp 45),0,"inst.go:106",#[⟨13,.data⟩,⟨13,.chain⟩,⟨0,.phase⟩,⟨1,.phase⟩,⟨2,.phase⟩,⟨3,.phase⟩,⟨4,.phase⟩,⟨5,.phase⟩,⟨6,.phase⟩,⟨7,.phase⟩,⟨8,.phase⟩,⟨9,.phase⟩,⟨10,.phase⟩,⟨11,.phase⟩,⟨12,.phase⟩,⟨13,.phase⟩],none⟩
theorem vp{ad:Option Addr}{c:Nat}(w:World):Calls prog 62 #[.slice ad L c,.int .i64 8] w λe w'=>e=.returned (.func (.func 115) #[] #[.pointer (some ⟨w.heap.size,0,none⟩),.pointer (some ⟨w.heap.size+1,0,none⟩)])/\w'=(w.alloc (.cells #[.slice ad L c] 42)).alloc (.cells #[.int .i64 8] 3):=by
 have A:∀(fn:Fn) (first cap:Array Value) (w:World),(Instr.makeFunc fn first cap).run prog w=.ok (.func fn first cap) w:=λ_ _ _ _=>rfl
 go_enter func62,ntmps62;go_wp2_with fail;go_ret;exact⟨rfl,rfl⟩
theorem J2{n:Nat}(h:j<n):(List.range n).take (j+1)=(List.range n).take j++[j]:=by
 rw[afb,aoa h];rfl
theorem vk(n:Nat):(List.range n).take n=List.range n:=abd (by rw[afc];exact aR _)
theorem vh(n:Nat)(hn:1<=n)(w:World){Bs Bn M c:Nat}(hL:L=M*8)(hs:Z7 w Bs 42 #[.slice (some ⟨g,off,none⟩) L c])(hb:Z7 w Bn 3 #[.int .i64 8])(hc:L<=c)(hM:M<=100000):
 QS Fence.wide n prog 115 #[.pointer (some ⟨Bs,0,none⟩),.pointer (some ⟨Bn,0,none⟩)] (λx:Nat=>#[.slice (some ⟨g,off+x*8,none⟩) 8 8]) (λ_ _=>False) (λ_ r=>r=Bs\/r=Bn) 0 (λxs=>xs=List.range M) (λpre=>pre <+: List.range M) w:=λl J Jx W hW hJ hJx hY h0=>by
 have HS:=aT (hs.below hW hs.lt);have HB:=aT (hb.below hW hb.lt);have HY:=aT hY;have H0:=aT h0;have HL:=aT hL;clear hs hb hY h0 hL;refine aAa func115 rfl trivial ?_ rfl;simp only[ntmps115,aib,aj,acg,Nat.reduceAdd,Nat.reduceSub,ald,ale,anf,amc,age,ahc]
 gi_wp2
 gi_loopw [4] (λi wr=>∃j:Nat,j<=M/\(∃z:Nat,i=.int .i64 (z:Int)/\z=j*8)/\Hid (J ((List.range M).take j) wr)/\Hid (Z7 wr Bs 42 #[.slice (some ⟨g,off,none⟩) L c])/\Hid (Z7 wr Bn 3 #[.int .i64 8])/\W.heap.size<=wr.heap.size) (λi _=>M*8-(intOf i).toNat)
 case atStart=>exact⟨0,jO,⟨0,rfl,rfl⟩,H0,HS,HB,aR _⟩
 case round=>
  obtain⟨j,hj,⟨z,rfl,hz⟩,HJ,D,I,hsz⟩:=hrel;clear HS HB H0;have k1:=D.e0;have k2:=I.e0;by_cases Y:j<M
  ·have U:=HL.out;have Y8:(z:Int)<(L:Int):=jO;have hzL:z+8<=L:=jO;have hzb:z<=800000:=jO;have hz0:=jZ z;have w1:IntKind.i64.wrap ((z:Int)+8)=(z:Int)+8:=aJ _ jO;have hzn:¬z=c:=jO;have hJd:J ((List.range M).take j) wr.drew:=hJ _ wr wr.drew none HJ ⟨rfl,rfl,rfl,aR _,λ_ _ _=>rfl⟩ (λr e=>by cases e);obtain⟨fn,tmps,assign,body,hy,hR⟩:=HY _ j wr.drew hJd (by rw[<-J2 Y];exact List.take_prefix _ _) hsz;rw[<-J2 Y] at hR;rw[<-hz] at hy;have HR:=aT hR;have HZ:=aT hz;clear hR U hz;have zi:(8:Int)<=(L:Int)-(z:Int):=jO;have aJ9:z<=L:=jO;have aK0:((L-z:Nat):Int)=(L:Int)-(z:Int):=jO;have mq0:min (8:Int) ((L:Int)-(z:Int))=8:=jO
   gi_wp2_with fail
   try rw[mq0]
   have k1d:wr.drew.cell? ⟨Bs,0,none⟩=some (.slice (some ⟨g,off,none⟩) L c):=k1;have k2d:wr.drew.cell? ⟨Bn,0,none⟩=some (.int .i64 8):=k2;have C:Hid (Z7 wr.drew Bs 42 #[.slice (some ⟨g,off,none⟩) L c]):=D;have T:Hid (Z7 wr.drew Bn 3 #[.int .i64 8]):=I;have Z:W.heap.size<=wr.drew.heap.size:=hsz
   gi_region
   generalize wr.drew=wd at*;clear hJd k1 k2 D I HJ;have w2:IntKind.i64.wrap ((z:Int)+8)=(z:Int)+8:=aJ _ jO;have z8:(((z:Int)+8).toNat)=z+8:=jO;have hz8:(0:Int)<=(z:Int)+8:=jO;have hzc:z+8<=c:=jO;have aK1:(z:Int)+8<=(c:Int):=jO;have hzs:z+8-z=8:=jO
   try rw[mq0]
   gi_wp2_with fail
   refine HR.mono ?_;rintro e W3 ⟨hK,(⟨rfl,hJ3⟩|⟨rfl,A⟩)⟩
   ·have HJ3:=aT hJ3;have xi:Hid (Z7 W3 Bs 42 #[.slice (some ⟨g,off,none⟩) L c]):=(hK.2 _ (Z7.lt C) (.inl rfl)).trans C;have KO:Hid (Z7 W3 Bn 3 #[.int .i64 8]):=(hK.2 _ (Z7.lt T) (.inr rfl)).trans T;have jr:=aO Z hK.1;have y2:=KO.e0;clear hJ3 hK C T k1d k2d
    gi_wp2
    go_roundw
    case rel=>exact⟨j+1,jO,⟨z+8,by go_num,by have:=HZ.out;omega⟩,HJ3,xi,KO,jr⟩
    case measure=>
     have:=HZ.out;simp[intOf];omega
   ·have HX:=aT A;clear A
    gi_wp2
    refine aag (aog rfl _ _ _) rfl ?_;exact⟨⟨_,rfl⟩,.inr ⟨_,List.take_prefix _ _,HX⟩⟩
  ·obtain rfl:j=M:=by omega
   have U:=HL.out;have Y8:¬(z:Int)<(L:Int):=jO;clear U
   gi_wp2
   go_end0;have:=HJ.out;rw[vk] at this;exact⟨⟨_,rfl⟩,.inl this⟩
theorem AA {l:List ZN}{x:Nat}{i:ZN}(h:YQ N W (some ⟨g,off,none⟩) (YR l))(hx:l[x]? =some i):YQ N W (some ⟨g,off+x*8,none⟩) i.bytes:=λj b hb=>by
 have C:j<8:=(au.1 hb).1;obtain⟨g',A,e,hl,hc⟩:=h (x*8+j) b ((MA l x i hx j C).trans hb);cases e;exact⟨g,off+x*8,rfl,hl,by rw[amd];exact hc⟩
theorem jq{i:ZN}(h:i.fit):TP i.bytes (Yq 0 2)=i.code:=by
 rw[aa6];have:=aq ZN.code (NZ h);exact this
theorem az2{i:ZN}(h:i.fit):TP i.bytes (Yq 4 4)=i.k:=by
 rw[qg];have:=aq ZN.k (NZ h);exact this
theorem VR {B e size n:Nat}{v u:Value}{xs:List Value}(h:W.ownsRow B e size v n xs)(J:v.ownBlock≠some g):(W.setCell ⟨g,j,none⟩ u).ownsRow B e size v n xs:=by
 refine⟨h.1,?_⟩;rcases h.2 with D|⟨A,cap,C,I,D,U,T⟩;·exact .inl D
 ·refine .inr ⟨A,cap,C,I,D,(aef W ⟨g,j,none⟩ u A (show A≠g from λe2=> ?_)).trans U,T⟩;subst e2;rw[I] at J;exact J rfl
def yl(B4 h:Nat)(l:List ZN)(w0:World)(pre:List Nat)(W:World):Prop:=∃v,Z7 W B4 84 #[v]/\W.ownsRow (h+2) XG 4 v pre.length ((l.take pre.length).flatMap NY)/\Below w0.heap.size w0 W
theorem F6{B4 h:Nat}{l:List ZN}{w0:World}(Y:B4≠h+1)(U:w0.heap.size<=h+1):YP (λr=>r=h+1\/False) (yl B4 h l w0):=λZ A B row ⟨v,hb,ho,D⟩ I hr=>by
 have C:∀k,row=some k->k=h+1:=λk e=>(hr k e).elim id (λe=>e.elim)
 refine⟨v,hb.kept I (λe=>Y (C _ e.symm)),ho.kept I ?_,D.grown I D.size (λk e=>by rw[C k e];exact U)⟩;rcases ho.2 with⟨rfl,_⟩|⟨k,cap,T,rfl,J,hk,_⟩;·exact .inl rfl
 ·refine .inr (λe=> ?_);have e2:some k=row:=e;have:=C k e2.symm;omega
theorem qb{n c:Nat}{l:List ZN}(hn:l.length=n)(hL:L=n*8)(DX:1<=n)(Xl:n<=4096)(vg:∀x∈l,x.fit)(hc:L<=c)(w:World)(hm:YQ N w (some ⟨g,off,none⟩) (YR l))(hN:N<=w.heap.size):
 Calls prog 29 #[.slice (some ⟨g,off,none⟩) L c] w λe w'=>∃v,e=.returned (.tuple #[v,.int .i64 0])/\w'.ownsRow w.heap.size XG 4 v n (l.flatMap NY)/\Below w.heap.size w w':=by
 have HLN:=aT hn;have HL:=aT hL;have HM:=aT hm;have HF:=aT vg;have hb1:¬(32768:Int)<(L:Int):=jO;have hb2:(L:Int)%8=0:=jO;have hb3:(L:Int).tmod 8=0:=by rw[Int.tmod_eq_emod_of_nonneg jO];omega
 have Uy:=aT ((aH w.heap.size w).alloc (aR _) (.cells #[.slice none 0 0] 84));have HD1:=aT (Z7.new w 84 #[.slice none 0 0]);clear hn hL hm vg;refine(aja (n:=8)).1 ?_;refine ayd func29 rfl trivial ?_ rfl;simp only[ntmps29,aib,aj,acg,Nat.reduceAdd,Nat.reduceSub,ald,ale,anf,amc,age,ahc]
 gi_upto_region 6 with fail
 generalize w.alloc (.cells #[.slice none 0 0] 84)=w1 at*;have az3:w.heap.size<w1.heap.size:=HD1.lt
 gi_wp2_with fail
 refine⟨trivial,?_⟩;refine(aja.2 (vp (ad:=some ⟨g,off,none⟩) (L:=L) (c:=c) w1)).mono ?_;rintro e U ⟨rfl,hw2⟩;have TZ:Hid (Z7 U w1.heap.size 42 #[.slice (some ⟨g,off,none⟩) L c]):=by rw[hw2];exact(Z7.new w1 _ _).alloc _
 have nj:Hid (Z7 U (w1.heap.size+1) 3 #[.int .i64 8]):=by rw[hw2];have:=Z7.new (w1.alloc (.cells #[.slice (some ⟨g,off,none⟩) L c] 42)) 3 #[.int .i64 8];rwa [ah] at this
 have hbz:Below w1.heap.size w1 U:=by rw[hw2];exact((aH _ w1).alloc (aR _) _).alloc jS _
 have XA:=aT (Uy.trans (hbz.mono Uy.size));have kX:=aT (HD1.below hbz HD1.lt);have RQ:w1.heap.size+1<U.heap.size:=nj.lt;clear hw2 hbz Uy HD1;generalize w1.heap.size=B2 at*
 gi_wp2_with fail
 refine Xj rfl jD (gf:=115) (lb:=#[.pointer (some ⟨B2,0,none⟩),.pointer (some ⟨B2+1,0,none⟩)]) rfl trivial (enters_of func115 jK rfl)
  (vh 7 jO U HL TZ nj hc jO) (λr h=>h.elim) (λr h=>jO) (aH _ _) (λ_=>rfl)
  (yl w.heap.size U.heap.size l w)
  (λ_ _ _=>False)
  (F6 jO jO)
  (λc _ _ _ _ h _ _=>h)
  ⟨_,kX,Yg _ _ _ _,XA⟩
  (λx a' W=>a'={tmps:=#[.slice (some ⟨g,off,none⟩) L c,undef,.slice none 0 0,.int .i64 0,.pointer (some ⟨w.heap.size,0,none⟩),.slice (some ⟨g,off+x*8,none⟩) 8 8,undef,undef,undef,undef,.bool false,.slice (some ⟨g,off,none⟩) L c,.int .i64 L,.bool false,.bool false,.slice (some ⟨g,off,none⟩) L c,.int .i64 L,.int .i64 0,.bool false,.slice (some ⟨g,off,none⟩) L c,.func (.func 115) #[] #[.pointer (some ⟨B2,0,none⟩),.pointer (some ⟨B2+1,0,none⟩)],.slice (some ⟨g,off+x*8,none⟩) 8 8,undef,undef,undef,undef,undef,undef,undef,undef,undef,undef,undef,undef,undef,undef,undef,undef,undef,undef,undef,undef,undef,undef,undef,undef,undef],defers:=[]})
  (λ_ _ _ _ _ _ h _ _=>h)
  ?assign ?body ?done ?stop
 case assign=>
  rintro l' A x W K hI hsp hsz I
  gi_wp2
  exact I _ _ (ZT.refl _ _) hI rfl
 case body=>
  rintro l' A x a' W hsz hsp hI rfl;have hx:=Dm hsp;obtain rfl:x=A.length:=by obtain⟨hlt,e⟩:=au.1 hx;rw[List.getElem_range] at e;exact e.symm
  have qR:A.length<n:=by have:=(au.1 hx).1;rwa [afc] at this
  obtain⟨v,hblk,Z,Ku⟩:=hI;obtain⟨i,hi⟩:∃i,l[A.length]? =some i:=⟨_,aM (by rw[HLN.out];exact qR)⟩;have hfi:=HF i (af hi);have vy:(l.take (A++[A.length]).length).flatMap NY=(l.take A.length).flatMap NY++NY i:=by rw[ay,aoe,afb,hi,acb];simp
  have td:=aT vy;have hle:(A++[A.length]).length=A.length+1:=by rw[ay,aoe]
  have HLE:=aT hle;clear vy hle;have HPB:Hid (∀W',Below w.heap.size w W'->YQ N W' (some ⟨g,off+A.length*8,none⟩) i.bytes):=λW' Y=>AA (HM.below Y hN) hi
  have qa:∀b∈i.bytes,b<256:=by
   obtain⟨h1,h2,h3,h4⟩:=hfi;intro b hb;unfold ZN.bytes at hb;simp only[abf,ajf,atg] at hb;rcases hb with rfl|rfl|rfl|rfl|rfl|rfl|rfl|rfl
   all_goals first|assumption|exact awa _ jD
  have HC:Hid (∀W',Below w.heap.size w W'->Calls prog 63 #[.slice (some ⟨g,off+A.length*8,none⟩) 8 8,.int .i64 0,.int .i64 2,.bool false] W' λe w'=>e=.returned (.tuple #[.int .u64 i.code,.int .i64 0])/\Below W'.heap.size W' w'):=λW' Y=>by have:=F9 (L:=8) (c:=8) (at_:=0) (k:=2) (.inl rfl) rfl jO jO qa W' (HPB W' Y) (aO hN Y.size);rw[jq hfi] at this;exact this
  have lf:Hid (∀W',Below w.heap.size w W'->Calls prog 63 #[.slice (some ⟨g,off+A.length*8,none⟩) 8 8,.int .i64 4,.int .i64 4,.bool false] W' λe w'=>e=.returned (.tuple #[.int .u64 i.k,.int .i64 0])/\Below W'.heap.size W' w'):=λW' Y=>by have:=F9 (L:=8) (c:=8) (at_:=4) (k:=4) (.inr rfl) rfl jO jO qa W' (HPB W' Y) (aO hN Y.size);rw[az2 hfi] at this;exact this
  have p9:Hid (∀W',Below w.heap.size w W'->W'.cell? ⟨g,off+A.length*8+2,none⟩=some (.int .u8 i.jt)/\W'.cell? ⟨g,off+A.length*8+3,none⟩=some (.int .u8 i.jf)):=λW' Y=>by obtain⟨g1,o1,e1,_,h1⟩:=HPB W' Y 2 i.jt rfl;obtain⟨g2,o2,e2,_,h2⟩:=HPB W' Y 3 i.jf rfl;cases e1;cases e2;exact⟨h1,h2⟩
  have hpc:A.length<=4096:=jO;obtain⟨i0,XX,hz0,hz1,hz2⟩:=ZP OZ;obtain⟨hf0,vM,hf2,hf3⟩:=hfi;obtain⟨ic,T,J,ik⟩:=i;dsimp only at HC lf p9 hf0 vM hf2 hf3;have q1:IntKind.u16.wrap (ic:Int)=(ic:Int):=IntWalk.u16_in _ jO;have q2:IntKind.u32.wrap (ik:Int)=(ik:Int):=axa _ jO;have Az:=aT Ku;have aa8:=aT hblk;have al4:=aT Z;have HKP:Hid (ZT (Y3 (λ_ r=>r=B2\/r=B2+1) U.heap.size) W W):=ZT.refl _ _;clear hx hsp hblk Z Ku hi qa HPB;generalize A.length=P at*
  gi_wp2_with fail
  refine⟨trivial,?_⟩;refine(CallsIn.inRound l' (aja.2 (HC _ Az))).mono ?_;rintro e w3 ⟨rfl,hb⟩;have yj:=aT (Az.trans (hb.mono Az.size));have p8:=aT (aa8.below hb aa8.lt);have eV:=aT (ZE al4 hb);have aa9:=aT (HKP.trans (ZT.below hb));clear hb Az aa8 al4 HKP HC
  gi_wp2_with fail
  refine⟨trivial,?_⟩;refine(CallsIn.inRound l' (aja.2 (lf _ yj))).mono ?_;rintro e w4 ⟨rfl,hb⟩;have jr:U.heap.size+2<=w4.heap.size:=aO (aO hsz aa9.1) hb.size;have p5:=aT (yj.trans (hb.mono yj.size));have eU:=aT (p8.below hb p8.lt);have eT:=aT (ZE eV hb);have al5:=aT (aa9.trans (ZT.below hb));clear hb yj p8 eV aa9 lf;obtain⟨c2,c3⟩:=p9 w4 p5;have xi:Hid (w4.drew.cell? ⟨g,off+P*8+2,none⟩=some (.int .u8 T)/\w4.drew.cell? ⟨g,off+P*8+3,none⟩=some (.int .u8 J)):=⟨c2,c3⟩;clear c2 c3;have Lz:Hid (Below w.heap.size w w4.drew):=p5.drew;have HK5:Hid (Z7 w4.drew w.heap.size 84 #[v]):=eU;have HO5:Hid (w4.drew.ownsRow (U.heap.size+2) XG 4 v P ((l.take P).flatMap NY)):=eT;have Cf:Hid (ZT (Y3 (λ_ r=>r=B2\/r=B2+1) U.heap.size) W w4.drew):=al5;have aK2:U.heap.size+2<=w4.drew.heap.size:=jr
  gi_wp2_with fail
  refine F7 (S:=λw'=>w'.cell? ⟨g,off+P*8+2,none⟩=some (.int .u8 T)/\w'.cell? ⟨g,off+P*8+3,none⟩=some (.int .u8 J)) jK (by intro o ho cc;simp only[abf,ajf,atg] at ho;rcases ho with rfl|rfl|rfl|rfl|rfl|rfl|rfl|rfl|rfl|rfl|rfl|rfl|rfl|rfl|rfl<;>(intro h;cases h)) xi (λhHeld=> ?_);clear p5 eU eT al5;generalize w4.drew=wd at*;clear jr;refine jT 1 ⟨some 33,.move (.tmp 6),23,"inst.go:106",#[],none⟩ ?_;try simp only[Act.put,aS,aP,aQ]
  refine jT 2 ⟨some 34,.convert 23 137 (.tmp 33),137,"inst.go:106",#[⟨1,.data⟩],none⟩ ?_;try simp only[Act.put,aS,aP,aQ]
  refine jT 3 ⟨some 35,.move (.tmp 5),42,"inst.go:106",#[],none⟩ ?_;try simp only[Act.put,aS,aP,aQ]
  refine jT 4 ⟨some 36,.indexAddr 42 (.tmp 35) (.const (.int .i64 2)),0,"inst.go:106",#[⟨3,.data⟩],none⟩ ?_;try simp only[Act.put,aS,aP,aQ]
  refine jT 5 ⟨some 37,.load 5 (.tmp 36),5,"inst.go:106",#[⟨4,.data⟩],none⟩ ?_;try simp only[Act.put,aS,aP,aQ]
  refine jT 6 ⟨some 38,.move (.tmp 5),42,"inst.go:106",#[],none⟩ ?_;try simp only[Act.put,aS,aP,aQ]
  refine jT 7 ⟨some 39,.indexAddr 42 (.tmp 38) (.const (.int .i64 3)),0,"inst.go:106",#[⟨6,.data⟩],none⟩ ?_;try simp only[Act.put,aS,aP,aQ]
  refine jT 8 ⟨some 40,.load 5 (.tmp 39),5,"inst.go:106",#[⟨7,.data⟩],none⟩ ?_;try simp only[Act.put,aS,aP,aQ]
  refine jT 9 ⟨some 41,.move (.tmp 8),23,"inst.go:106",#[],none⟩ ?_;try simp only[Act.put,aS,aP,aQ]
  refine jT 10 ⟨some 42,.convert 23 53 (.tmp 41),53,"inst.go:106",#[⟨9,.data⟩],none⟩ ?_;try simp only[Act.put,aS,aP,aQ]
  refine jT 11 ⟨some 43,.build 166 #[(0,.tmp 34),(1,.tmp 37),(2,.tmp 40),(3,.tmp 42)],166,"inst.go:106",#[⟨2,.data⟩,⟨5,.data⟩,⟨8,.data⟩,⟨10,.data⟩],none⟩ ?_;try simp only[Act.put,aS,aP,aQ]
  have HLT:=aT (Z7.new wd XG #[.int .u16 ic,.int .u8 T,.int .u8 J,.int .u32 ik]);have Ee:=aT (Lz.alloc Lz.size (.cells #[.int .u16 ic,.int .u8 T,.int .u8 J,.int .u32 ik] XG));have Ce:=aT (HK5.alloc (.cells #[.int .u16 ic,.int .u8 T,.int .u8 J,.int .u32 ik] XG));have Ay:=aT (ZE HO5 ((aH wd.heap.size wd).alloc (aR _) (.cells #[.int .u16 ic,.int .u8 T,.int .u8 J,.int .u32 ik] XG)));have HPA:=aT (Cf.trans (ZT.alloc wd (.cells #[.int .u16 ic,.int .u8 T,.int .u8 J,.int .u32 ik] XG)));have mD:U.heap.size+2<=(wd.alloc (.cells #[.int .u16 ic,.int .u8 T,.int .u8 J,.int .u32 ik] XG)).heap.size:=by rw[ah];omega
  have Jt:Hid ((wd.alloc (.cells #[.int .u16 ic,.int .u8 T,.int .u8 J,.int .u32 ik] XG)).cell? ⟨g,off+P*8+2,none⟩=some (.int .u8 T)/\(wd.alloc (.cells #[.int .u16 ic,.int .u8 T,.int .u8 J,.int .u32 ik] XG)).cell? ⟨g,off+P*8+3,none⟩=some (.int .u8 J)):=p9 _ Ee;have k4:=HK5.cell 0;have k5:=Ce.cell 0;have f5:=Ce.frozen 0;simp only[ak,aL] at k4 k5;refine aaf (rs:=[0,12]) jK jS ?_;refine ag (o:=eZ) rfl (λK' I=> ?az4) (ag (o:=eY) rfl (λK' I=> ?az5) aab)
  case az4=>
   go_simp;refine I _ _ hHeld (λhHeld=> ?_);clear I K';try simp only[Act.put,aS,aP,aQ]
   refine aaf (rs:=[12]) jK jS ?_;refine ag (o:=eY) rfl (λK' I=> ?_) aab;go_simp;clear hHeld;refine I _ _ Jt (λhHeld=> ?_);clear I K';try simp only[Act.put,aS,aP,aQ]
   refine aaf (rs:=[13]) jK jS ?_;refine ag (o:=eX) rfl (λK' I=> ?_) aab;refine Ys _ _ _ 84 jR (U.heap.size+2) XG i0 (.agg #[.int .u16 0,.int .u8 0,.int .u8 0,.int .u32 0]) 4 8 underlying84 XX hz0 hz1 hz2 rfl jD v P _ jR Ay ⟨wd.heap.size,0,none⟩ 1 1 [.int .u16 ic,.int .u8 T,.int .u8 J,.int .u32 ik] jR rfl (Y1 rfl) (by simp[Value.oneCell']) (by unfold maxLen;omega) jO mD ?_;intro v' w7 D C;have Ju:∀k,v.ownBlock=some k->w.heap.size<=k/\k≠w.heap.size/\U.heap.size+2<=k:=λk e=>by have:=(Ay.lt k e).1;omega
   have Ov:=aT (Ee.grown C Ee.size (λk e=>(Ju k e).1));have HK7:=aT (Ce.kept C (λe=>(Ju _ e.symm).2.1 rfl));have LN:=aT (p9 _ Ov);have hnk:∀k,v.ownBlock=some k->¬Y3 (λ_ r=>r=B2\/r=B2+1) U.heap.size k:=λk e hk=>by have:=Ju k e;unfold Y3 at hk;omega
   have HP7:=aT (HPA.trans (ZT.grown C hnk));obtain⟨g7,q7,rfl,_,_⟩:=World.ownsRow.form D jO;have LM:=aT D;have k7:=HK7.cell 0;have f7:=HK7.frozen 0;simp only[ak,aL] at k7;clear C D hnk Ju;clear hHeld;refine I _ _ LN (λhHeld=> ?_);clear I K';try simp only[Act.put,aS,aP,aQ]
   refine aaf (rs:=[14]) jK jS ?_;refine ag (o:=eW) rfl (λK' I=> ?_) aab;have pZ:Hid (Below w.heap.size w (w7.setCell ⟨w.heap.size,0,none⟩ (.slice (some ⟨g7,0,none⟩) (P+1) q7))):=Ov.setCell (p:=⟨w.heap.size,0,none⟩) (aR _) (.slice (some ⟨g7,0,none⟩) (P+1) q7);have pY:=aT (p9 _ pZ);have Vm:Hid (ZT (Y3 (λ_ r=>r=B2\/r=B2+1) U.heap.size) W (w7.setCell ⟨w.heap.size,0,none⟩ (.slice (some ⟨g7,0,none⟩) (P+1) q7))/\yl w.heap.size U.heap.size l w (A++[P]) (w7.setCell ⟨w.heap.size,0,none⟩ (.slice (some ⟨g7,0,none⟩) (P+1) q7))):=by refine⟨HP7.trans (ZT.setCell _ _ _ (λhk=>by unfold Y3 at hk;simp only at hk;omega)),(.slice (some ⟨g7,0,none⟩) (P+1) q7),HK7.set 0 (.slice (some ⟨g7,0,none⟩) (P+1) q7),?_,pZ⟩;rw[td.out,HLE.out];exact VR LM (λe=>by have:=(LM.lt _ e).1;omega)
   go_simp;clear hHeld;refine I _ _ pY (λhHeld=> ?_);clear I K';refine ama jK ?_ _;clear k4 k5 f5 k7 f7
   gi_wp2
   exact Vm
  case az5=>
   go_simp;clear hHeld;refine I _ _ Jt (λhHeld=> ?_);clear I K';try simp only[Act.put,aS,aP,aQ]
   refine aaf (rs:=[0]) jK jS ?_;refine ag (o:=eZ) rfl (λK' I=> ?_) aab;go_simp;refine I _ _ hHeld (λhHeld=> ?_);clear I K';try simp only[Act.put,aS,aP,aQ]
   refine aaf (rs:=[13]) jK jS ?_;refine ag (o:=eX) rfl (λK' I=> ?_) aab;refine Ys _ _ _ 84 jR (U.heap.size+2) XG i0 (.agg #[.int .u16 0,.int .u8 0,.int .u8 0,.int .u32 0]) 4 8 underlying84 XX hz0 hz1 hz2 rfl jD v P _ jR Ay ⟨wd.heap.size,0,none⟩ 1 1 [.int .u16 ic,.int .u8 T,.int .u8 J,.int .u32 ik] jR rfl (Y1 rfl) (by simp[Value.oneCell']) (by unfold maxLen;omega) jO mD ?_;intro v' w7 D C;have Ju:∀k,v.ownBlock=some k->w.heap.size<=k/\k≠w.heap.size/\U.heap.size+2<=k:=λk e=>by have:=(Ay.lt k e).1;omega
   have Ov:=aT (Ee.grown C Ee.size (λk e=>(Ju k e).1));have HK7:=aT (Ce.kept C (λe=>(Ju _ e.symm).2.1 rfl));have LN:=aT (p9 _ Ov);have hnk:∀k,v.ownBlock=some k->¬Y3 (λ_ r=>r=B2\/r=B2+1) U.heap.size k:=λk e hk=>by have:=Ju k e;unfold Y3 at hk;omega
   have HP7:=aT (HPA.trans (ZT.grown C hnk));obtain⟨g7,q7,rfl,_,_⟩:=World.ownsRow.form D jO;have LM:=aT D;have k7:=HK7.cell 0;have f7:=HK7.frozen 0;simp only[ak,aL] at k7;clear C D hnk Ju;clear hHeld;refine I _ _ LN (λhHeld=> ?_);clear I K';try simp only[Act.put,aS,aP,aQ]
   refine aaf (rs:=[14]) jK jS ?_;refine ag (o:=eW) rfl (λK' I=> ?_) aab;have pZ:Hid (Below w.heap.size w (w7.setCell ⟨w.heap.size,0,none⟩ (.slice (some ⟨g7,0,none⟩) (P+1) q7))):=Ov.setCell (p:=⟨w.heap.size,0,none⟩) (aR _) (.slice (some ⟨g7,0,none⟩) (P+1) q7);have pY:=aT (p9 _ pZ);have Vm:Hid (ZT (Y3 (λ_ r=>r=B2\/r=B2+1) U.heap.size) W (w7.setCell ⟨w.heap.size,0,none⟩ (.slice (some ⟨g7,0,none⟩) (P+1) q7))/\yl w.heap.size U.heap.size l w (A++[P]) (w7.setCell ⟨w.heap.size,0,none⟩ (.slice (some ⟨g7,0,none⟩) (P+1) q7))):=by refine⟨HP7.trans (ZT.setCell _ _ _ (λhk=>by unfold Y3 at hk;simp only at hk;omega)),(.slice (some ⟨g7,0,none⟩) (P+1) q7),HK7.set 0 (.slice (some ⟨g7,0,none⟩) (P+1) q7),?_,pZ⟩;rw[td.out,HLE.out];exact VR LM (λe=>by have:=(LM.lt _ e).1;omega)
   go_simp;clear hHeld;refine I _ _ pY (λhHeld=> ?_);clear I K';refine ama jK ?_ _;clear k4 k5 f5 k7 f7
   gi_wp2
   exact Vm
 case done=>
  rintro xs W rfl ⟨v,hblk,Z,Ku⟩ I;have k0:=hblk.e0;rw[afc,abd (by rw[HLN.out];exact aR _)] at Z
  gi_wp2
  refine⟨jS,.inl ⟨_,_,rfl,ayb I,?_⟩⟩;refine⟨.tuple #[v,.int .i64 0],?_,v,rfl,?_,Ku.trans (belowK_b (w:=w) (aR _) _ U.heap.size _ (.deferred none) jO I rfl rfl)⟩;·simp[results,Tryz.f29,go_sem]
  ·have:=Zd Z (show w.heap.size<=U.heap.size+2 from jO);refine⟨this.1,?_⟩;rcases this.2 with h2|⟨k,cap,cur,h1,h2,h3,h4⟩;·exact .inl h2
   ·refine .inr ⟨k,cap,cur,h1,h2,?_,h4⟩;show(W.heap.setIfInBounds U.heap.size _)[k]? =_;rw[aid (by have:=Z.lt k (by rw[h1];rfl);omega)];exact h3
 case stop=>
  rintro c A W hS h I;exact h.elim
end Go.Proofs.YtclgigmgbebhgaaGreatDoor
namespace Go.Proofs.YtclgigmgbebhgaaGreatDoor
open Tryz
open Go Go.Proofs Go.RowKit Go.Maps Go.WideMaps Go.ChangeMaps Go.Sort Go.Shelf
variable {cur:Array Value} {ss:List Nat} {base Bm nn g:Nat} {W w:World}
attribute [local go_sem] atd
theorem eR(W:World)(o:Obj):Below W.heap.size W (W.alloc o):=(aH _ W).alloc (aR _) _
theorem J1 {e s n:Nat}{v:Value}{xs:List Value}(h:W.ownsRow base e s v n xs):∃a c,v=.slice a n c:=by
 rcases h.2 with⟨rfl,C⟩|⟨g,cap,A,rfl,_⟩;·exact⟨none,0,by rw[C]⟩
 ·exact⟨_,_,rfl⟩
theorem vd(l:List Nat):VI l=l.map ZK:=(List.map_eq_flatMap).symm
theorem u6q(A:Option Nat)(W:World):Calls prog 57 #[.map A] W λe w'=>e=.returned (.func (.func 108) #[] #[.pointer (some ⟨W.heap.size,0,none⟩)])/\w'=W.alloc (.cells #[.map A] 133):=by
 have C:∀(fn:Fn) (first cap:Array Value) (w:World),(Instr.makeFunc fn first cap).run prog w=.ok (.func fn first cap) w:=λ_ _ _ _=>rfl
 go_enter func57,ntmps57;go_wp2_with fail;go_ret;exact⟨rfl,rfl⟩
theorem pX{x y:Nat}(h:ZK x=ZK y):x=y:=by
 unfold ZK at h;injection h with _ h;omega
theorem Hs{key:Value}{kl:Lit}(h:keyOf prog 53 key=some kl):∃n:Nat,key=ZK n/\kl=.int .u32 (n:Int):=by
 have hk:=underlying53;cases key<;>simp[keyOf,hk,mapKey] at h
 rename_i q a;obtain⟨⟨rfl,hw⟩,rfl⟩:=h;have C:0<=a:=by have A:(decide (IntKind.u32.min<=a)&&decide (a<=IntKind.u32.max))=true:=hw;rw[agc,aed] at A;exact A.1
 obtain⟨n,rfl⟩:∃n:Nat,a=(n:Int):=⟨a.toNat,jO⟩;exact⟨n,rfl,rfl⟩
def Sv(D:DataW Unit)(left:Lit->Bool)(ss:List Nat):Prop:=ss.Nodup/\∀x:Nat,x∈ss↔(Maps.has D (.int .u32 x)=true/\left (.int .u32 x)=false)
theorem Sv.start(D:DataW Unit):Sv D (Maps.has D) []:=⟨List.nodup_nil,λx=>by cases Maps.has D (.int .u32 x)<;>simp⟩
theorem Sv.step{D:DataW Unit}{left:Lit->Bool} (h:Sv D left ss){x:Nat}(A:Maps.has D (.int .u32 x)=true)(I:left (.int .u32 x)=true):Sv D (λz=>left z && !z.sameKey (.int .u32 x)) (ss++[x]):=by
 have C:x∉ss:=λhx=>by have J:=((h.2 x).1 hx).2;rw[I] at J;cases J
 refine⟨aub.2 ⟨h.1,jS,λa ha b hb e=>C (by rw[<-aac.1 hb,<-e];exact ha)⟩,λy=> ?_⟩;rw[abe,h.2 y,aac];by_cases hy:y=x;·subst hy;simp[A,Lit.sameKey]
 ·have:¬(y:Int)=(x:Int):=by omega
  simp[hy,Lit.sameKey,this]
theorem Sv.perm{D:List (Lit×DataW Unit)}{b:List (Nat×Nat)}{left:Lit->Bool} (h:Sv (.map D) left ss)(hl:∀I,left I=false)(A:D.Perm ((QM b).map λp=>((keyOf prog 53 p.1).getD (.bool false),.lit (.bool true))))(hk:b.Pairwise (λp q=>p.1≠q.1))(hb:∀p∈b,p.1<4294967296/\p.2≠0):ss.Perm (b.map (·.1)):=by
 refine(List.perm_ext_iff_of_nodup h.1 (aeg.2 hk)).2 λx=> ?_
 rw[h.2 x,hl];have e:∀p∈b,((keyOf prog 53 (.int .u32 p.1)).getD (.bool false))=.int .u32 (p.1:Int):=λp hp=>by
  rw[keyOf_int_mk underlying53 (by have:=(hb p hp).1;show(decide (IntKind.u32.min<=(p.1:Int))&&decide ((p.1:Int)<=IntKind.u32.max))=true;rw[agc,aed,aed];show(0:Int)<=(p.1:Int)/\(p.1:Int)<=4294967295;omega)]
  rfl
 rw[Maps.has_eq,alg,ai];constructor
 ·rintro⟨⟨q,C,hs⟩,_⟩;obtain⟨v,hv,rfl⟩:=ai.1 (A.mem_iff.1 C);obtain⟨p,hp,rfl⟩:=ai.1 hv;rw[show(QM b).map _=_ from rfl] at*;dsimp only at hs;rw[e p hp] at hs;refine⟨p,hp,?_⟩;have:(p.1:Int)=(x:Int):=by simpa [Lit.sameKey] using hs
  omega
 ·rintro⟨p,hp,rfl⟩;refine⟨⟨_,A.mem_iff.2 (ai.2 ⟨(.int .u32 p.1,.int .i64 p.2),ai.2 ⟨p,hp,rfl⟩,rfl⟩),?_⟩,rfl⟩;dsimp only;rw[e p hp];simp[Lit.sameKey]
theorem u5q(n:Nat)(hn:1<=n)(Bm B nn:Nat)(D:DataW Unit)(w:World)(U:Z7 w Bm 133 #[.map (some B)])(A:w.ownsMap prog 53 Rc B nn D):
 QS Fence.wide n prog 108 #[.pointer (some ⟨Bm,0,none⟩)] (λx:Nat=>#[ZK x]) (λh r=>r=h) (λh r=>r=h\/r=B) 1 (λss=>Sv D (λ_=>false) ss) (λpre=>pre.length<=Maps.size D) w:=λl J Jx W hW hJ hJx hY h0=>by
 have hlt:=A.lt;have hm:=(U.below hW U.lt).e0;have Z:W.ownsMap prog 53 Rc B nn D:=by obtain⟨es,clock,hb,Ft,hs,hD⟩:=A;exact⟨es,clock,(hW.block B hlt).trans hb,Ft,hs,hD⟩
 have hBW:B<W.heap.size:=adf hlt hW.size;refine aAa func108 rfl trivial ?_ rfl;simp only[ntmps108,aib,aj,acg,Nat.reduceAdd,Nat.reduceSub,ald,ale,anf,amc,age,ahc];clear A U
 gi_wp2_with (first
  |(gi_at_range;refine wpListIn_range_own _ rfl _ 133 rfl 53 3 K2 underlying133 _ B nn _ rfl Z ?_;intro w0 hrg0 hg0 hs0)
  |gi_in)
 try go_frame
 gi_loopw [3] (λ_ wr=>∃(left:Lit->Bool) (cnt:Nat) (ss:List Nat),wr.ranges prog 53 Rc B W.heap.size nn D left cnt/\ss.length+cnt<=Maps.size D/\Sv D left ss/\J ss wr/\W.heap.size+1<=wr.heap.size)
  (λ_ wr=>wr.rangeLeft B W.heap.size)
 case atStart=>
  exact⟨_,_,[],hrg0,jS,Sv.start D,hJ [] W w0 none h0 hg0 (λr e=>by cases e),jO⟩
 case round=>
  obtain⟨left,cnt,ss,hrg,hcs,hC,hJs,hsz⟩:=hrel
  gi_wp2_with (first
   |(gi_at_next;refine wpListIn_next_ranges _ rfl _ rfl 53 K2 Rc ZK id (λkey kl hk=>by obtain⟨x,hx,_⟩:=Hs hk;exact⟨x,hx⟩) (λv _ _=>⟨v,rfl⟩) B W.heap.size nn _ _ _ rfl hrg ?_ ?_)
   |gi_in)
  ·intro hc0 hl0
   gi_wp2
   go_end0;refine⟨⟨_,rfl⟩,.inl ⟨ss,⟨hC.1,λx=> ?_⟩,hJs⟩⟩;rw[hC.2 x,hl0]
  ·intro x c kl yd yp w2 C hkey hlk hv hat hrg2 RQ hg2 hs2 hen;obtain⟨x',ex,rfl⟩:=Hs hkey;obtain rfl:x=x':=pX ex;have hJ2:J ss w2:=hJ ss wr w2 (some W.heap.size) hJs hg2 (λr e=>by cases e;rfl);have az6:Maps.has D (.int .u32 x)=true:=Maps.has_true_of_atKey hat;obtain⟨fn,tmps,assign,body,hy,hR⟩:=hY ss x w2 hJ2 (by rw[ay,aoe];omega) (by rw[hs2];exact hsz);have Jh:W.heap.size+1<=w2.heap.size:=by rw[hs2];exact hsz
   clear hs2
   gi_wp2
   refine hR.mono ?_;rintro e W3 ⟨T,(⟨rfl,Y⟩|⟨rfl,Y⟩)⟩
   ·gi_wp2
    have I:W3.ranges prog 53 Rc B W.heap.size nn D (λz=>left z && !z.sameKey (.int .u32 x)) C:=by obtain⟨es,clock,since,seen,c0,hb,F,hs,hD,hr,rest⟩:=hrg2;exact⟨es,clock,since,seen,c0,(T.2 B jO (.inr rfl)).trans hb,F,hs,hD,(T.2 W.heap.size jO (.inl rfl)).trans hr,rest⟩
    go_roundw
    case rel=>exact⟨_,C,ss++[x],I,by rw[ay,aoe];omega,hC.step az6 hlk,Y,aO Jh T.1⟩
    case measure=>rw[I.left_eq,hrg.left_eq];exact RQ
   ·gi_wp2
    refine aag (aog rfl _ _ _) rfl ?_;exact⟨⟨_,rfl⟩,.inr ⟨_,by rw[ay,aoe];omega,Y⟩⟩
def ab0(Bs base:Nat)(w:World)(xs:List Nat)(W:World):Prop:=∃v,Z7 W Bs 100 #[v]/\W.ownsRow base 53 1 v xs.length (xs.map ZK)/\Below Bs w W
theorem Dl{Bs:Nat} {own:Nat->Prop}(hs:Bs<=w.heap.size)(h:∀r,own r->Bs<r/\r<base):YP own (ab0 Bs base w):=λs A B row ⟨v,J,I,D⟩ C hr=>by
 refine⟨v,J.kept C (λe=>by have:=h _ (hr _ e.symm);omega),I.kept C ?_,D.grown C (aO hs D.size) (λk e=>by have:=h _ (hr _ e);omega)⟩;rcases I.2 with⟨rfl,_⟩|⟨k,cap,U,rfl,T,hk,_⟩;·exact .inl rfl
 ·refine .inr (λe=> ?_);have e2:some k=row:=e;have:=h k (hr k e2.symm);omega
theorem ab1:(prog.info? 53).map (λi=>(i.zero,i.size,i.bytes))=some (some (.int .u32 0),1,4):=jK
def Mz(D:DataW Unit)(w:World):Ending->World->Prop:=λe w'=>∃(v:Value) (xs:List Nat),e=.returned v/\Sv D (λ_=>false) xs/\w'.ownsRow w.heap.size 53 1 v xs.length (xs.map ZK)/\Below w.heap.size w w'
theorem Dk{B:Nat}{D:DataW Unit}(hD:Maps.size D<=1000000)(w:World)(hBm:Z7 w Bm 133 #[.map (some B)])(Y:w.ownsMap prog 53 Rc B nn D):
 Calls prog 176 #[.slice none 0 0,.func (.func 108) #[] #[.pointer (some ⟨Bm,0,none⟩)]] w (Mz D w):=by
 have hB:=Y.lt;have Cl:Below w.heap.size w (w.alloc (.cells #[.slice none 0 0] 100)):=(aH _ w).alloc (aR _) _;have Fu:Hid (ab0 w.heap.size (w.heap.size+4) w [] (w.alloc (.cells #[.slice none 0 0] 100))):=⟨_,Z7.new w _ _,Yg _ _ _ _,Cl⟩;have HSq:=aT (u5q 7 jD Bm B nn D (w.alloc (.cells #[.slice none 0 0] 100)) (hBm.alloc _) (by obtain⟨es,clock,hb,Ft,hs,hD⟩:=Y;exact⟨es,clock,(Cl.block B hB).trans hb,Ft,hs,hD⟩))
 clear hBm Y Cl;refine(aja (n:=8)).1 ?_;refine ayd func176 rfl trivial ?_ rfl;simp only[ntmps176,aib,aj,acg,Nat.reduceAdd,Nat.reduceSub,ald,ale,anf,amc,age,ahc]
 gi_upto_region 1 with fail
 obtain⟨w1,Jg⟩:=jX (w.alloc (.cells #[.slice none 0 0] 100));rw[Jg] at Fu HSq ⊢;have hs1:w1.heap.size=w.heap.size+1:=by rw[<-Jg];simp
 clear Jg
 gi_wp2_with fail
 refine Xj rfl jD (gf:=108) (lb:=#[.pointer (some ⟨Bm,0,none⟩)]) rfl trivial (enters_of func108 jK rfl)
  HSq (λr h=>by subst h;omega) (λr h=>jO) (aH _ _) (λ_=>rfl)
  (ab0 w.heap.size (w.heap.size+4) w)
  (λ_ _ _=>False)
  (Dl (aR _) (λr h=>by rcases h with rfl|rfl<;>omega))
  (λc _ _ _ _ h _ _=>h)
  Fu
  (λx a' W=>a'={tmps:=#[.slice none 0 0,.func (.func 108) #[] #[.pointer (some ⟨Bm,0,none⟩)],.pointer (some ⟨w.heap.size,0,none⟩),undef,.slice none 0 0,ZK x,.func (.func 108) #[] #[.pointer (some ⟨Bm,0,none⟩)],ZK x,undef,undef,undef,undef,undef],defers:=[]})
  (λ_ _ _ _ _ _ h _ _=>h)
  ?assign ?body ?done ?stop
 case assign=>
  rintro l' A x W K hI hsp hsz hK
  gi_wp2
  exact hK _ _ (ZT.refl _ _) hI rfl
 case body=>
  rintro l' A x a' W hsz hsp hI rfl;obtain⟨v,hblk,I,U⟩:=hI;obtain⟨va,vc,rfl⟩:=J1 I;have hpl:A.length+1<=1000000:=by rw[ay,aoe] at hsp;omega
  obtain⟨i0,XX,hz0,hz1,hz2⟩:=ZP ab1;have HX:Hid ((A++[x]).length=A.length+1/\(A++[x]).map ZK=A.map ZK++[ZK x]):=⟨jS,jS⟩;have Z:=aT hblk;have C:=aT I;have Az:=aT U;have hws:w.heap.size<W.heap.size:=hblk.lt;obtain⟨pm,Fs⟩:=jX (A.map ZK);rw[Fs] at HX C;obtain⟨P,hP⟩:=jX A.length;rw[hP] at HX C hpl Z;clear hblk I U hsp Fs hP;have c0:=Z.e0;unfold ZK at*
  gi_wp2_with (gi_at_builtin;refine wpListIn_append_own _ rfl _ _ 100 rfl (w.heap.size+4) 53 i0 (.int .u32 0) 1 4 underlying100 XX hz0 hz1 hz2 rfl jD _ P _ rfl (ZE C (eR W (.cells #[.int .u32 x] 53))) ⟨W.heap.size,0,none⟩ 1 1 [.int .u32 x] rfl ?c1 ?c2 ?c3 ?c4 ?c5 ?c6 ?_;(case c1=>rfl);(case c2=>exact Y1 rfl);(case c3=>simp[Value.oneCell']);(case c4=>unfold maxLen;omega);(case c5=>omega);(case c6=>rw[ah];omega);intro v' w3 T hg3 hnil3;have J:=(Z.alloc (.cells #[.int .u32 x] 53)).kept hg3 (λe=>by have:=(C.lt _ e.symm).1;omega);have hc3:=J.cell 0;have hf3:=J.frozen 0;have hb3:Below w.heap.size w w3:=(Az.alloc Az.size _).grown hg3 (by rw[ah];omega) (λk e=>by have:=(C.lt k e).1;omega);have hk3:ZT (Y3 (λh r=>r=h\/r=B) w1.heap.size) W w3:=(ZT.alloc W _).trans (ZT.grown hg3 (λr e hr=>by have:=(C.lt r e).1;rcases hr with rfl|rfl|rfl|rfl<;>omega));simp only[ak,aL] at hc3;obtain⟨va3,vc3,rfl⟩:=J1 T)
  try gi_wp2
  refine⟨hk3.trans (ZT.setCell _ _ _ (λhr=>by rcases hr with e|e|e|e<;>(have e:w.heap.size=_:=e;omega))),_,J.set 0 _,?_,hb3.setCell (p:=⟨w.heap.size,0,none⟩) (aR _) _⟩;have e2:(A++[x]).map ZK=pm++[ZK x]:=HX.2;rw[HX.out.1,e2];exact VR T (λe=>by have:=(T.lt _ e).1;omega)
 case done=>
  rintro xs W hS ⟨v,hblk,I,U⟩ hK;have k0:=hblk.e0;have HS:=aT hS;clear hS
  gi_wp2
  refine⟨jS,.inl ⟨_,_,rfl,ayb hK,?_⟩⟩;refine⟨v,?_,v,xs,rfl,HS,?_,U.trans (belowK_b (w:=w) (aR _) _ w1.heap.size _ (.deferred none) jO hK rfl rfl)⟩;·simp[results,Tryz.f176,go_sem]
  ·have:=Zd I (show w.heap.size<=w.heap.size+4 from jO);refine⟨this.1,?_⟩;rcases this.2 with h2|⟨k,cap,cur,h1,h2,h3,h4⟩;·exact .inl h2
   ·refine .inr ⟨k,cap,cur,h1,h2,?_,h4⟩;show(W.heap.setIfInBounds w1.heap.size _)[k]? =_;rw[aid (by have:=I.lt k (by rw[h1];rfl);omega)];exact h3
 case stop=>
  rintro c A W hS h hK;exact h.elim
theorem F5{B:Nat}{D:DataW Unit}(U:Maps.size D<=1000000)(w:World)(I:Z7 w Bm 133 #[.map (some B)])(C:w.ownsMap prog 53 Rc B nn D):
 Calls prog 106 #[.func (.func 108) #[] #[.pointer (some ⟨Bm,0,none⟩)]] w (Mz D w):=by
 have J:=aT (Dk U w I C);clear I C;go_enter func106,ntmps106;go_wp2_with fail;refine J.mono ?_;rintro e Y ⟨v,xs,rfl,hS,A,hb⟩;have T:=aT (And.intro hS (And.intro A hb));clear hS A hb J;go_wp2_with fail;go_ret;exact⟨v,xs,rfl,T⟩
theorem ab2 {e:TypeId} (hb:w.heap[g]? =some (.cells cur e (0,0)))(ht:cur.toList.take ss.length=ss.map ZK):Sort.Holds ZK w g 0 ss.toArray:=by
 intro j D;have A:j<ss.length:=by simpa using D
 refine⟨?_,by simp[World.frozen?,hb]⟩;have C:(cur.toList.take ss.length)[j]? =(ss.map ZK)[j]? :=by rw[ht]
 rw[List.getElem?_take_of_lt A] at C;simp only[World.cell?,hb,aca];simp only[Option.isSome_none,Bool.false_eq_true,if_false];rw[<-aff,C];simp[A]
theorem al6 {n:Nat}{os:Array Obj} {e:TypeId}(d:Array Nat)(hb:w.heap[g]? =some (.cells cur e (0,0))):(Sort.grow (Sort.putRow ZK (Sort.ahead w n) g 0 d) os).heap[g]? =some (.cells (Sort.putCells ZK 0 d cur) e (0,0)):=by
 have A:g<w.heap.size:=(aaa.1 hb).1;rw[Sort.heap_grow_old _ _ (by simpa using A)];simp[Sort.putRow,Sort.mapBlock,Sort.ahead,ake,hb,onCells]
theorem ab3 {n:Nat}{os:Array Obj}(d:Array Nat):w.grownBy (Sort.grow (Sort.putRow ZK (Sort.ahead w n) g 0 d) os) (some g):=by
 refine⟨rfl,rfl,rfl,jS,λk hk A=> ?_⟩;rw[Sort.heap_grow_old _ _ (by simpa using hk)];have:g≠k:=λe=>A (by rw[e])
 simp[Sort.putRow,Sort.mapBlock,Sort.ahead,ake,this]
theorem Dj {cap n k:Nat}{e:TypeId}{os:Array Obj} {d:Array Nat}(hl:d.size=n)(A:base<=g)(hb:w.heap[g]? =some (.cells cur e (0,0)))(D:n<=cap)(I:cap<=maxLen)(J:cur.size=cap*1):(Sort.grow (Sort.putRow ZK (Sort.ahead w k) g 0 d) os).ownsRow base e 1 (.slice (some ⟨g,0,none⟩) n cap) n (d.toList.map ZK):=by
 refine⟨by simp[hl],.inr ⟨g,cap,_,rfl,A,al6 _ hb,D,I,by simp[Sort.putCells,J],?_⟩⟩;rw[aqd];apply agd;intro j;by_cases C:j<n;·rw[List.getElem?_take_of_lt C,aff];simp[Sort.putCells,hl,C,show j<cur.size from jO]
 ·rw[List.getElem?_take_eq_none jO,ahe (by simp;omega)]
theorem Di {B:Nat}{b:List (Nat×Nat)}(h:ZB W B (QM b))(hk:b.Pairwise (λp q=>p.1≠q.1))(hb:∀p∈b,p.1<4294967296/\p.2≠0)(hl:b.length<=1000000)(hne:b≠[]):
 Calls prog 56 #[.func (.func 108) #[] #[.pointer (some ⟨W.heap.size,0,none⟩)]] (W.alloc (.cells #[.map (some B)] 133)) λe w'=>∃v cs,e=.returned v/\cs.Perm (b.map (·.1))/\w'.ownsRow W.heap.size 53 1 v cs.length (VI cs)/\Below W.heap.size W w':=by
 have hSl:(QM b).length=b.length:=by unfold QM;rw[aad]
 obtain⟨DL,C,hD⟩:=(h.alloc (.cells #[.map (some B)] 133)).owns (P:=prog) (k:=53) (λp hp=>by obtain⟨q,hq,rfl⟩:=ai.1 hp;exact xx (hb q hq).1) (by rw[hSl];unfold maxLen;omega)
 have hDs:Maps.size (.map DL)=b.length:=by show DL.length=_;rw[hD.length_eq,aad,hSl]
 have HC:=aT (F5 (by rw[hDs];exact hl) _ (Z7.new W _ _) C);have hb1:Below W.heap.size W (W.alloc (.cells #[.map (some B)] 133)):=eR W _;have HP:Hid (∀ss:List Nat,Sv (.map DL) (λ_=>false) ss->ss.Perm (b.map (·.1))):=λss hs=>hs.perm (λ_=>rfl) hD hk hb
 have J:=aT hb1;clear C hD hDs h hb1;go_enter func56,ntmps56;generalize W.alloc (.cells #[.map (some B)] 133)=W1 at*;go_wp2_with fail;refine HC.mono ?_;rintro e w2 ⟨v,xs,rfl,hS,D,hb2⟩;have T:=HP xs hS;have j7:xs.length<=1000000:=by rw[T.length_eq,aad];exact hl
 have U:=aT T;have XA:=aT (J.trans (hb2.mono J.size));have hs1:=J.size;clear hS hb2 HC HP T;rcases D.2 with⟨rfl,hz⟩|⟨gb,cap,cur,rfl,A,I,r1,r2,r3,r4⟩
 ·have hx0:xs=[]:=akc hz;subst hx0;exact absurd (List.map_eq_nil_iff.1 (List.nil_perm.1 U)) hne
 ·have hH:Sort.Holds ZK w2 gb 0 xs.toArray:=ab2 I (by simpa using r4)
  have hx1:0<xs.length:=by rw[U.out.length_eq,aad];exact ayc.2 hne
  obtain⟨n,hn⟩:=jX xs.length;rw[hn] at j7 hx1 r1 ⊢;have HSo:=aT (vC (cap:=cap) hH (n:=n) (by rw[<-hn];simp) j7 hx1);have HN:=aT hn;have HG:=aT I;clear hH D r4 hn I;go_wp2_with fail;refine HSo.mono ?_;rintro e w3 ⟨v,d',rfl,rfl,⟨⟨_,k3,os3,Z⟩,_,Y,hp',_⟩⟩;have tS:Hid (w3.ownsRow W.heap.size 53 1 (.slice (some ⟨gb,0,none⟩) n cap) n (d'.toList.map ZK)):=by rw[Z];exact Dj Y (aO hs1 A) HG r1 r2 r3
  have Vj:Hid (Below W.heap.size W w3):=by rw[Z];exact XA.grown (ab3 d') XA.size (λk e=>by cases e;exact aO hs1 A)
  have HD:Hid (d'.toList.length=n/\d'.toList.Perm (b.map (·.1))):=⟨by rw[ang];exact Y,hp'.trans U⟩;clear Z Y hp' HG;go_wp2_with fail;go_ret;refine⟨_,d'.toList,rfl,HD.2,?_,Vj⟩;rw[HD.out.1,vd];exact tS
end Go.Proofs.YtclgigmgbebhgaaGreatDoor
namespace Go.Proofs.YtclgigmgbebhgaaGreatDoor
open Tryz
open Go Go.Proofs Go.RowKit Go.Maps Go.WideMaps Go.ChangeMaps
def aI(i:Nat):Nat:=if i=0 then 0 else i+1
def jn(i:Nat):Nat:=if i=0 then QN else if i=1 then Pk else if i=2 then Pj else Ph
theorem ab4{i:Nat}(hi:i<4)(w:World):Calls prog 48 #[.int .i64 (aI i:Int)] w λe w'=>(∃nm bit bits,e=.returned (.tuple #[.agg #[.string nm,.int .u32 (jn i:Int),.bool bit,.int .i64 bits],.int .i64 0]))/\Below w.heap.size w w':=by
 refine(Gf (aI i:Int) w).mono ?_;rintro e w' ⟨rfl,hb⟩;refine⟨?_,hb⟩;rcases (show i=0\/i=1\/i=2\/i=3 from jO) with rfl|rfl|rfl|rfl;·exact⟨r0.name,r0.bit,r0.bits,rfl⟩
 ·exact⟨r2.name,r2.bit,r2.bits,rfl⟩
 ·exact⟨r3.name,r3.bit,r3.bits,rfl⟩
 ·exact⟨r4.name,r4.bit,r4.bits,rfl⟩
def Sl(i:Nat):List (Value×Value):=(List.range i).map λj=>(.int .i64 (aI j:Int),.int .i64 ((j:Int)+1))
theorem uZ(i:Nat):Sl (i+1)=Sl i++[(.int .i64 (aI i:Int),.int .i64 ((i:Int)+1))]:=by
 unfold Sl;rw[ame,acf];rfl
theorem pW{i j:Nat}(h:j<i):(Value.int .i64 (aI j:Int),Value.int .i64 ((j:Int)+1))∈Sl i:=ai.2 ⟨j,aia.2 h,rfl⟩
theorem pV{i j:Nat}(h:aI i=aI j):i=j:=by unfold aI at h;split at h<;>split at h<;>omega
theorem pU{i:Nat}(h:i<=5):aI i<=6:=by unfold aI;split<;>omega
theorem Dh{i:Nat}(hi:i<=5):∀p∈Sl i,∃l,keyOf prog 3 p.1=some l:=λp hp=>by
 obtain⟨j,A,rfl⟩:=ai.1 hp;have:=pU (i:=j) (by have:=aia.1 A;omega);exact Pd _ jO
theorem Aw(i:Nat):(Sl i).Pairwise (λp q=>p.1≠q.1):=by
 unfold Sl;rw[aeg];refine List.nodup_range.imp (λ{a b} A e=> ?_);injection e with _ e;exact A (pV jO)
theorem Dg{W:World}{B i j:Nat}(h:ZB W B (Sl i))(hi:i<=5)(A:j<i):(Instr.lookup 140 (.map (some B)) (.int .i64 (aI j:Int)) false).run prog W=.ok (.int .i64 ((j:Int)+1)) W:=
 Xu underlying140 Wh h (Dh hi) (Pd _ (by have:=pU (i:=j) jO;omega)) (pW A) (Aw i)
theorem jm{W:World}{B i:Nat}(h:ZB W B (Sl i))(hi:i<5):∃W',(Instr.mapUpdate 140 (.map (some B)) (.int .i64 (aI i:Int)) (.int .i64 ((i:Int)+1))).run prog W=.ok () W'/\ZB W' B (Sl (i+1))/\W.grownBy W' (some B):=by
 rw[uZ];refine Vq underlying140 Wh h (Dh jO) (Pd _ (by have:=pU (i:=i) jO;omega)) (λp hp e=> ?_) _;obtain⟨j,A,rfl⟩:=ai.1 hp;have:=aia.1 A;injection e with _ e;have:=pV (show aI j=aI i from jO);omega
def PA(i:Nat):G:=⟨ins 0x20 4 0 0::(List.range i).map (λj=>ins 0x15 (jn j) ((j:Int)+1) 0),i,[]⟩
theorem jl:PA 4=Le:=rfl
theorem Av(i:Nat):PA (i+1)=(PA i).mark.put [ins 0x15 (jn i) ((i:Int)+1) 0]:=by
 unfold PA G.put G.mark;rw[ame,acf];rfl
theorem pT(i:Nat):Wj (PA i):=⟨List.Pairwise.nil,λp hp=>(by cases hp),abc _⟩
structure U0(N M Bm Bt P0:Nat)(q:Ya)(es:Nat->List (Nat×List Z3))(s0 s1:List (Nat×Nat))(w0 W:World)(v:Value)(g:G)(S:List (Value×Value)):Prop where
 Xg:Zl w0.heap.size M Bm W v g
 Zs:Below w0.heap.size w0 W
 pl:Z7 W P0 Xy (ZA q)
 tk:ZB W Bt S
 pk:Uq N W q es s0 s1
 ok:Wj g
 ne:Bt≠M/\Bt≠Bm/\w0.heap.size<=Bt
 hN:N<=w0.heap.size
section
variable {N M Bm Bt P0:Nat} {q:Ya} {es:Nat->List (Nat×List Z3)} {s0 s1:List (Nat×Nat)} {w0 W W':World} {v:Value} {g:G} {S:List (Value×Value)}
theorem Yh.az7{LO:Nat}(f:Yh LO M Bm W W')(h:ZB W Bt S)(C:Bt≠M)(A:Bt≠Bm):ZB W' Bt S:=by
 obtain⟨es,c,hb,D⟩:=h;exact⟨es,c,f.2.2 Bt _ hb C A (λcs f e=>by cases e),D⟩
theorem U0.AZ{v':Value}{g':G}(h:U0 N M Bm Bt P0 q es s0 s1 w0 W v g S)(f:Yh w0.heap.size M Bm W W')(hm:Zl w0.heap.size M Bm W' v' g')(ho:Wj g'):U0 N M Bm Bt P0 q es s0 s1 w0 W' v' g' S:=
 ⟨hm,h.Zs.trans f.1,f.YC h.Xg h.pl jD jD,f.az7 h.tk h.ne.1 h.ne.2.1,h.pk.below f.1 h.hN,ho,h.ne,h.hN⟩
theorem U0.bl(h:U0 N M Bm Bt P0 q es s0 s1 w0 W v g S)(hb:Below W.heap.size W W'):U0 N M Bm Bt P0 q es s0 s1 w0 W' v g S:=
 ⟨h.Xg.Zs hb,h.Zs.trans (hb.mono h.Zs.size),h.pl.below hb h.pl.lt,h.tk.below hb h.tk.lt,h.pk.below hb (aO h.hN h.Zs.size),h.ok,h.ne,h.hN⟩
theorem U0.alloc(h:U0 N M Bm Bt P0 q es s0 s1 w0 W v g S)(o:Obj):U0 N M Bm Bt P0 q es s0 s1 w0 (W.alloc o) v g S:=h.bl ((aH _ W).alloc (aR _) o)
theorem U0.tok{S':List (Value×Value)}(h:U0 N M Bm Bt P0 q es s0 s1 w0 W v g S)(A:W.grownBy W' (some Bt))(hm:ZB W' Bt S'):U0 N M Bm Bt P0 q es s0 s1 w0 W' v g S':=by
 have hb:Below w0.heap.size W W':=(aH _ W).grown A h.Zs.size (λk e=>by have:=ax e;have:=h.ne.2.2;omega);refine⟨⟨h.Xg.blk.kept A (λe=>h.ne.1 (ax e).symm),h.Xg.own.kept A (.inr (La h.Xg.own h.tk)),h.Xg.map.kept A (λe=>h.ne.2.1 (ax e).symm),h.Xg.lo⟩,h.Zs.trans hb,h.pl.kept A (λe=>Wc h.pl h.tk (ax e)),hm,h.pk.below hb h.hN,h.ok,h.ne,h.hN⟩
theorem U0.lo(h:U0 N M Bm Bt P0 q es s0 s1 w0 W v g S):w0.heap.size<=W.heap.size:=h.Zs.size
end
theorem az8{i:Nat}(hi:i<4):(#[Value.int .i64 0,.int .i64 2,.int .i64 3,.int .i64 4]:Array Value)[i]? =some (.int .i64 (aI i:Int)):=by
 rcases (show i=0\/i=1\/i=2\/i=3 from jO) with rfl|rfl|rfl|rfl<;>rfl
def gN(p:YH):Nat->G
 |0=>XL
 |1=>gA p
 |2=>gB p
 |3=>gC p
 |_=>gD p
def PC(es:Nat->List (Nat×List Z3))(s0 s1:List (Nat×Nat))(a:Nat)(l:List (Nat×ZM)):Prop:=l.Perm (ZZ a (es a) s0 s1)/\l.Pairwise (λx y=>x.1<y.1)
def PR(q:Ya)(es:Nat->List (Nat×List Z3))(s0 s1:List (Nat×Nat))(i:Nat)(p:YH):Prop:=
 p.d=q.d/\p.Vy=q.x/\(0<i->PC es s0 s1 0 p.p0/\((q.x=true->p.p1.Perm (ZZ 1 (es 1) s0 s1))/\(q.x=false->p.p1=[])/\p.p1.Pairwise (λx y=>x.1<y.1)))/\(1<i->PC es s0 s1 2 p.p2)/\(2<i->PC es s0 s1 3 p.p3)/\(3<i->PC es s0 s1 4 p.p4)
theorem uY:look (Le.goes Zo).b Zo=5:=jD
theorem jk:([0,2,3,4]:List Int).mergeSort leI=[0,2,3,4]:=by
 first
  |exact List.mergeSort_of_pairwise jD
  |exact List.Cc jD
theorem az9{i:Nat}(hi:i<4):(([0,2,3,4]:List Int).map encZ)[i]? =some (.int .i64 (aI i:Int)):=by
 rcases (show i=0\/i=1\/i=2\/i=3 from jO) with rfl|rfl|rfl|rfl<;>rfl
theorem Df:∀{b:List (Nat×Nat)} {p:Nat×Nat},(∀p∈b,p.2≠0)->p∈b->look b p.1≠0:=λ{b p} hz hp e=>Xt hz e p hp rfl
theorem pS{p:YH}(A:Wj (gD p)){cs:List Nat}(h:cs.Perm ((gD p).b.map (·.1))):OM p cs:=by
 refine⟨h.nodup_iff.2 (aeg.2 A.keys),λc=> ?_⟩;rw[h.mem_iff,ai];constructor;·rintro⟨q,C,rfl⟩;exact Df (λp hp=>(A.Fw p hp).2) C
 ·intro hc;exact⟨_,K3 hc,rfl⟩
theorem De(b:List (Nat×Nat)){cs:List Nat}{i c:Nat}(h:cs[i]? =some c):Zw b (cs.take (i+1))=Zw b (cs.take i)++[Zr (look b c),ins 0x06 c 0 0]:=by
 unfold Zw;rw[afb,h,acb];rfl
theorem Tk(b:List (Nat×Nat)):∀cs:List Nat,(Zw b cs).length=2*cs.length
 |[]=>rfl
 |c::cs=>by have:=Tk b cs;unfold Zw at*;rw[acd,ay,this];simp only[aj,acg];omega
theorem ji{q:Ya}{es:Nat->List (Nat×List Z3)}{s0 s1:List (Nat×Nat)}{i:Nat}{p:YH}{ps:List (Nat×ZM)}(hi:0<i)(Y:i<4)(h:PR q es s0 s1 i p)(A:PC es s0 s1 (i+1) ps):∃J,PR q es s0 s1 (i+1) J/\Za q.d ps (Vr (i+1) (gN p i))=gN J (i+1):=by
 obtain⟨C,I,D,T,U,Z⟩:=h;rcases (show i=1\/i=2\/i=3 from jO) with rfl|rfl|rfl;·exact⟨{p with p2:=ps},⟨C,I,λ_=>D jD,λ_=>A,λh=>absurd h jD,λh=>absurd h jD⟩,by rw[<-C];rfl⟩
 ·exact⟨{p with p3:=ps},⟨C,I,λ_=>D jD,λ_=>T jD,λ_=>A,λh=>absurd h jD⟩,by rw[<-C];rfl⟩
 ·exact⟨{p with p4:=ps},⟨C,I,λ_=>D jD,λ_=>T jD,λ_=>U jD,λ_=>A⟩,by rw[<-C];rfl⟩
def pR(q:Ya)(es:Nat->List (Nat×List Z3))(s0 s1:List (Nat×Nat))(w:World):Ending->World->Prop:=λe w'=>∃(v:Value) (p:YH) (cs:List Nat),e=.returned v/\p.d=q.d/\p.Vy=q.x/\
     (p.p0.Perm (ZZ 0 (es 0) s0 s1)/\p.p0.Pairwise (λx y=>x.1<y.1))/\((q.x=true->p.p1.Perm (ZZ 1 (es 1) s0 s1))/\(q.x=false->p.p1=[])/\p.p1.Pairwise (λx y=>x.1<y.1))/\(p.p2.Perm (ZZ 2 (es 2) s0 s1)/\p.p2.Pairwise (λx y=>x.1<y.1))/\(p.p3.Perm (ZZ 3 (es 3) s0 s1)/\p.p3.Pairwise (λx y=>x.1<y.1))/\(p.p4.Perm (ZZ 4 (es 4) s0 s1)/\p.p4.Pairwise (λx y=>x.1<y.1))/\
     OM p cs/\(∀c∈cs,c<4294967296)/\(ZL p cs).length<=1000000/\(ZL p cs).length<=80+2*T4 p/\w'.ownsRow w.heap.size Wk 5 v (ZL p cs).length (XY (ZL p cs))/\Below w.heap.size w w'
theorem uX{N:Nat}{q:Ya}{es:Nat->List (Nat×List Z3)}{s0 s1:List (Nat×Nat)}(w:World)(hp:Uq N w q es s0 s1)(hN:N<=w.heap.size)(hk:∀a,a<5->ZX (ZZ a (es a) s0 s1)<=10000):
 Calls prog 24 #[.agg (ZA q)] w (pR q es s0 s1 w):=by
 have Jw:= @apc prog;have HK:=aT hk;have HPK:=aT hp;have HN:=aT hN;clear hk hp hN;unfold ZA VO at*;go_enter func24,ntmps24;go_upto_region 2 with fail;have hP1:Z7 (((w.alloc (.cells #[.int .u32 q.d,.bool q.x,.slice q.e0.1 q.e0.2.1 q.e0.2.2,.slice q.e1.1 q.e1.2.1 q.e1.2.2,.slice q.e2.1 q.e2.2.1 q.e2.2.2,.slice q.e3.1 q.e3.2.1 q.e3.2.2,.slice q.e4.1 q.e4.2.1 q.e4.2.2,.slice q.s0.1 q.s0.2.1 q.s0.2.2,.slice q.s1.1 q.s1.2.1 q.s1.2.2] Xy)).alloc (.map #[] 0)).alloc (.cells #[.slice none 0 0,.int .i64 0,.map (some (w.heap.size+1))] Fx)) w.heap.size Xy #[.int .u32 q.d,.bool q.x,.slice q.e0.1 q.e0.2.1 q.e0.2.2,.slice q.e1.1 q.e1.2.1 q.e1.2.2,.slice q.e2.1 q.e2.2.1 q.e2.2.2,.slice q.e3.1 q.e3.2.1 q.e3.2.2,.slice q.e4.1 q.e4.2.1 q.e4.2.2,.slice q.s0.1 q.s0.2.1 q.s0.2.2,.slice q.s1.1 q.s1.2.1 q.s1.2.2]:=((Z7.new w _ _).alloc _).alloc _;have lX:ZB (((w.alloc (.cells #[.int .u32 q.d,.bool q.x,.slice q.e0.1 q.e0.2.1 q.e0.2.2,.slice q.e1.1 q.e1.2.1 q.e1.2.2,.slice q.e2.1 q.e2.2.1 q.e2.2.2,.slice q.e3.1 q.e3.2.1 q.e3.2.2,.slice q.e4.1 q.e4.2.1 q.e4.2.2,.slice q.s0.1 q.s0.2.1 q.s0.2.2,.slice q.s1.1 q.s1.2.1 q.s1.2.2] Xy)).alloc (.map #[] 0)).alloc (.cells #[.slice none 0 0,.int .i64 0,.map (some (w.heap.size+1))] Fx)) (w.heap.size+1) []:=by have:=(ZB.made (w.alloc (.cells #[.int .u32 q.d,.bool q.x,.slice q.e0.1 q.e0.2.1 q.e0.2.2,.slice q.e1.1 q.e1.2.1 q.e1.2.2,.slice q.e2.1 q.e2.2.1 q.e2.2.2,.slice q.e3.1 q.e3.2.1 q.e3.2.2,.slice q.e4.1 q.e4.2.1 q.e4.2.2,.slice q.s0.1 q.s0.2.1 q.s0.2.2,.slice q.s1.1 q.s1.2.1 q.s1.2.2] Xy))).alloc (.cells #[.slice none 0 0,.int .i64 0,.map (some (w.heap.size+1))] Fx);rwa [ah] at this
 have hK1:Z7 (((w.alloc (.cells #[.int .u32 q.d,.bool q.x,.slice q.e0.1 q.e0.2.1 q.e0.2.2,.slice q.e1.1 q.e1.2.1 q.e1.2.2,.slice q.e2.1 q.e2.2.1 q.e2.2.2,.slice q.e3.1 q.e3.2.1 q.e3.2.2,.slice q.e4.1 q.e4.2.1 q.e4.2.2,.slice q.s0.1 q.s0.2.1 q.s0.2.2,.slice q.s1.1 q.s1.2.1 q.s1.2.2] Xy)).alloc (.map #[] 0)).alloc (.cells #[.slice none 0 0,.int .i64 0,.map (some (w.heap.size+1))] Fx)) (w.heap.size+1+1) Fx #[.slice none 0 0,.int .i64 0,.map (some (w.heap.size+1))]:=by have:=Z7.new ((w.alloc (.cells #[.int .u32 q.d,.bool q.x,.slice q.e0.1 q.e0.2.1 q.e0.2.2,.slice q.e1.1 q.e1.2.1 q.e1.2.2,.slice q.e2.1 q.e2.2.1 q.e2.2.2,.slice q.e3.1 q.e3.2.1 q.e3.2.2,.slice q.e4.1 q.e4.2.1 q.e4.2.2,.slice q.s0.1 q.s0.2.1 q.s0.2.2,.slice q.s1.1 q.s1.2.1 q.s1.2.2] Xy)).alloc (.map #[] 0)) Fx #[.slice none 0 0,.int .i64 0,.map (some (w.heap.size+1))];rwa [ah,ah] at this
 have Cl:Below w.heap.size w (((w.alloc (.cells #[.int .u32 q.d,.bool q.x,.slice q.e0.1 q.e0.2.1 q.e0.2.2,.slice q.e1.1 q.e1.2.1 q.e1.2.2,.slice q.e2.1 q.e2.2.1 q.e2.2.2,.slice q.e3.1 q.e3.2.1 q.e3.2.2,.slice q.e4.1 q.e4.2.1 q.e4.2.2,.slice q.s0.1 q.s0.2.1 q.s0.2.2,.slice q.s1.1 q.s1.2.1 q.s1.2.2] Xy)).alloc (.map #[] 0)).alloc (.cells #[.slice none 0 0,.int .i64 0,.map (some (w.heap.size+1))] Fx)):=(((aH w.heap.size w).alloc (aR _) _).alloc (by rw[ah];omega) _).alloc (by rw[ah,ah];omega) _;generalize ((w.alloc (.cells #[.int .u32 q.d,.bool q.x,.slice q.e0.1 q.e0.2.1 q.e0.2.2,.slice q.e1.1 q.e1.2.1 q.e1.2.2,.slice q.e2.1 q.e2.2.1 q.e2.2.2,.slice q.e3.1 q.e3.2.1 q.e3.2.2,.slice q.e4.1 q.e4.2.1 q.e4.2.2,.slice q.s0.1 q.s0.2.1 q.s0.2.2,.slice q.s1.1 q.s1.2.1 q.s1.2.2] Xy)).alloc (.map #[] 0)).alloc (.cells #[.slice none 0 0,.int .i64 0,.map (some (w.heap.size+1))] Fx)=w1 at*;have hlM:w.heap.size<=w.heap.size+1+1:=jO;have hlB:w.heap.size<=w.heap.size+1:=jO;generalize w.heap.size+1+1=M at*;generalize w.heap.size+1=Bm at*;have HH:Hid (Zl w.heap.size M Bm w1 (.slice none 0 0) ⟨[],0,[]⟩):=⟨hK1,Yg _ _ _ _,lX,hlM,hlB⟩;have HP1:Hid (Z7 w1 w.heap.size Xy #[.int .u32 q.d,.bool q.x,.slice q.e0.1 q.e0.2.1 q.e0.2.2,.slice q.e1.1 q.e1.2.1 q.e1.2.2,.slice q.e2.1 q.e2.2.1 q.e2.2.2,.slice q.e3.1 q.e3.2.1 q.e3.2.2,.slice q.e4.1 q.e4.2.1 q.e4.2.2,.slice q.s0.1 q.s0.2.1 q.s0.2.2,.slice q.s1.1 q.s1.2.1 q.s1.2.2]):=hP1;have Uy:=aT Cl;have Nb:=Cl.size;clear hP1 lX hK1 Cl
 go_wp2_with (refine Great.wpList_buildSliceTo rfl 79 Wk 1 _ rfl _ rfl _ rfl underlying79 #[.int .i64 0,.int .u16 32,.int .u32 4,.int .i64 0,.int .i64 0] jK ?_)
 refine(Y0 (xs:=[ins 0x20 4 0 0]) w1 HH rfl rfl jD Nb).mono ?_;rintro e w2 ⟨rfl,v2,h2,f2⟩;have hI:U0 N M Bm w2.heap.size w.heap.size q es s0 s1 w (w2.alloc (.map #[] 0)) v2 (PA 0) (Sl 0):=by
  have hb:Below w.heap.size w w2:=Uy.trans f2.1;refine⟨h2.al _,hb.alloc hb.size _,(f2.YC HH HP1 jD jD).alloc _,ZB.made w2,(HPK.below hb HN).below ((aH _ w2).alloc (aR _) _) (aO HN hb.size),pT 0,⟨?_,?_,hb.size⟩,HN⟩;·have:=h2.blk.lt;omega
  ·have:=h2.map.lt;omega
 have C:=aT hI;clear h2 f2 HH HP1 Uy hI;go_upto_region 4 with fail;generalize w2.alloc (.map #[] 0)=w3 at*;generalize w2.heap.size=Bt at*;have HI4:=aT (C.alloc (.cells #[.int .i64 0,.int .i64 2,.int .i64 3,.int .i64 4] 3));have HL4:=aT (Z7.new w3 3 #[.int .i64 0,.int .i64 2,.int .i64 3,.int .i64 4]);go_upto_region 5 with(refine Great.wpList_buildSliceTo rfl 94 3 4 _ rfl _ rfl _ rfl underlying94 #[.int .i64 0,.int .i64 2,.int .i64 3,.int .i64 4] jK ?_)
 generalize w3.alloc (.cells #[.int .i64 0,.int .i64 2,.int .i64 3,.int .i64 4] 3)=w4 at*;generalize w3.heap.size=BL at*;clear C;go_loopg [23] 5 (λgg iv wr=>∃(i:Nat) (v':Value),i<=4/\4-i<gg/\iv=.int .i64 (i:Int)/\Hid (U0 N M Bm Bt w.heap.size q es s0 s1 w wr v' (PA i) (Sl i))/\Hid (Z7 wr BL 3 #[.int .i64 0,.int .i64 2,.int .i64 3,.int .i64 4]));case atStart=>exact⟨0,v2,jO,jO,rfl,HI4,HL4⟩
 case round=>
  obtain⟨i,v',hi4,VP,rfl,C,HBL⟩:=hrel;clear HI4 HL4;have i0:=jZ i;by_cases hlt:i<4
  ·have Y8:(i:Int)<4:=by omega
   have y0:wr.cell? ⟨BL,i,none⟩=some (.int .i64 (aI i:Int)):=(HBL.cell i).trans (az8 hlt);have iw:=jW i;obtain⟨A,hA⟩:=jX (aI i);rw[hA] at y0;have HA:=aT hA;have Ig:=aT (ab4 hlt wr);rw[hA] at Ig;clear hA;go_wp2_with fail;refine Ig.mono ?_;rintro e w5 ⟨⟨nm,bit,bits,rfl⟩,mC⟩;obtain⟨T,hT⟩:=jX (jn i);rw[hT];have HT:=aT hT;have Y:=aT ((C.bl mC).alloc (.cells #[.string nm,.int .u32 T,.bool bit,.int .i64 bits] 142));have al7:=aT ((HBL.below mC HBL.lt).alloc (.cells #[.string nm,.int .u32 T,.bool bit,.int .i64 bits] 142));have yY:=aT (Z7.new w5 142 #[.string nm,.int .u32 T,.bool bit,.int .i64 bits]);clear hT mC Ig C HBL y0;go_upto_region 8 with fail;generalize w5.alloc (.cells #[.string nm,.int .u32 T,.bool bit,.int .i64 bits] 142)=w6 at*;generalize w5.heap.size=B6 at*;have HMK:Hid (Calls prog 49 #[.pointer (some ⟨M,0,none⟩)] w6 λe w'=>e=.returned (.int .i64 ((i:Int)+1))/\Zl w.heap.size M Bm w' v' (PA i).mark/\Yh w.heap.size M Bm w6 w'):=Vp w6 Y.Xg (by show i+1<=_;omega);go_wp2_with fail;refine HMK.mono ?_;rintro e w7 ⟨rfl,h7,f7⟩;have hI7:=Y.AZ f7 h7 Y.ok.mark;obtain⟨w8,u8,m8,g8⟩:=jm hI7.tk jO;have hI8:=hI7.tok g8 m8;rw[HA.out] at u8;have Sm:=f7.YC Y.Xg yY jD jD;have z1:w8.cell? ⟨B6,1,none⟩=some (.int .u32 T):=by have:=(Sm.kept g8 (λe=>Wc Sm hI7.tk (ax e))).cell 1;simpa using this
   have ab5:=f7.YC Y.Xg al7 jD jD;have al8:=aT (ab5.kept g8 (λe=>Wc ab5 hI7.tk (ax e)));have lk:=Dg hI8.tk jO (amg i);rw[HA.out] at lk;have U:=aT hI8;have pQ:=hI8.lo;clear h7 f7 hI7 m8 g8 hI8 Sm ab5 HMK Y al7 yY
   go_wp2_with (refine Great.wpList_buildSliceTo rfl 79 Wk 1 _ rfl _ rfl _ rfl underlying79 #[.int .i64 0,.int .u16 21,.int .u32 T,.int .i64 ((i:Int)+1),.int .i64 0] jK ?_)
   refine(Y0 (xs:=[ins 0x15 T ((i:Int)+1) 0]) w8 U.Xg rfl rfl (by show((PA i).l.length+1<=_);simp[PA];omega) pQ).mono ?_;rintro e w9 ⟨rfl,v9,h9,f9⟩;have hI9:=U.AZ f9 h9 (U.ok.put _);have aA0:=aT (f9.YC U.Xg al8 jD jD);rw[<-HT.out,<-Av] at hI9;have D:=aT hI9;clear h9 f9 hI9 U al8 u8 lk z1 pQ;go_wp2_with fail;go_roundg (4-i);case measure=>omega
   case rel=>exact⟨i+1,v9,jO,jO,by go_num,D,aA0⟩
  ·obtain rfl:i=4:=by omega
   have Y8:¬(((4:Nat):Int)<4):=jO;rw[jl] at C;clear HBL;have OE:=C.lo;go_wp2_with fail;refine(Uc (c:=Zo) wr C.Xg C.ok jD jD OE).mono ?_;rintro e w5 ⟨rfl,h5,f5⟩;have Y:=aT (C.AZ f5 h5 (C.ok.goes jD));have Eo:=Y.lo;rw[uY];clear h5 f5 C OE
   go_wp2_with (refine Great.wpList_buildSliceTo rfl 79 Wk 1 _ rfl _ rfl _ rfl underlying79 #[.int .i64 0,.int .u16 5,.int .u32 0,.int .i64 5,.int .i64 0] jK ?_)
   refine(Y0 (xs:=[ins 0x05 0 5 0]) w5 Y.Xg rfl rfl jD Eo).mono ?_;rintro e w6 ⟨rfl,v6,h6,f6⟩;have fN:=Y.AZ f6 h6 (Y.ok.put _);have bh:Hid (U0 N M Bm Bt w.heap.size q es s0 s1 w w6 v6 XL (Sl 4)):=fN;clear h6 f6 fN Y Eo;have HKY:=aT (wh (some Bt) w6);have HSO:=aT (DJ (ks:=[0,2,3,4]) bh.tk rfl jD jD);rw[jk] at HSO;go_wp2_with fail;refine HKY.mono ?_;rintro e w7 ⟨rfl,rfl⟩;go_wp2_with fail;refine HSO.mono ?_;rintro e w7 ⟨vs,rfl,J,Sm⟩;obtain⟨gS,cS,rfl,_,_⟩:=World.ownsRow.form J jD;have HI7:=aT (bh.bl Sm);have HRW:=aT (Zd J bh.lo);clear J Sm HKY HSO bh;go_upto_region 13 with fail;go_loopg [56] 5 (λgg iv wq=>∃(i:Nat) (v':Value) (g':G) (p:YH),i<=4/\4-i<gg/\iv=.int .i64 (i:Int)/\Hid (U0 N M Bm Bt w.heap.size q es s0 s1 w wq v' g' (Sl 4))/\Hid (wq.ownsRow w.heap.size 3 1 (.slice (some ⟨gS,0,none⟩) 4 cS) 4 (([0,2,3,4]:List Int).map encZ))/\Hid (PR q es s0 s1 i p)/\Hid (g'=gN p i)/\Hid (g'.sz<=20+i*22000));case atStart=>exact⟨0,v6,XL,⟨q.x,q.d,[],[],[],[],[]⟩,jO,jO,rfl,HI7,HRW,⟨rfl,rfl,λh=>absurd h jD,λh=>absurd h jD,λh=>absurd h jD,λh=>absurd h jD⟩,rfl,(show XL.sz<=20 from jD)⟩
   case round=>
    obtain⟨i,v',g',p,hi4,VP,rfl,C,Au,HPR,HGN,eQ⟩:=hrel;clear HI7 HRW;have i0:=jZ i;by_cases hlt:i<4
    ·have Y8:(i:Int)<4:=by omega
     have y0:wr.cell? ⟨gS,i,none⟩=some (.int .i64 (aI i:Int)):=(Au.cellAt i jO).trans (az9 hlt);obtain⟨A,hA⟩:=jX (aI i);have lk:=Dg C.tk jO hlt;rw[hA] at y0 lk;have HA:=aT hA;clear hA;have hsz:=eQ.out;have hg1:g'.l.length+1<=1000000:=by unfold G.sz at hsz;omega
     have hg2:(g'.here (i+1)).l.length+1<=1000000:=by have:=UQ g' (i+1);unfold G.sz at this hsz;omega
     have Ju:=C.lo;go_wp2_with fail;refine(T7 (m:=i) wr C.Xg hg1 Ju).mono ?_;rintro e w8 ⟨rfl,v8,h8,f8⟩;have U:=aT (C.AZ f8 h8 (C.ok.here _));have fB:=aT (f8.T3 C.Xg Au jD jD);have pQ:=U.lo;clear h8 f8 C Au y0 lk Ju hg1
     go_wp2_with (refine Great.wpList_buildSliceTo rfl 79 Wk 1 _ rfl _ rfl _ rfl underlying79 #[.int .i64 0,.int .u16 32,.int .u32 0,.int .i64 0,.int .i64 0] jK ?_)
     refine(Y0 (xs:=[ins 0x20 0 0 0]) w8 U.Xg rfl rfl hg2 pQ).mono ?_;rintro e w9 ⟨rfl,v9,h9,f9⟩;have hI9:U0 N M Bm Bt w.heap.size q es s0 s1 w w9 v9 (Vr (i+1) g') (Sl 4):=U.AZ f9 h9 (U.ok.put _);have D:=aT hI9;have HR9:=aT (f9.T3 U.Xg fB jD jD);have al9:=D.lo;have hst:=sU (i+1) g';clear h9 f9 hI9 U fB pQ hg2;obtain⟨c0,c1,c2,c3,c4,c5,c6,c7,c8⟩:=Km D.pl;have iw:=jW i;by_cases sW:i=0
     ·subst sW;obtain rfl:A=0:=HA.out.symm;have hk0:=HK 0 jD;have kZ:=HK 1 jD;have HX:=aT (ko w9 D.pk D.Xg D.ok jO HN al9);unfold ZA VO at HX;go_wp2_with fail;refine HX.mono ?_;rintro e w10 ⟨rfl,v10,p0,p1,a1,a2,b1,b2,b3,h10,f10,o10⟩;have ab6:=aT (D.AZ f10 h10 o10);have ab7:=aT (f10.T3 D.Xg HR9 jD jD)
      have pP:(Uz q.x q.d p0 p1 (Vr 1 g')).sz<=20+1*22000:=by
       have h1:=sV q.x q.d p0 p1 (Vr 1 g');have e0:=Y7 a1;have e1:ZX p1<=10000:=by
        cases hx:q.x with
        |true=>rw[Y7 (b1 hx)];exact kZ
        |false=>rw[b2 hx];decide
       simp only[Nat.zero_mul,aeb] at hsz;rw[show(0+1)=1 from rfl] at hst;omega
      have pO:Hid (PR q es s0 s1 1 ⟨q.x,q.d,p0,p1,[],[],[]⟩):=⟨rfl,rfl,λ_=>⟨⟨a1,a2⟩,b1,b2,b3⟩,λh=>absurd h jD,λh=>absurd h jD,λh=>absurd h jD⟩;have ab8:Hid (Uz q.x q.d p0 p1 (Vr 1 g')=gN ⟨q.x,q.d,p0,p1,[],[],[]⟩ 1):=by rw[show g'=XL from HGN.out];rfl
      have ab9:=aT pP;clear h10 f10 o10 a1 a2 b1 b2 b3 HX D HR9 c0 c1 c2 c3 c4 c5 c6 c7 c8 pP hst;go_wp2_with fail;go_roundg (4-0);case measure=>omega
      case rel=>exact⟨1,v10,_,_,jO,jO,by go_num,ab6,ab7,pO,ab8,ab9⟩
     ·have hAi:A=i+1:=by rw[<-HA.out];unfold aI;rw[aN sW]
      have mR:A<5:=jO;have haz:((A:Int) == 0)=false:=by rw[ae];omega
      have HAI:=aT hAi;have hka:=HK A mR;have HX:=aT (Oc w9 D.pk mR D.Xg D.ok jO HN al9);unfold ZA VO at HX;clear hAi;go_wp2_with fail;refine HX.mono ?_;rintro e w10 ⟨rfl,v10,ps,a1,a2,h10,f10,o10⟩;have ab6:=aT (D.AZ f10 h10 o10);have ab7:=aT (f10.T3 D.Xg HR9 jD jD);have pP:(Za q.d ps (Vr (i+1) g')).sz<=20+(i+1)*22000:=by have h1:=WC q.d ps (Vr (i+1) g');have e0:=Y7 a1;omega
      rw[HAI.out] at a1;obtain⟨p',mI,tP⟩:=ji jO hlt HPR (ps:=ps) ⟨a1,a2⟩;rw[<-HGN.out] at tP;have pO:=aT mI;have ab8:=aT tP;have ab9:=aT pP;clear h10 f10 o10 a1 a2 HX D HR9 c0 c1 c2 c3 c4 c5 c6 c7 c8 pP hst mI tP;go_wp2_with fail;go_roundg (4-i);case measure=>omega
      case rel=>exact⟨i+1,v10,_,p',jO,jO,by go_num,ab6,ab7,pO,ab8,ab9⟩
    ·obtain rfl:i=4:=by omega
     have Y8:¬(((4:Nat):Int)<4):=jO;have hgd:g'=gD p:=HGN;subst hgd;have hsz:=eQ.out;unfold G.sz at hsz;have lZ:=C.ok;have hbl:(gD p).b.length<=100000:=by have:=lZ.len;omega
     have HSO:=aT (Di C.Xg.map lZ.keys lZ.Fw jO (by
      have h1:=OO.2.2;obtain⟨_,_,_,_,l1,l2,l3,l4⟩:=Uf p;have h2:=(((l1.trans l2).trans l3).trans l4).b _ h1;have hk:look (gD p).b Zo≠0:=by rw[h2];exact h1
      intro e;exact hk (by rw[e];rfl)))
     have HKY:=aT (u6q (some Bm) wr);have m2:wr.cell? ⟨M,2,none⟩=some (.map (some Bm)):=by simpa using C.out.Xg.blk.cell 2
     have HBL:=aT hbl;clear lZ;go_wp2_with fail;refine HKY.mono ?_;rintro e w11 ⟨rfl,rfl⟩;go_wp2_with fail;refine HSO.mono ?_;rintro e w11 ⟨vc,cs,rfl,Fs,J,am0⟩;obtain⟨K,hK⟩:=jX cs.length;have hKb:K<=100000:=by have:=Fs.length_eq;rw[aad] at this;have:=HBL.out;omega
     rw[hK] at J;obtain⟨ka,kc,rfl⟩:=ZI J;have am1:=aT (C.bl am0);have am2:=aT (Zd J C.lo);have HPM:=aT Fs;have HKK:=aT hK;have I:Hid (U0 N M Bm Bt w.heap.size q es s0 s1 w w11 v' ⟨(gD p).l++Zw (gD p).b (cs.take 0),(gD p).n,(gD p).b⟩ (Sl 4)):=by
      have h:=am1.out;rw[show(⟨(gD p).l++Zw (gD p).b (cs.take 0),(gD p).n,(gD p).b⟩:G)=gD p by rw[List.take_zero];show G.mk ((gD p).l++[]) _ _=_;rw[ade]]
      exact h
     clear Fs hK J am0 HKY HSO C m2 Au am1;go_upto_region 22 with fail;go_loopg [86] (K+1) (λgg iv wq=>∃(i:Nat) (v':Value),i<=K/\K-i<gg/\iv=.int .i64 (i:Int)/\Hid (U0 N M Bm Bt w.heap.size q es s0 s1 w wq v' ⟨(gD p).l++Zw (gD p).b (cs.take i),(gD p).n,(gD p).b⟩ (Sl 4))/\Hid (wq.ownsRow w.heap.size 53 1 (.slice ka K kc) K (VI cs)));case atStart=>exact⟨0,v',jO,jO,rfl,I,am2⟩
     case round=>
      obtain⟨i,v3,hiK,ai2,rfl,C,Au⟩:=hrel;clear I am2;have j0:=jZ i;by_cases hlt:i<K
      ·have pN:(i:Int)<(K:Int):=by omega
       obtain⟨c,hc⟩:∃c,cs[i]? =some c:=⟨_,aM (by rw[HKK.out];exact hlt)⟩;obtain⟨kg,rfl,AY,IG⟩:=Ye (λn:Nat=>[Value.int .u32 n]) 1 (λ_=>rfl) HKK Au hc;have y0:=IG 0 jD;simp only[aqd,aeb,aL] at y0;have hcm:c∈(gD p).b.map (·.1):=HPM.mem_iff.1 (af hc);obtain⟨pp,hpp,hpc⟩:=ai.1 hcm;have aA1:c<4294967296:=by rw[<-hpc];exact(C.ok.Fw pp hpp).1
       have m2:wr.cell? ⟨M,2,none⟩=some (.map (some Bm)):=by simpa using C.out.Xg.blk.cell 2
       have lk:=K1 C.Xg.map C.ok.keys C.ok.Fw aA1;dsimp only at lk;have td:=aT (De (gD p).b hc);obtain⟨LK,hLK⟩:=jX (look (gD p).b c);rw[hLK] at lk td;have hl1:((gD p).l++Zw (gD p).b (cs.take i)).length+2<=1000000:=by rw[ay,Tk,abg];omega
       have Ju:=C.lo;have cZ:=aT hl1;clear IG hc hcm hpp hpc hLK hl1;go_wp2_with fail;refine(K0 (m:=LK) wr C.Xg (by have:=cZ.out;show((gD p).l++Zw (gD p).b (cs.take i)).length+1<=_;omega) Ju).mono ?_;rintro e w12 ⟨rfl,v12,h12,f12⟩;have I:=aT (C.AZ f12 h12 (C.ok.here _));have am3:=aT (f12.T3 C.Xg Au jD jD);have eP:=I.lo;clear h12 f12 C Au m2 lk y0 Ju
       go_wp2_with (refine Great.wpList_buildSliceTo rfl 79 Wk 1 _ rfl _ rfl _ rfl underlying79 #[.int .i64 0,.int .u16 6,.int .u32 c,.int .i64 0,.int .i64 0] jK ?_)
       refine(Y0 (xs:=[ins 0x06 c 0 0]) w12 I.Xg rfl rfl (by show(((gD p).l++Zw (gD p).b (cs.take i))++[Zr (LK:Int)]).length+1<=_;have:=cZ.out;rw[ay];show((gD p).l++Zw (gD p).b (cs.take i)).length+1+1<=_;omega) eP).mono ?_;rintro e w13 ⟨rfl,v13,h13,f13⟩;have am4:=I.AZ f13 h13 (I.ok.put _);have aA2:Hid (U0 N M Bm Bt w.heap.size q es s0 s1 w w13 v13 ⟨(gD p).l++Zw (gD p).b (cs.take (i+1)),(gD p).n,(gD p).b⟩ (Sl 4)):=by
        rw[show(⟨(gD p).l++Zw (gD p).b (cs.take (i+1)),(gD p).n,(gD p).b⟩:G)=((⟨(gD p).l++Zw (gD p).b (cs.take i),(gD p).n,(gD p).b⟩:G).here LK).put [ins 0x06 c 0 0] by rw[td.out];unfold G.here G.put;simp only[aba];rfl]
        exact am4
       have aA3:=aT (f13.T3 I.Xg am3 jD jD);have iw:=jW i;clear h13 f13 am4 I am3 eP cZ;go_wp2_with fail;go_roundg (K-i);case measure=>omega
       case rel=>exact⟨i+1,v13,jO,jO,by go_num,aA2,aA3⟩
      ·obtain rfl:i=K:=by omega
       have pN:¬(i:Int)<(i:Int):=jO;have m0:wr.cell? ⟨M,0,none⟩=some v3:=by simpa using C.out.Xg.blk.cell 0
       have Z:(gD p).l++Zw (gD p).b (cs.take i)=ZL p cs:=by rw[abd (by rw[HKK.out];exact aR _)];rfl
       have hlen:(ZL p cs).length<=1000000:=by rw[<-Z,ay,Tk,abg];omega
       have eO:(ZL p cs).length<=80+2*T4 p:=by have z1:=ag6 p;have z2:(gD p).b.length<=(gD p).n:=C.ok.len;have z3:=HPM.length_eq;rw[aad] at z3;rw[<-Z,ay,Tk,abg];unfold G.sz at z1;omega
       have HIT:=aT Z;have HLN:=aT hlen;have HL2:=aT eO;clear Z hlen eO Au;go_wp2_with fail;go_ret;have hown:=C.Xg.own;dsimp only at hown;rw[HIT.out] at hown;obtain⟨a1,a2,a3,a4,a5,a6⟩:=HPR.out;exact⟨_,p,cs,rfl,a1,a2,(a3 jD).1,(a3 jD).2,a4 jD,a5 jD,a6 jD,pS (by
        have h:=C.ok;exact⟨h.keys,h.Fw,h.len⟩) HPM,(λc hc=>by
        obtain⟨q,hq,rfl⟩:=ai.1 (HPM.mem_iff.1 hc);exact(C.ok.Fw q hq).1),HLN,HL2,hown,C.Zs⟩
end Go.Proofs.YtclgigmgbebhgaaGreatDoor
namespace Go.Proofs.YtclgigmgbebhgaaGreatDoor
open Tryz
open Go Go.Proofs Go.RowKit
theorem My:∀l:List Z3,(YJ l).length<=l.length
 |[]=>aR _
 |(cs,code)::r=>by
  have A:=My r;unfold YJ;split;·rw[aj];omega
  ·rw[aj,aj,acg];omega
  ·rw[aj,aj];omega
theorem Ho:∀l:List Z3,(UR l).length<=l.length
 |[]=>aR _
 |(cs,code)::r=>by
  have A:=Ho r;unfold UR;split;·rw[aj,aj,acg];omega
  ·rw[aj,aj];omega
theorem J0:∀l:List Z3,∀r∈YJ l,∃q∈l,r.1.length<=q.1.length/\r.2=q.2
 |[],r,h=>by cases h
 |(cs,code)::l,r,h=>by
  have D:=J0 l;unfold YJ at h;split at h;·obtain⟨q,A,C⟩:=D r h;exact⟨q,by simp[A],C⟩
  ·rw[aac.1 h];exact⟨(cs,code),jS,abc _,rfl⟩
  ·rename_i ns I;rcases abf.1 h with rfl|h;·exact⟨(cs,code),jS,Tz jA,rfl⟩
   ·obtain⟨q,A,C⟩:=D r h;exact⟨q,by simp[A],C⟩
theorem yi(a d:Nat)(g:List Z3):(Yu a d g).length<=g.length:=by
 unfold Yu strike;rw[avc];have h:=(List.dropWhile_suffix (λr:Z3=>r.2 == d) (l:=(if a=2 then YJ g else UR g).reverse)).length_le;rw[avc] at h;have A:=My g;have C:=Ho g;split at h<;>split<;>omega
theorem Ar{a d:Nat}{g:List Z3}{r:Z3}(h:r∈Yu a d g):∃q∈g,r.1.length<=q.1.length/\r.2=q.2:=by
 have hm:=KB (V0 d _ (if a=2 then YJ g else UR g) (aR _)) r h;split at hm;·exact J0 g r hm
 ·exact⟨r,Np g r hm,aR _,rfl⟩
theorem NX{C:Nat}:∀rs:List Z3,(∀r∈rs,r.1.length<=C)->Wd rs<=1+rs.length*(8*C+4)
 |[],_=>by show 1<=1+_;omega
 |r::rs,h=>by have D:=NX rs (λq A=>h q (by simp[A]));have I:=h r jS;unfold Wd;rw[aj,arc,Nat.one_mul];omega
theorem Pz:∀xs ys:List (Nat×ZM),ZX (xs++ys)+2=ZX xs+ZX ys
 |[],ys=>by show ZX ys+2=2+ZX ys;omega
 |x::xs,ys=>by have A:=Pz xs ys;show 6+Xz x.2+ZX (xs++ys)+2=6+Xz x.2+ZX xs+ZX ys;omega
theorem Mx{C a:Nat}:∀es:List Xo,(∀e∈es,∀r∈e.2,r.1.length<=C)->ZX (es.map (VD a))<=2+7*es.length+(es.map (λe=>e.2.length)).sum*(8*C+4)
 |[],_=>by show 2<=_;omega
 |e::es,h=>by have D:=Mx (a:=a) es (λq A=>h q (by simp[A]));have I:=NX e.2 (h e jS);rw[aec,aec,ajg,aj,arc];show 6+Wd e.2+ZX (es.map (VD a))<=_;omega
theorem yh:∀{l:List Nat} {x:Nat},x∈l->x<=l.sum
 |[],x,h=>by cases h
 |y::l,x,h=>by
  rw[ajg];rcases abf.1 h with rfl|h;·omega
  ·have:=yh h;omega
theorem pM{l l':List Nat}(h:l.Perm l'):l.sum=l'.sum:=by
 induction h with
 |nil=>rfl
 |cons x _ D=>rw[ajg,ajg,D]
 |swap x y l=>rw[ajg,ajg,ajg,ajg];omega
 |trans _ _ C A=>rw[C,A]
section
variable {l:List Z4.Z2} {dn:List (ByteArray×List Z3)} {x:Bool} {d a m:Nat}
theorem Hl:∀dn:List (ByteArray×List Z3),((Xx x d l dn a).map (λe=>e.2.length)).sum<=(dn.map (λg=>g.2.length)).sum
 |[]=>aR _
 |g::dn=>by
  have A:=Hl dn;unfold Xx at A ⊢;rw[acd,acf,List.sum_append,aec,ajg];have:((Y6 x d (YO l g.1).num g.2 a).map (λe=>e.2.length)).sum<=g.2.length:=by
   have h:=yi a d g.2;unfold Y6;split;·exact abc _
   ·split;·exact abc _
    ·split;·exact abc _
     ·simpa using h
  omega
theorem yg:∀dn:List (ByteArray×List Z3),(∀g∈dn,g.2≠[])->dn.length<=(dn.map (λg=>g.2.length)).sum
 |[],_=>aR _
 |g::dn,h=>by have C:=yg dn (λq A=>h q (by simp[A]));have D:=ayc.2 (h g jS);rw[aj,aec,ajg];omega
theorem Aq{C M:Nat}{es:List Xo}{s0 s1:List (Nat×Nat)}(hp:es.Perm (Xx x d l dn a))(I:∀g∈dn,∀r∈g.2,r.1.length<=C)(A:(dn.map (λg=>g.2.length)).sum<=M)(hl:dn.length<=M)(Z:s0.length<=M)(Y:s1.length<=M):ZX (ZZ a es s0 s1)<=18+17*M+M*(8*C+4):=by
 have e1:=Mx (C:=C) (a:=a) es (λe J r hr=>by obtain⟨g,D,_,_,_,rfl⟩:=V4.1 (hp.mem_iff.1 J);obtain⟨q,T,U,_⟩:=Ar hr;exact aO U (I g D q T))
 have e2:es.length<=M:=by rw[hp.length_eq];exact aO (QV x d l dn a) hl
 have e3:(es.map (λe=>e.2.length)).sum<=M:=by rw[pM (hp.map _)];exact aO (Hl dn) A
 have e4:=aue (8*C+4) e3;have e5:=Pz (es.map (VD a)) (if a=2 then [(102,.subs s0),(117,.subs s1)] else []);have e6:ZX (if a=2 then [(102,ZM.subs s0),(117,ZM.subs s1)] else [])<=18+5*s0.length+5*s1.length:=by
  split;·show 6+(5*s0.length+2)+(6+(5*s1.length+2)+2)<=_;omega
  ·show 2<=_;omega
 unfold ZZ;omega
theorem uW{es:List Xo}{s0 s1:List (Nat×Nat)}(I:Z4.Zt l)(A:MD l dn)(hn:(dn.map (·.1)).Nodup)(ha:a<5)(hp:es.Perm (Xx x d l dn a)):((ZZ a es s0 s1).map (·.1)).Nodup:=by
 have D:(es.map (·.1)).Nodup:=aeg.2 (hp.symm.pairwise (vH I A hn ha) (λh e=>h e.symm));unfold ZZ;rw[acf,akb];have e:es.map ((·.1)∘VD a)=es.map (·.1):=rfl;rw[e];split
 ·rename_i Y;refine aub.2 ⟨D,jS,λu hu v hv C=> ?_⟩;subst C;obtain⟨q,T,rfl⟩:=ai.1 hu;obtain⟨g,J,U,_,_,rfl⟩:=V4.1 (hp.mem_iff.1 T);obtain⟨i,hi,e1,_⟩:=Kb (A g J);have hm:=(Z4.fV (I i hi)).2.2.2.1;rw[<-e1] at hm;unfold Z4.PG at hm;subst Y;have e2:(YO l g.1).num 2=(YO l g.1).n2:=rfl;have e3:whole 2 ((YO l g.1).num 2).toNat=((YO l g.1).num 2).toNat:=rfl;rw[e2] at U;simp only[aec,apb,abf,ajf,atg] at hv;rw[e3,e2] at hv;rcases hv with hv|hv;·exact hm (.inl jO)
  ·exact hm (.inr jO)
 ·simpa using D
end
structure Vb(pr:List NR)(l:List Z4.Z2)(d:Nat)(x:Bool)(dn:List (ByteArray×List Z3))(es:Nat->List Xo)(s0 s1:List (Nat×Nat)):Prop where
 uV:DnF pr d dn
 tab:Z4.Zt l
 all:MD l dn
 kq:∀a,a<5->(es a).Perm (Xx x d l dn a)
 m0:s0.Perm (WR l dn 0)
 m1:s1.Perm (WR l dn 1)
 r0:SE s0
 r1:SE s1
 d32:d<4294967296
section
variable {pr:List NR} {l:List Z4.Z2} {d:Nat} {x:Bool} {dn:List (ByteArray×List Z3)} {es:Nat->List Xo} {s0 s1:List (Nat×Nat)}
theorem Vb.jh(h:Vb pr l d x dn es s0 s1):dn.length<=pr.length:=aO (yg dn h.uV.ne) h.uV.cnt
theorem Vb.cost{C:Nat}(h:Vb pr l d x dn es s0 s1)(J:∀q∈pr,q.cs.length<=C){a:Nat}(ha:a<5):ZX (ZZ a (es a) s0 s1)<=18+17*pr.length+pr.length*(8*C+4):=by
 refine Aq (h.kq a ha) (λg D r hr=> ?_) h.uV.cnt h.jh ?_ ?_;·obtain⟨q,I,A⟩:=h.uV.cs g D r hr;exact aO A (J q I)
 ·rw[h.m0.length_eq];exact aO (Vx l dn 0) h.jh
 ·rw[h.m1.length_eq];exact aO (Vx l dn 1) h.jh
theorem Lj(h:Vb pr l d x dn es s0 s1){m:Nat}:∀p∈WR l dn m,p.1<4294967296/\p.2<4294967296:=λp hp=>by
 unfold WR at hp;obtain⟨g,A,hp⟩:=aqf.1 hp;obtain⟨_,rfl⟩:=Rp hp;have D:=(QX h.tab g.1).2.2.2.2;have C:=(QX h.tab g.1).2.2.2.1;refine⟨by show(YO l g.1).sub.toNat<_;omega,?_⟩;cases hr:g.2[0]? with
 |none=>show(0:Nat)<_;decide
 |some r=>exact h.uV.code g A r (af hr)
theorem pL{l:List Z4.Z2}(A:Z4.Zt l)(nm:ByteArray){a:Nat}(ha:a<5)(C:0<=(YO l nm).num a):whole a ((YO l nm).num a).toNat<4294967296:=by
 have:=(QX A nm).1 a ha;unfold whole V1;split<;>omega
theorem Hj(h:Vb pr l d x dn es s0 s1){a:Nat}(ha:a<5):∀e∈es a,e.1<4294967296/\Pc e.2:=λe I=>by
 obtain⟨g,A,D,_,_,rfl⟩:=V4.1 ((h.kq a ha).mem_iff.1 I);refine⟨pL h.tab g.1 ha D,λr hr=>⟨?_,?_⟩⟩;·obtain⟨q,C,_,e2⟩:=Ar hr;rw[e2];exact h.uV.code g A q C
 ·exact(KA (h.uV.rules g A)).2 r hr
theorem F3{lo:Nat}{W:World}{v:Value}{l:List Xo}(h:RA lo W v l):WE W.heap.size W v l:=by
 obtain⟨ds,rfl,A⟩:=h;obtain⟨a,c,rfl⟩:=Z1 A.row;refine⟨a,c,by rw[aad],λi e C=> ?_⟩;rw[ada] at C;obtain⟨y,hy,rfl⟩:=Option.map_eq_some_iff.1 C;obtain⟨g,e1,_,hc⟩:=Ye Jq 2 (λ_=>rfl) rfl A.row hy;have c0:=hc 0 jD;have c1:=hc 1 jD;refine⟨g,0,.slice y.a y.m y.c,e1,afe _ _ c0,by rw[aca];exact c0,by rw[aca];exact c1,(A.rs y (af hy)).rules⟩
theorem Hi{lo:Nat}{W:World}{v:Value}{l:List (Nat×Nat)}(h:MG lo W v l):VK W.heap.size W v l:=by
 have A:W.ownsRow lo Ot 2 v l.length (l.flatMap encS):=h;obtain⟨a,c,rfl⟩:=Z1 A;refine⟨a,c,rfl,λi e C=> ?_⟩;obtain⟨g,e1,_,hc⟩:=Ye encS 2 (λ_=>rfl) rfl A C;have c0:=hc 0 jD;have c1:=hc 1 jD;exact⟨g,0,e1,afe _ _ c0,by rw[aca];exact c0,by rw[aca];exact c1⟩
theorem Vb.ok{C:Nat}(h:Vb pr l d x dn es s0 s1)(hL:pr.length<=4000)(Z:∀q∈pr,q.cs.length<=C)(hCm:C<=1000000){N:Nat}{W:World}{q:Ya}(hd:q.d=d)(hE:∀a,a<5->WE N W (VO (q.e a)) (es a))(D:VK N W (VO q.s0) s0)(I:VK N W (VO q.s1) s1):Uq N W q es s0 s1:=by
 have U:=h.jh;have A:∀a,a<5->(es a).length<=4000:=λa ha=>by rw[(h.kq a ha).length_eq];have:=QV x d l dn a;omega
 refine⟨by rw[hd];exact h.d32,hE,λa ha e T=> ?_,A,D,I,⟨?_,h.r0,λp hp=>(Lj h p (h.m0.mem_iff.1 hp)).2⟩,⟨?_,h.r1,λp hp=>(Lj h p (h.m1.mem_iff.1 hp)).2⟩,λa ha=>uW h.tab h.all h.uV.nodup ha (h.kq a ha)⟩
 ·obtain⟨Y,h2⟩:=Hj h ha e T;obtain⟨g,J,g0,_,_,rfl⟩:=V4.1 ((h.kq a ha).mem_iff.1 T);refine⟨Y,h2,?_,λr hr=> ?_⟩;·have e1:=yi a d g.2;have e2:g.2.length<=(dn.map (λg=>g.2.length)).sum:=yh (ai.2 ⟨g,J,rfl⟩);have e3:=h.uV.cnt;show(Yu a d g.2).length<=_;omega
  ·obtain⟨q,hq,e2,_⟩:=Ar hr;obtain⟨y,hy,e3⟩:=h.uV.cs g J q hq;have:=Z y hy;omega
 ·rw[h.m0.length_eq];have:=Vx l dn 0;omega
 ·rw[h.m1.length_eq];have:=Vx l dn 1;omega
theorem NW(h:Vb pr l d x dn es s0 s1){a:Nat}(ha:a<5){ps:List (Nat×ZM)}(hp:ps.Perm (ZZ a (es a) s0 s1)):Ul ps:=λp C=>by
 rcases Gb.1 (hp.mem_iff.1 C) with⟨e,A,rfl⟩|⟨_,rfl|rfl⟩;·exact Hj h ha e A
 ·exact⟨(by show(102:Nat)<_;decide),λp hp=>Lj h p (h.m0.mem_iff.1 hp)⟩
 ·exact⟨(by show(117:Nat)<_;decide),λp hp=>Lj h p (h.m1.mem_iff.1 hp)⟩
theorem Mw{p:YH}(h:Vb pr l d x dn es s0 s1)(hd:p.d=d)(hx:p.Vy=x)(D:p.p0.Perm (ZZ 0 (es 0) s0 s1)/\p.p0.Pairwise (λx y=>x.1<y.1))(A:(x=true->p.p1.Perm (ZZ 1 (es 1) s0 s1))/\(x=false->p.p1=[])/\p.p1.Pairwise (λx y=>x.1<y.1))(C:p.p2.Perm (ZZ 2 (es 2) s0 s1)/\p.p2.Pairwise (λx y=>x.1<y.1))(I:p.p3.Perm (ZZ 3 (es 3) s0 s1)/\p.p3.Pairwise (λx y=>x.1<y.1))(J:p.p4.Perm (ZZ 4 (es 4) s0 s1)/\p.p4.Pairwise (λx y=>x.1<y.1)):
 Rz p (gsT l dn) s0 s1/\p.B:=by
 subst hd hx;have at_:∀{a:Nat} {ps:List (Nat×ZM)},a<5->ps.Perm (ZZ a (es a) s0 s1)->ps.Pairwise (λx y=>x.1<y.1)->UG p.Vy p.d (gsT l dn) s0 s1 a ps:=λ{a ps} ha A C=>qA (h.kq a ha) A C h.uV.rules h.r0 h.r1
 have U:WJ p.p1/\Ul p.p1:=by
  cases hx:p.Vy with
  |true=>exact⟨(at_ jD (A.1 hx) A.2.2).1,NW h jD (A.1 hx)⟩
  |false=>
   rw[A.2.1 hx];exact⟨⟨List.Pairwise.nil,λq T=>by cases T⟩,λq T=>by cases T⟩
 refine⟨⟨at_ jD D.1 D.2,λhx=>at_ jD (A.1 hx) A.2.2,U.1,at_ jD C.1 C.2,at_ jD I.1 I.2,at_ jD J.1 J.2,λG Z=> ?_⟩,NW h jD D.1,U.2,NW h jD C.1,NW h jD I.1,NW h jD J.1⟩;obtain⟨g,Y,rfl⟩:=ai.1 Z;exact h.uV.rules g Y
end
theorem pK{pr:List NR}{gs:List UH}{ss:List ByteArray}{k n:Int}{rn:List NR}(J:ss.Perm (gs.map (·.nm)))(Y:gs.Pairwise (λx y=>x.nm≠y.nm))(A:Tt XR pr gs)(U:Sn pr gs)(T:ss.flatMap (TI k n gs)=rn)
 (hr:∀r∈pr,r.cs.length<=1000/\∀c∈r.cs,c.right) (ha:∀r∈pr,X7.Zc r.k r.n=true):rn.length<=pr.length/\∀q∈rn,X7.Zc q.k q.n=true/\q.cs.length<=1000/\∀c∈q.cs,c.m<Yf/\c.v<Yf:=by
 subst T;have I:ss.Nodup:=J.nodup_iff.2 (aeg.2 Y);refine⟨?_,λq D=> ?_⟩;·rw[List.length_flatMap];refine aO (A0 _ (λnm=>(ofName nm pr).length) ss (λnm _=> ?_)) (O2 ss pr I);have h1:=DB k n gs nm;have h2:=Il (A nm);rw[aad,aad] at h2;omega
 ·obtain⟨nm,_,D⟩:=aqf.1 D;obtain⟨_,q2,C,_,h3,h4,h5⟩:=Ry U (Tr D);have Z:=ha q2 C;rw[h3,h4] at Z;refine⟨Z,aO h5 (hr q2 C).1,λc hc=> ?_⟩
  have hN:Us ((X1 gs nm).map QW):=DW (A nm) (λr h=>by obtain⟨y,hy,rfl⟩:=ai.1 h;exact(hr y (Rx hy)).2)
  have:=(hN (QW q) (List.mem_map_of_mem (Tr D)) c hc).1;exact⟨this.2.2.2.1,this.2.2.2.2⟩
theorem He{α:Type}{l:List α}{i j:Nat}{q:α}(A:i<=j)(C:l[j]? =some q):(l.drop i).take (j+1-i)=(l.drop i).take (j-i)++[q]:=by
 rw[show j+1-i=(j-i)+1 from jO,afb,awb,show i+(j-i)=j from jO,C];rfl
theorem take_split{α:Type}{l:List α}{i j:Nat}(A:i<=j):l.take j=l.take i++(l.drop i).take (j-i):=by
 rw[<-List.take_add]
 congr 1
 omega
section
variable {lo P R:Nat} {W W':World} {d:Nat} {x:Bool} {ve vs:Nat->Value} {E:Nat->List Xo} {S:Nat->List (Nat×Nat)}
theorem RA.uU{v:Value}{l:List Xo}{B t:Nat}{cs:Array Value}(h:RA lo W v l)(A:Z7 W B t cs)(D:Oy≠t)(I:TQ≠t)(T:TC≠t)(j:Nat)(u:Value):RA lo (W.setCell ⟨B,j,none⟩ u) v l:=by
 obtain⟨es,e,C,J⟩:=h;exact⟨es,e,ZV C A D j u,λy hy=>(J y hy).set A I T j u⟩
theorem MG.uU{v:Value}{l:List (Nat×Nat)}{B t:Nat}{cs:Array Value}(h:MG lo W v l)(D:Z7 W B t cs)(A:Ot≠t)(j:Nat)(u:Value):MG lo (W.setCell ⟨B,j,none⟩ u) v l:=by
 have C:W.ownsRow lo Ot 2 v l.length (l.flatMap encS):=h;exact ZV C D A j u
structure Su(lo:Nat)(W:World)(ve vs:Nat->Value)(E:Nat->List Xo)(S:Nat->List (Nat×Nat)):Prop where
 O3:∀a,a<5->RA lo W (ve a) (E a)
 subs:∀m,m<2->MG lo W (vs m) (S m)
theorem Su.uU{B t:Nat}{cs:Array Value}(h:Su lo W ve vs E S)(A:Z7 W B t cs)(D:Oy≠t)(I:TQ≠t)(J:TC≠t)(C:Ot≠t)(j:Nat)(u:Value):Su lo (W.setCell ⟨B,j,none⟩ u) ve vs E S:=⟨λa ha=>(h.O3 a ha).uU A D I J j u,λm hm=>(h.subs m hm).uU A C j u⟩
theorem Su.set{B:Nat}{cs:Array Value}(h:Su lo W ve vs E S)(A:Z7 W B Xy cs)(j:Nat)(u:Value):Su lo (W.setCell ⟨B,j,none⟩ u) ve vs E S:=h.uU A jD jD jD jD j u
theorem Su.pJ{c0 c1 c2 c3 c4 c5 c6 c7 c8:Value}(h:Su lo W ve vs E S)(hb:Z7 W R Xy #[c0,c1,c2,c3,c4,c5,c6,c7,c8])(J T I Y D U C A d8:Value):Su lo (((((((((W.setCell ⟨R,0,none⟩ J).setCell ⟨R,1,none⟩ T).setCell ⟨R,2,none⟩ I).setCell ⟨R,3,none⟩ Y).setCell ⟨R,4,none⟩ D).setCell ⟨R,5,none⟩ U).setCell ⟨R,6,none⟩ C).setCell ⟨R,7,none⟩ A).setCell ⟨R,8,none⟩ d8) ve vs E S:=by
 have b0:=hb.set 0 J;have b1:=b0.set 1 T;have b2:=b1.set 2 I;have b3:=b2.set 3 Y;have b4:=b3.set 4 D;have Z:=b4.set 5 U;have b6:=Z.set 6 C;have b7:=b6.set 7 A;exact((((((((h.set hb 0 J).set b0 1 T).set b1 2 I).set b2 3 Y).set b3 4 D).set b4 5 U).set Z 6 C).set b6 7 A).set b7 8 d8
theorem YA.rows(h:YA lo P W d x ve vs E S):Su lo W ve vs E S:=⟨h.O3,h.subs⟩
theorem YA.am5(h:YA lo P W d x ve vs E S):∃q:Ya,q.d=d/\q.x=x/\Vf d x ve vs=ZA q/\(∀a,a<5->VO (q.e a)=ve a)/\VO q.s0=vs 0/\VO q.s1=vs 1:=by
 have A:∀a,a<5->∃t:Option Addr×Nat×Nat,VO t=ve a:=λa ha=>by obtain⟨es,_,Y⟩:=h.O3 a ha;obtain⟨b,c,e⟩:=Z1 Y.row;exact⟨(b,es.length,c),e.symm⟩
 have hs:∀m,m<2->∃t:Option Addr×Nat×Nat,VO t=vs m:=λm hm=>by have h':W.ownsRow lo Ot 2 (vs m) (S m).length ((S m).flatMap encS):=h.subs m hm;obtain⟨b,c,e⟩:=Z1 h';exact⟨(b,(S m).length,c),e.symm⟩
 obtain⟨U,e0⟩:=A 0 jD;obtain⟨t1,e1⟩:=A 1 jD;obtain⟨t2,e2⟩:=A 2 jD;obtain⟨I,e3⟩:=A 3 jD;obtain⟨Z,e4⟩:=A 4 jD;obtain⟨J,C⟩:=hs 0 jD;obtain⟨T,D⟩:=hs 1 jD;refine⟨⟨d,x,U,t1,t2,I,Z,J,T⟩,rfl,rfl,?_,λa ha=> ?_,C,D⟩;·unfold Vf ZA;rw[e0,e1,e2,e3,e4,C,D]
 ·rcases (show a=0\/a=1\/a=2\/a=3\/a=4 from jO) with rfl|rfl|rfl|rfl|rfl<;>assumption
theorem YA.am6(h:YA lo P W d x ve vs E S){a:Nat}(ha:a<5){es es':List LJ}(he:es.map (λy=>(y.n,y.rs))=E a)(J:kz lo W (ve a) es)(hp:es'.Perm es)(hO:W'.ownsRow lo Oy 2 (ve a) es.length (es'.flatMap Jq))(hb:Below lo W W')(Z:W.heap.size<=W'.heap.size)(hk:∀j o,W.heap[j]? =some o->(ve a).ownBlock≠some j->W'.heap[j]? =some o):
 YA lo P W' d x ve vs (Og E a (es'.map (λy=>(y.n,y.rs)))) S/\Kept lo P W W':=by
 have D:W.grownBy W' (ve a).ownBlock:=⟨hb.os,hb.tape,hb.output,Z,λk T hne=>by have e:=aob T;rw[e];exact hk k _ e (λe2=>hne e2.symm)⟩
 have U:Kept lo P W W':=Kept.grown h.lt J.row (.inl rfl) D;have hP':Z7 W' P Xy (Vf d x ve vs):=h.blk.kept D (λe=>Ve J.row h.blk jD e.symm);refine⟨⟨hP',h.lw,λb C=> ?_,λm hm=> ?_,h.mN,h.mM⟩,U⟩
 ·by_cases e:b=a;·subst e;rw[XV];refine⟨es',rfl,?_,λy hy=>U.Oh (J.rs y (hp.mem_iff.1 hy))⟩;rw[hp.length_eq];exact hO
  ·rw[X9 _ _ e];obtain⟨Y,e2,I,h2⟩:=h.O3 b C;refine⟨Y,e2,I.kept D ?_,λy hy=>U.Oh (h2 y hy)⟩;cases A:(ve a).ownBlock with
   |none=>cases (ve b).ownBlock<;>simp
   |some k=>exact .inr (h.mN a b ha C (ana e) k A)
 ·have I:W.ownsRow lo Ot 2 (vs m) (S m).length ((S m).flatMap encS):=h.subs m hm;refine World.ownsRow.kept I D ?_;cases A:(ve a).ownBlock with
  |none=>cases (vs m).ownBlock<;>simp
  |some k=>
   obtain⟨cs,hc⟩:=Xq J.row A;exact .inr (Ve I hc jD)
theorem YA.am7(h:YA lo P W d x ve vs E S){m:Nat}(hm:m<2){s':List (Nat×Nat)}(hp:s'.Perm (S m))(hO:W'.ownsRow lo Ot 2 (vs m) (S m).length (s'.flatMap encS))(hb:Below lo W W')(U:W.heap.size<=W'.heap.size)(hk:∀j o,W.heap[j]? =some o->(vs m).ownBlock≠some j->W'.heap[j]? =some o):
 YA lo P W' d x ve vs E (Og S m s')/\Kept lo P W W':=by
 have D:W.grownBy W' (vs m).ownBlock:=⟨hb.os,hb.tape,hb.output,U,λk J Z=>by have e:=aob J;rw[e];exact hk k _ e (λe2=>Z e2.symm)⟩
 have hS:W.ownsRow lo Ot 2 (vs m) (S m).length ((S m).flatMap encS):=h.subs m hm;have hK:Kept lo P W W':=Kept.grown h.lt hS (.inr rfl) D;have Y:Z7 W' P Xy (Vf d x ve vs):=h.blk.kept D (λe=>Ve hS h.blk jD e.symm);refine⟨⟨Y,h.lw,λb A=> ?_,λb A=> ?_,h.mN,h.mM⟩,hK⟩
 ·obtain⟨T,e2,I,h2⟩:=h.O3 b A;refine⟨T,e2,I.kept D ?_,λy hy=>hK.Oh (h2 y hy)⟩;cases C:(vs m).ownBlock with
  |none=>cases (ve b).ownBlock<;>simp
  |some k=>
   obtain⟨cs,hc⟩:=Xq hS C;exact .inr (Ve I hc jD)
 ·by_cases e:b=m;·subst e;rw[XV];show World.ownsRow _ _ _ _ _ _ _;rw[hp.length_eq];exact hO
  ·rw[X9 _ _ e];have I:W.ownsRow lo Ot 2 (vs b) (S b).length ((S b).flatMap encS):=h.subs b A;refine World.ownsRow.kept I D ?_;cases C:(vs m).ownBlock with
   |none=>cases (vs b).ownBlock<;>simp
   |some k=>exact .inr (h.mM m b hm A (ana e) k C)
end
end Go.Proofs.YtclgigmgbebhgaaGreatDoor
