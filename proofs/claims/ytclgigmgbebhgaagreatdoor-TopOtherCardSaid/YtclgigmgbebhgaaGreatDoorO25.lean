/- TopOther: part 25: TopGet TopVmP. -/
import Derived.BigRegionIn
import Derived.Sort.CutIn
import Derived.Test.YtclgigmgbebhgaaGreatDoorO24
set_option linter.unusedVariables false
set_option linter.unusedSimpArgs false
set_option maxRecDepth 100000
set_option maxHeartbeats 16000000
namespace Go.Proofs.YtclgigmgbebhgaaGreatDoor
open Tryz
open Go Go.Proofs Go.RowKit Go.Shelf
variable {bs:List Nat}
attribute [local go_sem] atd
def TP(bs:List Nat)(pre:List Nat):Nat:=pre.foldl (λn j=>n*256+bs.getD j 0) 0
theorem vz(bs A:List Nat)(j:Nat):TP bs (A++[j])=TP bs A*256+bs.getD j 0:=by
 unfold TP;rw[List.foldl_append];rfl
theorem jE{bs:List Nat}(h:∀x∈bs,x<256)(j:Nat):bs.getD j 0<256:=by
 rw[afg];cases e:bs[j]? with
 |none=>exact(by decide:(0:Nat)<256)
 |some x=>exact h x (af e)
theorem yu{bs:List Nat}(h:∀x∈bs,x<256):∀(A:List Nat) (a:Nat),A.foldl (λn j=>n*256+bs.getD j 0) a<(a+1)*256 ^ A.length
 |[],a=>jS
 |j::A,a=>by have C:=yu h A (a*256+bs.getD j 0);have:=jE h j;rw[List.foldl_cons,aj,Nat.pow_succ];refine adf C ?_;rw[Nat.mul_comm (256 ^ A.length),<-Nat.mul_assoc];exact aue _ jO
theorem jC (h:∀x∈bs,x<256)(A:List Nat):TP bs A<256 ^ A.length:=by
 have:=yu h A 0;unfold TP;omega
theorem aa6(bs:List Nat)(at_:Nat):TP bs (Yq at_ 2)=bs.getD at_ 0+256*bs.getD (at_+1) 0:=by
 have e:Yq at_ 2=[at_+1,at_]:=by unfold Yq;simp[ame]
 rw[e];unfold TP;simp only[List.foldl_cons,List.foldl_nil];omega
theorem qg(bs:List Nat)(at_:Nat):TP bs (Yq at_ 4)=Yy bs at_:=by
 have e:Yq at_ 4=[at_+3,at_+2,at_+1,at_]:=by unfold Yq;simp[ame]
 rw[e];unfold TP Yy;simp only[List.foldl_cons,List.foldl_nil];omega
theorem jB{a b:Nat}(hb:b<256):a*256 ||| b=a*256+b:=by
 have:=Nat.two_pow_add_eq_or_of_lt (i:=8) (b:=b) hb a;rw[show(2:Nat) ^ 8*a=a*256 from jO] at this;exact this.symm
theorem Dm{α:Type}{pre l:List α}{x:α}(h:pre++[x] <+: l):l[pre.length]? =some x:=by
 obtain⟨r,rfl⟩:=h;rw[aba,aae (aR _),alb];rfl
theorem F9{N L c at_ k:Nat}{ad:Option Addr} (hk:k=2\/k=4)(hL:bs.length=L)(hle:at_+k<=L)(Xl:L<=1000000)(Z:∀x∈bs,x<256)(w:World)(hm:YQ N w ad bs)(hN:N<=w.heap.size):
 Calls prog 63 #[.slice ad L c,.int .i64 at_,.int .i64 k,.bool false] w λe w'=>e=.returned (.tuple #[.int .u64 (TP bs (Yq at_ k):Int),.int .i64 0])/\Below w.heap.size w w':=by
 have HL:=aT hL;have jz:=aT Z;have HM:=aT hm;have hk4:k<=4:=jO;have HK:=aT hk;have J:=aT ((aH w.heap.size w).alloc (aR _) (.cells #[.slice ad L c] 42));have U:=aT (Z7.new w 42 #[.slice ad L c]);clear hL Z hm hk;refine(aja (n:=6)).1 ?_;refine ayd func63 rfl trivial ?_ rfl;simp only[ntmps63,aib,aj,acg,Nat.reduceAdd,Nat.reduceSub,ald,ale,anf,amc,age,ahc]
 gi_upto_region 1 with fail
 generalize w.alloc (.cells #[.slice ad L c] 42)=w1 at*;have d0:=U.out.e0;have hs1:=J.out.size
 gi_wp2_with fail
 refine⟨trivial,?_⟩;refine(aja.2 (vA (ad:=ad) (L:=L) (c:=c) HK.out hle Xl w1)).mono ?_;rintro e w2 ⟨rfl,hb⟩;have XA:=aT (J.out.trans (hb.mono J.out.size));have kX:=aT (U.out.below hb U.out.lt);have Vj:=aT (XA.out.alloc XA.out.size (.cells #[.int .u64 0] 23));have HD3:=aT (kX.out.alloc (.cells #[.int .u64 0] 23));have I:=aT (Z7.new w2 23 #[.int .u64 0]);have RQ:w.heap.size<w2.heap.size:=kX.out.lt;clear hb J U d0
 gi_upto_region 5 with fail
 generalize w2.alloc (.cells #[.int .u64 0] 23)=w3 at*;generalize w2.heap.size=Bn at*;have aW:Bn<w3.heap.size:=I.out.lt
 gi_wp2_with fail
 refine⟨trivial,?_⟩;refine(aja.2 (AG at_ k w3)).mono ?_;rintro e Y ⟨rfl,D⟩;have bA:Hid (Z7 Y w3.heap.size 3 #[.int .i64 at_]):=by rw[D];exact((Z7.new w3 _ _).alloc _).alloc _
 have BB:Hid (Z7 Y (w3.heap.size+1) 3 #[.int .i64 k]):=by rw[D];have:=(Z7.new (w3.alloc (.cells #[.int .i64 at_] 3)) 3 #[.int .i64 k]).alloc (.cells #[.bool false] 4);rwa [ah] at this
 have Es:Hid (Z7 Y (w3.heap.size+1+1) 4 #[.bool false]):=by rw[D];have:=Z7.new ((w3.alloc (.cells #[.int .i64 at_] 3)).alloc (.cells #[.int .i64 k] 3)) 4 #[.bool false];rwa [ah,ah] at this
 have T:Hid (Below w3.heap.size w3 Y):=by rw[D];exact(((aH _ w3).alloc (aR _) _).alloc jS _).alloc (by simp;omega) _
 have KO:=aT (Vj.out.trans (T.out.mono Vj.out.size));have HD4:=aT (HD3.out.below T.out HD3.out.lt);have HE4:=aT (I.out.below T.out I.out.lt);have hs4:w3.heap.size+1+1<Y.heap.size:=Es.out.lt;clear D XA Vj kX HD3 I T;generalize w3.heap.size=B3 at*
 gi_wp2_with fail
 refine Xj rfl jD (gf:=186) (lb:=#[.pointer (some ⟨B3+1,0,none⟩),.pointer (some ⟨B3,0,none⟩),.pointer (some ⟨B3+1+1,0,none⟩)]) rfl trivial (enters_of func186 jK rfl)
  (AE Fence.wide 5 trivial rfl jO Y bA.out BB.out Es.out jO) (λr h=>h.elim) (λr h=>jO) (aH _ _) (λ_=>rfl)
  (λC W=>(Z7 W Bn 23 #[.int .u64 (TP bs C:Int)]/\Z7 W w.heap.size 42 #[.slice ad L c])/\Below w.heap.size w W)
  (λ_ _ _=>False)
  (YP.and (YP.and (XP (λh=>h.elim (λe=>jO) id) (λC=>.cells #[.int .u64 (TP bs C:Int)] 23 (0,0))) (XP (λh=>h.elim (λe=>jO) id) (λ_=>.cells #[.slice ad L c] 42 (0,0)))) (Jk (aR _) (λr h=>h.elim (λe=>by have:=KO.out.size;omega) (λe=>e.elim))))
  (λc _ _ _ _ h _ _=>h)
  ⟨⟨HE4.out,HD4.out⟩,KO.out⟩
  (λx a' W=>a'={tmps:=#[.slice ad L c,.int .i64 at_,.int .i64 k,.bool false,.pointer (some ⟨w.heap.size,0,none⟩),undef,undef,undef,.int .u64 0,.int .i64 0,.int .i64 0,.pointer (some ⟨Bn,0,none⟩),.int .i64 x,.slice ad L c,.int .i64 at_,.int .i64 k,.int .i64 0,.int .i64 0,.bool false,undef,.int .i64 at_,.int .i64 k,.bool false,.func (.func 186) #[] #[.pointer (some ⟨B3+1,0,none⟩),.pointer (some ⟨B3,0,none⟩),.pointer (some ⟨B3+1+1,0,none⟩)],.int .i64 x,undef,undef,undef,undef,undef,undef,undef,undef,undef],defers:=[]})
  (λ_ _ _ _ _ _ h _ _=>h)
  ?assign ?body ?done ?stop
 case assign=>
  rintro l C x W K hI hsp hsz hK
  gi_wp2
  exact hK _ _ (ZT.refl _ _) hI rfl
 case body=>
  rintro l C x a' W hsz hsp ⟨⟨c0,c1⟩,hB⟩ rfl;have hx:=Dm hsp;have hpl:C.length<k:=by have:=(au.1 hx).1;rwa [MB] at this
  have hxv:x=at_+k-1-C.length:=by rw[J5 hpl] at hx;exact(ax hx).symm
  have hxL:x<L:=jO;obtain⟨b,hb⟩:∃b,bs[x]? =some b:=⟨_,aM (by rw[HL.out];exact hxL)⟩;obtain⟨g,off,rfl,U7,cb⟩:=(HM.out.below hB hN) x b hb;have al2:=jz.out b (af hb);have al3:=jC jz.out C;have aF2:TP bs C<16777216:=adf al3 (aO (Nat.pow_le_pow_right jD (show C.length<=3 from jO)) jD);have vy:TP bs (C++[x])=TP bs C*256+b:=by rw[vz,afg,hb];rfl
  have td:=aT vy;have HB:=aT hB;have Fv:=aT c0;have zl:=aT c1;have k0:=c0.cell 0;have f0:=c0.frozen 0;have k1:=c1.e0;simp only[ak,aL] at k0;generalize TP bs C=A at*;have w1:IntKind.u64.wrap ((A:Int)*256)=(A:Int)*256:=ava _ jO;have w2:IntKind.u64.wrap (b:Int)=(b:Int):=ava _ jO;have w3:bits .or .u64 ((A:Int)*256) (b:Int)=((A*256+b:Nat):Int):=by rw[show(A:Int)*256=((A*256:Nat):Int) from jO,bits_or_u64_nat _ _ jO jO,jB al2]
  have n1:¬g=Bn:=jO;have n2:¬Bn=g:=jO;have n3:¬w.heap.size=Bn:=jO;have n4:¬Bn=w.heap.size:=jO;generalize A*256+b=A2 at*;have x0:=jZ x;have x1:(x:Int)<(L:Int):=jO;clear hxv hx hsp hb al3 vy hB c0 c1;have Vm:Hid (ZT (Y3 (λ_ r=>r=B3\/r=B3+1\/r=B3+1+1) Y.heap.size) W (W.setCell ⟨Bn,0,none⟩ (.int .u64 A2)).drew/\(Z7 (W.setCell ⟨Bn,0,none⟩ (.int .u64 A2)).drew Bn 23 #[.int .u64 (TP bs (C++[x]):Int)]/\Z7 (W.setCell ⟨Bn,0,none⟩ (.int .u64 A2)).drew w.heap.size 42 #[.slice (some ⟨g,off,none⟩) L c])/\Below w.heap.size w (W.setCell ⟨Bn,0,none⟩ (.int .u64 A2)).drew):=by rw[td.out];refine⟨show ZT _ _ (W.setCell ⟨Bn,0,none⟩ (.int .u64 A2)) from ZT.setCell _ _ _ (λhk=> ?_),⟨Fv.out.set 0 _,zl.out.other (B':=Bn) jO 0 _⟩,(HB.out.setCell (p:=⟨Bn,0,none⟩) (by simp;omega) _).drew⟩;rcases hk with hk|hk|hk|hk|hk<;>simp at hk<;>omega
  gi_wp2_with fail
  gi_region
  all_goals
   gi_wp2
   exact Vm.out
 case done=>
  rintro xs W rfl ⟨⟨c0,c1⟩,hB⟩ hK;have k0:=c0.e0
  gi_wp2
  refine⟨jS,.inl ⟨_,_,rfl,ayb hK,?_⟩⟩;refine⟨.tuple #[.int .u64 (TP bs (Yq at_ k):Int),.int .i64 0],?_,rfl,hB.trans (belowK_b (w:=w) (aR _) _ Y.heap.size _ (.deferred none) (by have:=KO.out.size;omega) hK rfl rfl)⟩;simp[results,Tryz.f63,go_sem]
 case stop=>
  rintro c C W hS h hK;exact h.elim
end Go.Proofs.YtclgigmgbebhgaaGreatDoor
namespace Go.Proofs.YtclgigmgbebhgaaGreatDoor
open Tryz
open Go Go.Proofs
theorem Hu{w:Nat->Nat}{out:List ZN}{p a v:Nat}(h:Zi w (out.drop p) a=some v):∃i,out[p]? =some i/\
 ((i.code=0x20/\Zi w (out.drop (p+1)) (w i.k)=some v)\/(i.code=0x54/\Zi w (out.drop (p+1)) (a &&& i.k)=some v)\/(i.code=0x05/\Zi w (out.drop (p+1+i.k)) a=some v)\/(i.code=0x06/\i.k=v)\/
   (YV i.code=true/\Zi w (out.drop (p+1+(if YI i.code a i.k=true then i.jt else i.jf))) a=some v)):=by
 cases hd:out.drop p with
 |nil=>rw[hd,I0] at h;cases h
 |cons i rest=>
  have hi:out[p]? =some i:=by have:=aq (λl:List ZN=>l[0]?) hd;simpa [awb] using this
  refine⟨i,hi,?_⟩;have hr:=Vz hd;have hm:=λd=>ND hd d
  rw[hd,Wi] at h;by_cases C:i.code=0x20;·rw[aG C] at h;exact .inl ⟨C,by rw[hr];exact h⟩
  ·rw[aN C] at h;by_cases J:i.code=0x54;·rw[aG J] at h;exact .inr (.inl ⟨J,by rw[hr];exact h⟩)
   ·rw[aN J] at h;by_cases D:i.code=0x05;·rw[aG D,hm] at h;exact .inr (.inr (.inl ⟨D,h⟩))
    ·rw[aN D] at h;by_cases A:i.code=0x06;·rw[aG A] at h;exact .inr (.inr (.inr (.inl ⟨A,ax h⟩)))
     ·rw[aN A] at h;by_cases I:YV i.code=true;·rw[aG I,hm] at h;exact .inr (.inr (.inr (.inr ⟨I,h⟩)))
      ·rw[aN I] at h;cases h
def ZN.fit(i:ZN):Prop:=i.code<65536/\i.jt<256/\i.jf<256/\i.k<4294967296
def ZN.bytes(i:ZN):List Nat:=[i.code%256,i.code/256%256,i.jt,i.jf,i.k%256,i.k/256%256,i.k/65536%256,i.k/16777216%256]
def YR(l:List ZN):List Nat:=l.flatMap ZN.bytes
theorem N1:∀l:List ZN,(YR l).length=l.length*8
 |[]=>rfl
 |i::r=>by have A:=N1 r;unfold YR at*;rw[acd,ay,A,aj];show 8+_=_;omega
def qf(b:List Nat):ZN:=⟨b.getD 0 0+256*b.getD 1 0,b.getD 2 0,b.getD 3 0,b.getD 4 0+256*b.getD 5 0+65536*b.getD 6 0+16777216*b.getD 7 0⟩
theorem NZ{i:ZN}(h:i.fit):qf i.bytes=i:=by
 obtain⟨c,jt,jf,k⟩:=i;obtain⟨C,I,D,A⟩:=h;dsimp only at C I D A;unfold qf ZN.bytes;simp only[List.getD_cons_zero,List.getD_cons_succ]
 congr 1
 ·omega
 ·omega
theorem MA:∀(l:List ZN) (n:Nat) (i:ZN),l[n]? =some i->∀j,j<8->(YR l)[n*8+j]? =i.bytes[j]?
 |x::l,0,i,h,j,hj=>by simp at h;subst h;unfold YR;rw[acd,Nat.zero_mul,aca,abb (by show j<8;exact hj)]
 |x::l,n+1,i,h,j,hj=>by have A:=MA l n i (by simpa using h) j hj;unfold YR at*;rw[acd,aae (by show 8<=_;omega)];show(l.flatMap ZN.bytes)[(n+1)*8+j-8]? =_;rw[show(n+1)*8+j-8=n*8+j from jO];exact A
end Go.Proofs.YtclgigmgbebhgaaGreatDoor
