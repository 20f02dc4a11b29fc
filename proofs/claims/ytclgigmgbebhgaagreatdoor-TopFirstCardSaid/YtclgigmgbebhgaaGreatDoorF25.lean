/- TopFirst: part 25: TopGet TopVmP. -/
import Derived.BigRegionIn
import Derived.Sort.CutIn
import Derived.Test.YtclgigmgbebhgaaGreatDoorF24
set_option linter.unusedVariables false
set_option linter.unusedSimpArgs false
set_option maxRecDepth 100000
set_option maxHeartbeats 16000000
namespace Go.Proofs.YtclgigmgbebhgaaGreatDoor
open Tryz
open Go Go.Proofs Go.RowKit Go.Shelf
variable {bs:List Nat}
attribute [local go_sem] atb
def TD(bs:List Nat)(pre:List Nat):Nat:=pre.foldl (λn j=>n*256+bs.getD j 0) 0
theorem vk(bs C:List Nat)(j:Nat):TD bs (C++[j])=TD bs C*256+bs.getD j 0:=by
 unfold TD;rw[List.foldl_append];rfl
theorem jY{bs:List Nat}(h:∀x∈bs,x<256)(j:Nat):bs.getD j 0<256:=by
 rw[aee];cases e:bs[j]? with
 |none=>exact(by decide:(0:Nat)<256)
 |some x=>exact h x (ag e)
theorem yw{bs:List Nat}(h:∀x∈bs,x<256):∀(C:List Nat) (a:Nat),C.foldl (λn j=>n*256+bs.getD j 0) a<(a+1)*256 ^ C.length
 |[],a=>jS
 |j::C,a=>by have D:=yw h C (a*256+bs.getD j 0);have:=jY h j;rw[List.foldl_cons,ai,Nat.pow_succ];refine adg D ?_;rw[Nat.mul_comm (256 ^ C.length),<-Nat.mul_assoc];exact aud _ jO
theorem jV (h:∀x∈bs,x<256)(C:List Nat):TD bs C<256 ^ C.length:=by
 have:=yw h C 0;unfold TD;omega
theorem aa2(bs:List Nat)(at_:Nat):TD bs (Yj at_ 2)=bs.getD at_ 0+256*bs.getD (at_+1) 0:=by
 have e:Yj at_ 2=[at_+1,at_]:=by unfold Yj;simp[amc]
 rw[e];unfold TD;simp only[List.foldl_cons,List.foldl_nil];omega
theorem pU(bs:List Nat)(at_:Nat):TD bs (Yj at_ 4)=Y6 bs at_:=by
 have e:Yj at_ 4=[at_+3,at_+2,at_+1,at_]:=by unfold Yj;simp[amc]
 rw[e];unfold TD Y6;simp only[List.foldl_cons,List.foldl_nil];omega
theorem jQ{a b:Nat}(hb:b<256):a*256 ||| b=a*256+b:=by
 have:=Nat.two_pow_add_eq_or_of_lt (i:=8) (b:=b) hb a;rw[show(2:Nat) ^ 8*a=a*256 from jO] at this;exact this.symm
theorem Dj{α:Type}{pre l:List α}{x:α}(h:pre++[x] <+: l):l[pre.length]? =some x:=by
 obtain⟨r,rfl⟩:=h;rw[aag,aad (aR _),alc];rfl
theorem F4{N L c at_ k:Nat}{ad:Option Addr} (hk:k=2\/k=4)(hL:bs.length=L)(hle:at_+k<=L)(Xo:L<=1000000)(Z:∀x∈bs,x<256)(w:World)(hm:Yi N w ad bs)(hN:N<=w.heap.size):
 Calls prog 63 #[.slice ad L c,.int .i64 at_,.int .i64 k,.bool false] w λe w'=>e=.returned (.tuple #[.int .u64 (TD bs (Yj at_ k):Int),.int .i64 0])/\Below w.heap.size w w':=by
 have HL:=aT hL;have Y:=aT Z;have HM:=aT hm;have hk4:k<=4:=jO;have HK:=aT hk;have U:=aT ((aG w.heap.size w).alloc (aR _) (.cells #[.slice ad L c] 42));have I:=aT (Z7.new w 42 #[.slice ad L c]);clear hL Z hm hk;refine(ajc (n:=6)).1 ?_;refine ayb func63 rfl trivial ?_ rfl;simp only[ntmps63,aic,ai,acg,Nat.reduceAdd,Nat.reduceSub,ale,alf,anc,amb,ahe,ahb]
 gi_upto_region 1 with fail
 generalize w.alloc (.cells #[.slice ad L c] 42)=w1 at*;have d0:=I.out.e0;have hs1:=U.out.size
 gi_wp2_with fail
 refine⟨trivial,?_⟩;refine(ajc.2 (vp (ad:=ad) (L:=L) (c:=c) HK.out hle Xo w1)).mono ?_;rintro e w2 ⟨rfl,hb⟩;have XX:=aT (U.out.trans (hb.mono U.out.size));have lx:=aT (I.out.below hb I.out.lt);have Uy:=aT (XX.out.alloc XX.out.size (.cells #[.int .u64 0] 23));have HD3:=aT (lx.out.alloc (.cells #[.int .u64 0] 23));have J:=aT (Z7.new w2 23 #[.int .u64 0]);have Ro:w.heap.size<w2.heap.size:=lx.out.lt;clear hb U I d0
 gi_upto_region 5 with fail
 generalize w2.alloc (.cells #[.int .u64 0] 23)=w3 at*;generalize w2.heap.size=Bn at*;have bq:Bn<w3.heap.size:=J.out.lt
 gi_wp2_with fail
 refine⟨trivial,?_⟩;refine(ajc.2 (AJ at_ k w3)).mono ?_;rintro e w4 ⟨rfl,D⟩;have Ch:Hid (Z7 w4 w3.heap.size 3 #[.int .i64 at_]):=by rw[D];exact((Z7.new w3 _ _).alloc _).alloc _
 have BB:Hid (Z7 w4 (w3.heap.size+1) 3 #[.int .i64 k]):=by rw[D];have:=(Z7.new (w3.alloc (.cells #[.int .i64 at_] 3)) 3 #[.int .i64 k]).alloc (.cells #[.bool false] 4);rwa [aj] at this
 have xr:Hid (Z7 w4 (w3.heap.size+1+1) 4 #[.bool false]):=by rw[D];have:=Z7.new ((w3.alloc (.cells #[.int .i64 at_] 3)).alloc (.cells #[.int .i64 k] 3)) 4 #[.bool false];rwa [aj,aj] at this
 have T:Hid (Below w3.heap.size w3 w4):=by rw[D];exact(((aG _ w3).alloc (aR _) _).alloc jS _).alloc (by simp;omega) _
 have Ni:=aT (Uy.out.trans (T.out.mono Uy.out.size));have HD4:=aT (HD3.out.below T.out HD3.out.lt);have HE4:=aT (J.out.below T.out J.out.lt);have hs4:w3.heap.size+1+1<w4.heap.size:=xr.out.lt;clear D XX Uy lx HD3 J T;generalize w3.heap.size=B3 at*
 gi_wp2_with fail
 refine Xe rfl jD (gf:=186) (lb:=#[.pointer (some ⟨B3+1,0,none⟩),.pointer (some ⟨B3,0,none⟩),.pointer (some ⟨B3+1+1,0,none⟩)]) rfl trivial (enters_of func186 jK rfl)
  (AH Fence.wide 5 trivial rfl jO w4 Ch.out BB.out xr.out jO) (λr h=>h.elim) (λr h=>jO) (aG _ _) (λ_=>rfl)
  (λC W=>(Z7 W Bn 23 #[.int .u64 (TD bs C:Int)]/\Z7 W w.heap.size 42 #[.slice ad L c])/\Below w.heap.size w W)
  (λ_ _ _=>False)
  (YL.and (YL.and (XL (λh=>h.elim (λe=>jO) id) (λC=>.cells #[.int .u64 (TD bs C:Int)] 23 (0,0))) (XL (λh=>h.elim (λe=>jO) id) (λ_=>.cells #[.slice ad L c] 42 (0,0)))) (I5 (aR _) (λr h=>h.elim (λe=>by have:=Ni.out.size;omega) (λe=>e.elim))))
  (λc _ _ _ _ h _ _=>h)
  ⟨⟨HE4.out,HD4.out⟩,Ni.out⟩
  (λx a' W=>a'={tmps:=#[.slice ad L c,.int .i64 at_,.int .i64 k,.bool false,.pointer (some ⟨w.heap.size,0,none⟩),undef,undef,undef,.int .u64 0,.int .i64 0,.int .i64 0,.pointer (some ⟨Bn,0,none⟩),.int .i64 x,.slice ad L c,.int .i64 at_,.int .i64 k,.int .i64 0,.int .i64 0,.bool false,undef,.int .i64 at_,.int .i64 k,.bool false,.func (.func 186) #[] #[.pointer (some ⟨B3+1,0,none⟩),.pointer (some ⟨B3,0,none⟩),.pointer (some ⟨B3+1+1,0,none⟩)],.int .i64 x,undef,undef,undef,undef,undef,undef,undef,undef,undef],defers:=[]})
  (λ_ _ _ _ _ _ h _ _=>h)
  ?assign ?body ?done ?stop
 case assign=>
  rintro l C x W K hI hsp hsz hK
  gi_wp2
  exact hK _ _ (ZT.refl _ _) hI rfl
 case body=>
  rintro l C x a' W hsz hsp ⟨⟨c0,c1⟩,hB⟩ rfl;have hx:=Dj hsp;have hpl:C.length<k:=by have:=(ak.1 hx).1;rwa [Mq] at this
  have hxv:x=at_+k-1-C.length:=by rw[JW hpl] at hx;exact(aq hx).symm
  have hxL:x<L:=jO;obtain⟨b,hb⟩:∃b,bs[x]? =some b:=⟨_,aL (by rw[HL.out];exact hxL)⟩;obtain⟨g,off,rfl,UW,cb⟩:=(HM.out.below hB hN) x b hb;have al1:=Y.out b (ag hb);have al2:=jV Y.out C;have aF6:TD bs C<16777216:=adg al2 (aO (Nat.pow_le_pow_right jD (show C.length<=3 from jO)) jD);have vh:TD bs (C++[x])=TD bs C*256+b:=by rw[vk,aee,hb];rfl
  have sQ:=aT vh;have HB:=aT hB;have Fl:=aT c0;have zm:=aT c1;have k0:=c0.cell 0;have f0:=c0.frozen 0;have k1:=c1.e0;simp only[au,aM] at k0;generalize TD bs C=A at*;have w1:IntKind.u64.wrap ((A:Int)*256)=(A:Int)*256:=aug _ jO;have w2:IntKind.u64.wrap (b:Int)=(b:Int):=aug _ jO;have w3:bits .or .u64 ((A:Int)*256) (b:Int)=((A*256+b:Nat):Int):=by rw[show(A:Int)*256=((A*256:Nat):Int) from jO,bits_or_u64_nat _ _ jO jO,jQ al1]
  have n1:¬g=Bn:=jO;have n2:¬Bn=g:=jO;have n3:¬w.heap.size=Bn:=jO;have n4:¬Bn=w.heap.size:=jO;generalize A*256+b=A2 at*;have x0:=jZ x;have x1:(x:Int)<(L:Int):=jO;clear hxv hx hsp hb al2 vh hB c0 c1;have RZ:Hid (ZT (YZ (λ_ r=>r=B3\/r=B3+1\/r=B3+1+1) w4.heap.size) W (W.setCell ⟨Bn,0,none⟩ (.int .u64 A2)).drew/\(Z7 (W.setCell ⟨Bn,0,none⟩ (.int .u64 A2)).drew Bn 23 #[.int .u64 (TD bs (C++[x]):Int)]/\Z7 (W.setCell ⟨Bn,0,none⟩ (.int .u64 A2)).drew w.heap.size 42 #[.slice (some ⟨g,off,none⟩) L c])/\Below w.heap.size w (W.setCell ⟨Bn,0,none⟩ (.int .u64 A2)).drew):=by rw[sQ.out];refine⟨show ZT _ _ (W.setCell ⟨Bn,0,none⟩ (.int .u64 A2)) from ZT.setCell _ _ _ (λhk=> ?_),⟨Fl.out.set 0 _,zm.out.other (B':=Bn) jO 0 _⟩,(HB.out.setCell (p:=⟨Bn,0,none⟩) (by simp;omega) _).drew⟩;rcases hk with hk|hk|hk|hk|hk<;>simp at hk<;>omega
  gi_wp2_with fail
  gi_region
  all_goals
   gi_wp2
   exact RZ.out
 case done=>
  rintro xs W rfl ⟨⟨c0,c1⟩,hB⟩ hK;have k0:=c0.e0
  gi_wp2
  refine⟨jS,.inl ⟨_,_,rfl,axg hK,?_⟩⟩;refine⟨.tuple #[.int .u64 (TD bs (Yj at_ k):Int),.int .i64 0],?_,rfl,hB.trans (belowK_b (w:=w) (aR _) _ w4.heap.size _ (.deferred none) (by have:=Ni.out.size;omega) hK rfl rfl)⟩;simp[results,Tryz.f63,go_sem]
 case stop=>
  rintro c C W hS h hK;exact h.elim
end Go.Proofs.YtclgigmgbebhgaaGreatDoor
namespace Go.Proofs.YtclgigmgbebhgaaGreatDoor
open Tryz
open Go Go.Proofs
theorem Hf{w:Nat->Nat}{out:List ZN}{p a v:Nat}(h:Zh w (out.drop p) a=some v):∃i,out[p]? =some i/\
 ((i.code=0x20/\Zh w (out.drop (p+1)) (w i.k)=some v)\/(i.code=0x54/\Zh w (out.drop (p+1)) (a &&& i.k)=some v)\/(i.code=0x05/\Zh w (out.drop (p+1+i.k)) a=some v)\/(i.code=0x06/\i.k=v)\/
   (YS i.code=true/\Zh w (out.drop (p+1+(if YF i.code a i.k=true then i.jt else i.jf))) a=some v)):=by
 cases hd:out.drop p with
 |nil=>rw[hd,IM] at h;cases h
 |cons i rest=>
  have hi:out[p]? =some i:=by have:=ax (λl:List ZN=>l[0]?) hd;simpa [avg] using this
  refine⟨i,hi,?_⟩;have hr:=Vm hd;have hm:=λd=>Nt hd d
  rw[hd,V8] at h;by_cases T:i.code=0x20;·rw[aF T] at h;exact .inl ⟨T,by rw[hr];exact h⟩
  ·rw[aN T] at h;by_cases D:i.code=0x54;·rw[aF D] at h;exact .inr (.inl ⟨D,by rw[hr];exact h⟩)
   ·rw[aN D] at h;by_cases C:i.code=0x05;·rw[aF C,hm] at h;exact .inr (.inr (.inl ⟨C,h⟩))
    ·rw[aN C] at h;by_cases J:i.code=0x06;·rw[aF J] at h;exact .inr (.inr (.inr (.inl ⟨J,aq h⟩)))
     ·rw[aN J] at h;by_cases I:YS i.code=true;·rw[aF I,hm] at h;exact .inr (.inr (.inr (.inr ⟨I,h⟩)))
      ·rw[aN I] at h;cases h
def ZN.fit(i:ZN):Prop:=i.code<65536/\i.jt<256/\i.jf<256/\i.k<4294967296
def ZN.bytes(i:ZN):List Nat:=[i.code%256,i.code/256%256,i.jt,i.jf,i.k%256,i.k/256%256,i.k/65536%256,i.k/16777216%256]
def Yz(l:List ZN):List Nat:=l.flatMap ZN.bytes
theorem NP:∀l:List ZN,(Yz l).length=l.length*8
 |[]=>rfl
 |i::r=>by have C:=NP r;unfold Yz at*;rw[ace,ay,C,ai];show 8+_=_;omega
def pT(b:List Nat):ZN:=⟨b.getD 0 0+256*b.getD 1 0,b.getD 2 0,b.getD 3 0,b.getD 4 0+256*b.getD 5 0+65536*b.getD 6 0+16777216*b.getD 7 0⟩
theorem NN{i:ZN}(h:i.fit):pT i.bytes=i:=by
 obtain⟨c,jt,jf,k⟩:=i;obtain⟨J,D,C,I⟩:=h;dsimp only at J D C I;unfold pT ZN.bytes;simp only[List.getD_cons_zero,List.getD_cons_succ]
 congr 1
 ·omega
 ·omega
theorem Mo:∀(l:List ZN) (n:Nat) (i:ZN),l[n]? =some i->∀j,j<8->(Yz l)[n*8+j]? =i.bytes[j]?
 |x::l,0,i,h,j,hj=>by simp at h;subst h;unfold Yz;rw[ace,Nat.zero_mul,ade,abc (by show j<8;exact hj)]
 |x::l,n+1,i,h,j,hj=>by have C:=Mo l n i (by simpa using h) j hj;unfold Yz at*;rw[ace,aad (by show 8<=_;omega)];show(l.flatMap ZN.bytes)[(n+1)*8+j-8]? =_;rw[show(n+1)*8+j-8=n*8+j from jO];exact C
end Go.Proofs.YtclgigmgbebhgaaGreatDoor
