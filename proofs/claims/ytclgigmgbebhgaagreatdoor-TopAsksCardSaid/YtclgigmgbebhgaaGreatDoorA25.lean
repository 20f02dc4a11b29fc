/- TopAsks: part 25: TopGet TopVmP. -/
import Derived.BigRegionIn
import Derived.Sort.CutIn
import Derived.Test.YtclgigmgbebhgaaGreatDoorA24
set_option linter.unusedVariables false
set_option linter.unusedSimpArgs false
set_option maxRecDepth 100000
set_option maxHeartbeats 16000000
namespace Go.Proofs.YtclgigmgbebhgaaGreatDoor
open Tryz
open Go Go.Proofs Go.RowKit Go.Shelf
variable {bs:List Nat}
attribute [local go_sem] atb
def TT(bs:List Nat)(pre:List Nat):Nat:=pre.foldl (λn j=>n*256+bs.getD j 0) 0
theorem vP(bs A:List Nat)(j:Nat):TT bs (A++[j])=TT bs A*256+bs.getD j 0:=by
 unfold TT;rw[List.foldl_append];rfl
theorem kh{bs:List Nat}(h:∀x∈bs,x<256)(j:Nat):bs.getD j 0<256:=by
 rw[aef];cases e:bs[j]? with
 |none=>exact(by decide:(0:Nat)<256)
 |some x=>exact h x (ag e)
theorem yJ{bs:List Nat}(h:∀x∈bs,x<256):∀(A:List Nat) (a:Nat),A.foldl (λn j=>n*256+bs.getD j 0) a<(a+1)*256 ^ A.length
 |[],a=>jS
 |j::A,a=>by have C:=yJ h A (a*256+bs.getD j 0);have:=kh h j;rw[List.foldl_cons,aj,Nat.pow_succ];refine acf C ?_;rw[Nat.mul_comm (256 ^ A.length),<-Nat.mul_assoc];exact aub _ jO
theorem kf (h:∀x∈bs,x<256)(A:List Nat):TT bs A<256 ^ A.length:=by
 have:=yJ h A 0;unfold TT;omega
theorem bq(bs:List Nat)(at_:Nat):TT bs (Yn at_ 2)=bs.getD at_ 0+256*bs.getD (at_+1) 0:=by
 have e:Yn at_ 2=[at_+1,at_]:=by unfold Yn;simp[amf]
 rw[e];unfold TT;simp only[List.foldl_cons,List.foldl_nil];omega
theorem qH(bs:List Nat)(at_:Nat):TT bs (Yn at_ 4)=YS bs at_:=by
 have e:Yn at_ 4=[at_+3,at_+2,at_+1,at_]:=by unfold Yn;simp[amf]
 rw[e];unfold TT YS;simp only[List.foldl_cons,List.foldl_nil];omega
theorem ke{a b:Nat}(hb:b<256):a*256 ||| b=a*256+b:=by
 have:=Nat.two_pow_add_eq_or_of_lt (i:=8) (b:=b) hb a;rw[show(2:Nat) ^ 8*a=a*256 from jO] at this;exact this.symm
theorem DO{α:Type}{pre l:List α}{x:α}(h:pre++[x] <+: l):l[pre.length]? =some x:=by
 obtain⟨r,rfl⟩:=h;rw[aba,aae (aP _),alc];rfl
theorem Gy{N L c at_ k:Nat}{ad:Option Addr} (hk:k=2\/k=4)(hL:bs.length=L)(hle:at_+k<=L)(XA:L<=1000000)(Gx:∀x∈bs,x<256)(w:World)(hm:X7 N w ad bs)(hN:N<=w.heap.size):
 Calls prog 63 #[.slice ad L c,.int .i64 at_,.int .i64 k,.bool false] w λe w'=>e=.returned (.tuple #[.int .u64 (TT bs (Yn at_ k):Int),.int .i64 0])/\Below w.heap.size w w':=by
 have HL:=aT hL;have j9:=aT Gx;have HM:=aT hm;have hk4:k<=4:=jO;have HK:=aT hk;have I:=aT ((aG w.heap.size w).alloc (aP _) (.cells #[.slice ad L c] 42));have T:=aT (Z8.new w 42 #[.slice ad L c]);clear hL Gx hm hk;refine(ajb (n:=6)).1 ?_;refine ayc func63 rfl trivial ?_ rfl;simp only[ntmps63,aic,aj,acg,Nat.reduceAdd,Nat.reduceSub,alf,alg,anf,amc,ahe,ahb]
 gi_upto_region 1 with fail
 generalize w.alloc (.cells #[.slice ad L c] 42)=w1 at*;have d0:=T.out.e0;have hs1:=I.out.size
 gi_wp2_with fail
 refine⟨trivial,?_⟩;refine(ajb.2 (vQ (ad:=ad) (L:=L) (c:=c) HK.out hle XA w1)).mono ?_;rintro e w2 ⟨rfl,hb⟩;have X1:=aT (I.out.trans (hb.mono I.out.size));have lI:=aT (T.out.below hb T.out.lt);have Ul:=aT (X1.out.alloc X1.out.size (.cells #[.int .u64 0] 23));have HD3:=aT (lI.out.alloc (.cells #[.int .u64 0] 23));have J:=aT (Z8.new w2 23 #[.int .u64 0]);have Pd:w.heap.size<w2.heap.size:=lI.out.lt;clear hb I T d0
 gi_upto_region 5 with fail
 generalize w2.alloc (.cells #[.int .u64 0] 23)=w3 at*;generalize w2.heap.size=Bn at*;have bP:Bn<w3.heap.size:=J.out.lt
 gi_wp2_with fail
 refine⟨trivial,?_⟩;refine(ajb.2 (Bu at_ k w3)).mono ?_;rintro e Y ⟨rfl,D⟩;have cy:Hid (Z8 Y w3.heap.size 3 #[.int .i64 at_]):=by rw[D];exact((Z8.new w3 _ _).alloc _).alloc _
 have Co:Hid (Z8 Y (w3.heap.size+1) 3 #[.int .i64 k]):=by rw[D];have:=(Z8.new (w3.alloc (.cells #[.int .i64 at_] 3)) 3 #[.int .i64 k]).alloc (.cells #[.bool false] 4);rwa [ai] at this
 have xN:Hid (Z8 Y (w3.heap.size+1+1) 4 #[.bool false]):=by rw[D];have:=Z8.new ((w3.alloc (.cells #[.int .i64 at_] 3)).alloc (.cells #[.int .i64 k] 3)) 4 #[.bool false];rwa [ai,ai] at this
 have U:Hid (Below w3.heap.size w3 Y):=by rw[D];exact(((aG _ w3).alloc (aP _) _).alloc jS _).alloc (by simp;omega) _
 have NC:=aT (Ul.out.trans (U.out.mono Ul.out.size));have HD4:=aT (HD3.out.below U.out HD3.out.lt);have HE4:=aT (J.out.below U.out J.out.lt);have hs4:w3.heap.size+1+1<Y.heap.size:=xN.out.lt;clear D X1 Ul lI HD3 J U;generalize w3.heap.size=B3 at*
 gi_wp2_with fail
 refine Xl rfl jD (gf:=186) (lb:=#[.pointer (some ⟨B3+1,0,none⟩),.pointer (some ⟨B3,0,none⟩),.pointer (some ⟨B3+1+1,0,none⟩)]) rfl trivial (enters_of func186 jK rfl)
  (Br Fence.wide 5 trivial rfl jO Y cy.out Co.out xN.out jO) (λr h=>h.elim) (λr h=>jO) (aG _ _) (λ_=>rfl)
  (λC W=>(Z8 W Bn 23 #[.int .u64 (TT bs C:Int)]/\Z8 W w.heap.size 42 #[.slice ad L c])/\Below w.heap.size w W)
  (λ_ _ _=>False)
  (YQ.and (YQ.and (XP (λh=>h.elim (λe=>jO) id) (λC=>.cells #[.int .u64 (TT bs C:Int)] 23 (0,0))) (XP (λh=>h.elim (λe=>jO) id) (λ_=>.cells #[.slice ad L c] 42 (0,0)))) (JC (aP _) (λr h=>h.elim (λe=>by have:=NC.out.size;omega) (λe=>e.elim))))
  (λc _ _ _ _ h _ _=>h)
  ⟨⟨HE4.out,HD4.out⟩,NC.out⟩
  (λx a' W=>a'={tmps:=#[.slice ad L c,.int .i64 at_,.int .i64 k,.bool false,.pointer (some ⟨w.heap.size,0,none⟩),undef,undef,undef,.int .u64 0,.int .i64 0,.int .i64 0,.pointer (some ⟨Bn,0,none⟩),.int .i64 x,.slice ad L c,.int .i64 at_,.int .i64 k,.int .i64 0,.int .i64 0,.bool false,undef,.int .i64 at_,.int .i64 k,.bool false,.func (.func 186) #[] #[.pointer (some ⟨B3+1,0,none⟩),.pointer (some ⟨B3,0,none⟩),.pointer (some ⟨B3+1+1,0,none⟩)],.int .i64 x,undef,undef,undef,undef,undef,undef,undef,undef,undef],defers:=[]})
  (λ_ _ _ _ _ _ h _ _=>h)
  ?assign ?body ?done ?stop
 case assign=>
  rintro l C x W K hI hsp hsz hK
  gi_wp2
  exact hK _ _ (ZU.refl _ _) hI rfl
 case body=>
  rintro l C x a' W hsz hsp ⟨⟨c0,c1⟩,hB⟩ rfl;have hx:=DO hsp;have hpl:C.length<k:=by have:=(aq.1 hx).1;rwa [MN] at this
  have hxv:x=at_+k-1-C.length:=by rw[Kn hpl] at hx;exact(au hx).symm
  have hxL:x<L:=jO;obtain⟨b,hb⟩:∃b,bs[x]? =some b:=⟨_,aM (by rw[HL.out];exact hxL)⟩;obtain⟨g,off,rfl,Va,cb⟩:=(HM.out.below hB hN) x b hb;have ai8:=j9.out b (ag hb);have Z:=kf j9.out C;have aA6:TT bs C<16777216:=acf Z (aO (Nat.pow_le_pow_right jD (show C.length<=3 from jO)) jD);have vO:TT bs (C++[x])=TT bs C*256+b:=by rw[vP,aef,hb];rfl
  have tL:=aT vO;have HB:=aT hB;have FX:=aT c0;have zz:=aT c1;have k0:=c0.cell 0;have f0:=c0.frozen 0;have k1:=c1.e0;simp only[ak,aL] at k0;generalize TT bs C=A at*;have w1:IntKind.u64.wrap ((A:Int)*256)=(A:Int)*256:=aue _ jO;have w2:IntKind.u64.wrap (b:Int)=(b:Int):=aue _ jO;have w3:bits .or .u64 ((A:Int)*256) (b:Int)=((A*256+b:Nat):Int):=by rw[show(A:Int)*256=((A*256:Nat):Int) from jO,bits_or_u64_nat _ _ jO jO,ke ai8]
  have n1:¬g=Bn:=jO;have n2:¬Bn=g:=jO;have n3:¬w.heap.size=Bn:=jO;have n4:¬Bn=w.heap.size:=jO;generalize A*256+b=A2 at*;have x0:=jZ x;have x1:(x:Int)<(L:Int):=jO;clear hxv hx hsp hb Z vO hB c0 c1;have Sl:Hid (ZU (Y3 (λ_ r=>r=B3\/r=B3+1\/r=B3+1+1) Y.heap.size) W (W.setCell ⟨Bn,0,none⟩ (.int .u64 A2)).drew/\(Z8 (W.setCell ⟨Bn,0,none⟩ (.int .u64 A2)).drew Bn 23 #[.int .u64 (TT bs (C++[x]):Int)]/\Z8 (W.setCell ⟨Bn,0,none⟩ (.int .u64 A2)).drew w.heap.size 42 #[.slice (some ⟨g,off,none⟩) L c])/\Below w.heap.size w (W.setCell ⟨Bn,0,none⟩ (.int .u64 A2)).drew):=by rw[tL.out];refine⟨show ZU _ _ (W.setCell ⟨Bn,0,none⟩ (.int .u64 A2)) from ZU.setCell _ _ _ (λhk=> ?_),⟨FX.out.set 0 _,zz.out.other (B':=Bn) jO 0 _⟩,(HB.out.setCell (p:=⟨Bn,0,none⟩) (by simp;omega) _).drew⟩;rcases hk with hk|hk|hk|hk|hk<;>simp at hk<;>omega
  gi_wp2_with fail
  gi_region
  all_goals
   gi_wp2
   exact Sl.out
 case done=>
  rintro xs W rfl ⟨⟨c0,c1⟩,hB⟩ hK;have k0:=c0.e0
  gi_wp2
  refine⟨jS,.inl ⟨_,_,rfl,axg hK,?_⟩⟩;refine⟨.tuple #[.int .u64 (TT bs (Yn at_ k):Int),.int .i64 0],?_,rfl,hB.trans (belowK_b (w:=w) (aP _) _ Y.heap.size _ (.deferred none) (by have:=NC.out.size;omega) hK rfl rfl)⟩;simp[results,Tryz.f63,go_sem]
 case stop=>
  rintro c C W hS h hK;exact h.elim
end Go.Proofs.YtclgigmgbebhgaaGreatDoor
namespace Go.Proofs.YtclgigmgbebhgaaGreatDoor
open Tryz
open Go Go.Proofs
theorem IA{w:Nat->Nat}{out:List ZL}{p a v:Nat}(h:Y6 w (out.drop p) a=some v):∃i,out[p]? =some i/\
 ((i.code=0x20/\Y6 w (out.drop (p+1)) (w i.k)=some v)\/(i.code=0x54/\Y6 w (out.drop (p+1)) (a &&& i.k)=some v)\/(i.code=0x05/\Y6 w (out.drop (p+1+i.k)) a=some v)\/(i.code=0x06/\i.k=v)\/
   (YW i.code=true/\Y6 w (out.drop (p+1+(if YI i.code a i.k=true then i.jt else i.jf))) a=some v)):=by
 cases hd:out.drop p with
 |nil=>rw[hd,Jm] at h;cases h
 |cons i rest=>
  have hi:out[p]? =some i:=by have:=ax (λl:List ZL=>l[0]?) hd;simpa [avf] using this
  refine⟨i,hi,?_⟩;have hr:=Vz hd;have hm:=λd=>NN hd d
  rw[hd,Wk] at h;by_cases C:i.code=0x20;·rw[aH C] at h;exact .inl ⟨C,by rw[hr];exact h⟩
  ·rw[aN C] at h;by_cases A:i.code=0x54;·rw[aH A] at h;exact .inr (.inl ⟨A,by rw[hr];exact h⟩)
   ·rw[aN A] at h;by_cases I:i.code=0x05;·rw[aH I,hm] at h;exact .inr (.inr (.inl ⟨I,h⟩))
    ·rw[aN I] at h;by_cases J:i.code=0x06;·rw[aH J] at h;exact .inr (.inr (.inr (.inl ⟨J,au h⟩)))
     ·rw[aN J] at h;by_cases D:YW i.code=true;·rw[aH D,hm] at h;exact .inr (.inr (.inr (.inr ⟨D,h⟩)))
      ·rw[aN D] at h;cases h
def ZL.fit(i:ZL):Prop:=i.code<65536/\i.jt<256/\i.jf<256/\i.k<4294967296
def ZL.bytes(i:ZL):List Nat:=[i.code%256,i.code/256%256,i.jt,i.jf,i.k%256,i.k/256%256,i.k/65536%256,i.k/16777216%256]
def Yr(l:List ZL):List Nat:=l.flatMap ZL.bytes
theorem Ob:∀l:List ZL,(Yr l).length=l.length*8
 |[]=>rfl
 |i::r=>by have A:=Ob r;unfold Yr at*;rw[acb,ay,A,aj];show 8+_=_;omega
def qG(b:List Nat):ZL:=⟨b.getD 0 0+256*b.getD 1 0,b.getD 2 0,b.getD 3 0,b.getD 4 0+256*b.getD 5 0+65536*b.getD 6 0+16777216*b.getD 7 0⟩
theorem Oa{i:ZL}(h:i.fit):qG i.bytes=i:=by
 obtain⟨c,jt,jf,k⟩:=i;obtain⟨C,A,D,I⟩:=h;dsimp only at C A D I;unfold qG ZL.bytes;simp only[List.getD_cons_zero,List.getD_cons_succ]
 congr 1
 ·omega
 ·omega
theorem MM:∀(l:List ZL) (n:Nat) (i:ZL),l[n]? =some i->∀j,j<8->(Yr l)[n*8+j]? =i.bytes[j]?
 |x::l,0,i,h,j,hj=>by simp at h;subst h;unfold Yr;rw[acb,Nat.zero_mul,adf,abc (by show j<8;exact hj)]
 |x::l,n+1,i,h,j,hj=>by have A:=MM l n i (by simpa using h) j hj;unfold Yr at*;rw[acb,aae (by show 8<=_;omega)];show(l.flatMap ZL.bytes)[(n+1)*8+j-8]? =_;rw[show(n+1)*8+j-8=n*8+j from jO];exact A
end Go.Proofs.YtclgigmgbebhgaaGreatDoor
