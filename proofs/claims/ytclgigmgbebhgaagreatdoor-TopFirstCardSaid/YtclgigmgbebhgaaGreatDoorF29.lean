/- TopFirst: part 29: TopAsmR. -/
import Derived.Test.YtclgigmgbebhgaaGreatDoorF26
set_option linter.unusedVariables false
set_option linter.unusedSimpArgs false
set_option maxRecDepth 100000
set_option maxHeartbeats 16000000
namespace Go.Proofs.YtclgigmgbebhgaaGreatDoor
open Tryz
open Go Go.Proofs
variable {K L:Nat} {is:Nat->Bool}
theorem pg(x:Z9)(u f:Bool)(p y z:Nat):(encI x u f p y z).length=if u=true then 0 else if f=true then 3 else 1:=by
 unfold encI;split;·rfl
 ·split;·rfl
  ·split;·rfl
   ·split<;>rfl
def Pf(l:List Z9)(K:Nat)(ZU far:Nat->Bool):List ZN:=(List.range K).flatMap (Vq l (ZB ZU far) ZU far)
theorem NJ{l:List Z9}{at_:Nat->Nat}{ZU far:Nat->Bool}{n:Nat}(h:n<(Z6 l).length):(Vq l at_ ZU far n).length=Dt ZU far n:=by
 obtain⟨x,hx⟩:∃x,(Z6 l)[n]? =some x:=⟨_,aL h⟩;rw[VP hx,pg];rfl
theorem G6{l:List Z9} (ZU far:Nat->Bool)(C:(Z6 l).length=K):(Pf l K ZU far).length=ZB ZU far K:=by
 unfold Pf;exact(OP (Vq l (ZB ZU far) ZU far) (ZB ZU far) (Z6 l).length rfl (λn hn=>by rw[NJ hn];rfl) K jO).symm
theorem R8.at'{l:List Z9} (h:R8 l L K){x:Z9}(hx:x∈Z6 l):codeOk x.code/\(x.t≠0->YS x.code=true\/x.code=0x05)/\(x.f≠0->YS x.code=true)/\(x.code=0x20->x.k%4=0/\x.k<64)/\x.k<4294967296:=by
 unfold Z6 at hx;obtain⟨C,D⟩:=ape.1 hx;exact(h.ok x C).2 (by simpa using D)
theorem uL{c:Nat}(h:codeOk c):c=0x20\/c=0x54\/c=0x05\/c=0x06\/YS c=true:=by
 rcases h with e|e|e|e|e|e|e|e<;>subst e<;>decide
theorem C8{l:List Z9} {far:Nat->Bool}(h:R8 l L K)(hr:XF l is K)(hl:Mv l K (λm=> !is m) far):
 UK l (Pf l K (λm=> !is m) far) (ZB (λm=> !is m) far) (λm=> !is m) far:=by
 refine bN (λx hx=>uL (h.at' hx).1) rfl (λn hn=>by rw[NJ hn];rfl) (by unfold Pf;rw[h.ins]) hl.br (λn x hx hc=> ?_) (λn x hx hu D=> ?_) (λn x hx hu hb=> ?_)
 ·have C:=(h.at' (ag hx)).2.1;by_cases ht:x.t=0;·exact ht
  ·rcases hc with e|e<;>rw[e] at C<;>exact absurd (C ht) jD
 ·have hn:=(ak.1 hx).1;rw[h.ins] at hn;have hi:is n=true:=by simpa using hu
  have:=(hr.2 n x hn hx hi).1 D;simp[this]
 ·have hn:=(ak.1 hx).1;rw[h.ins] at hn;have hi:is n=true:=by simpa using hu
  have:=(hr.2 n x hn hx hi).2 hb;simp[this]
theorem G5(is:Nat->Bool):∀K,(∃m,m<K/\is m=true)->∃m,m<K/\is m=true/\∀j,m<j->j<K->is j=false
 |0,⟨m,hm,_⟩=>absurd hm (akf m)
 |K+1,⟨m,hm,h⟩=>by
  cases e:is K with
  |true=>exact⟨K,amd K,e,λj T D=>jO⟩
  |false=>
   have U:m≠K:=λC=>by rw[C,e] at h;cases h
   obtain⟨m',T,D,I⟩:=G5 is K ⟨m,jO,h⟩;refine⟨m',jO,D,λj J Y=> ?_⟩;by_cases C:j=K;·rw[C];exact e
   ·exact I j J jO
theorem Ar{l:List Z9} {far:Nat->Bool}(h:R8 l L K)(hr:XF l is K)(hl:Mv l K (λm=> !is m) far):∃A z,Pf l K (λm=> !is m) far=A++[z]/\z.code=0x06:=by
 obtain⟨q,y,Z,hy,J⟩:=h.last;obtain⟨m,hm,hi,D⟩:=G5 is K ⟨0,h.pos.1,hr.1⟩;obtain⟨x,hx⟩:∃x,(Z6 l)[m]? =some x:=⟨_,aL (by rw[h.ins];exact hm)⟩;have I:x.code=0x06:=by
  by_cases e:x.code=0x06;·exact e
  ·have ht:=J6 h.fL Z hy hx (λT=>e (by rw[T];exact J)) (.inl rfl:x.t=x.t\/x.t=x.f);rw[h.ins] at ht;have:=D _ jO ht.2;rw[(hr.2 m x hm hx hi).1 e] at this;cases this
 have C:far m=false:=by
  cases e:far m with
  |false=>rfl
  |true=>
   have:=hl.br m x hx e;rw[I] at this;exact absurd this jD
 have e1:=range_split (Vq l (ZB (λm=> !is m) far) (λm=> !is m) far) (K-(m+1)) (m+1);rw[show m+1+(K-(m+1))=K from jO] at e1;refine⟨(List.range m).flatMap (Vq l (ZB (λm=> !is m) far) (λm=> !is m) far),⟨x.code,0,0,x.k⟩,?_,I⟩;unfold Pf;rw[e1];have e2:(List.range (K-(m+1))).flatMap (λj=>Vq l (ZB (λm=> !is m) far) (λm=> !is m) far (m+1+j))=[]:=by
  rw[List.flatMap_eq_nil_iff];intro j U;have Y:=aib.1 U;have:(Vq l (ZB (λm=> !is m) far) (λm=> !is m) far (m+1+j)).length=0:=by rw[NJ (by rw[h.ins];omega)];unfold Dt;rw[aF (by simp[D (m+1+j) jO jO])]
  exact aod this
 rw[e2,adb,amc,aca,ace,asc,adb,VP hx]
 congr 1
 unfold encI;rw[aN (by simp[hi]),C,aN jD,I,aN jD,aN jD]
theorem Aq{l:List Z9} {far:Nat->Bool}(h:R8 l L K)(hr:XF l is K)(hl:Mv l K (λm=> !is m) far)(T:ZB (λm=> !is m) far K<=4096):
 XP (Pf l K (λm=> !is m) far) (ZB (λm=> !is m) far K):=by
 have ho:=C8 h hr hl;have hlen:=G6 (λm=> !is m) far h.ins;obtain⟨q,y,hq,hy,J⟩:=h.last;obtain⟨A,z,hA,hz⟩:=Ar h hr hl;have Y:=yD h.fL ho rfl hq hy J (λx hx=>(h.at' hx).2.2.2.1) K (by rw[h.ins];exact aR _);refine⟨hlen,?_,T,λi hi=> ?_,λj x hx=> ?_,λx hx=> ?_⟩;·rw[<-hlen,hA];simp
 ·unfold Pf at hi;obtain⟨n,hn,hi⟩:=aqd.1 hi;have Z:=aib.1 hn;obtain⟨x,hx⟩:∃x,(Z6 l)[n]? =some x:=⟨_,aL (by rw[h.ins];exact Z)⟩;rw[VP hx] at hi;obtain⟨hc,_,_,_,hk⟩:=h.at' (ag hx);have C:x.code<65536:=by unfold codeOk at hc;omega
  have D:=hl.ak2 n x hx;have I:x.code≠0x06->∀m,m=x.t\/m=x.f->ZB (λm=> !is m) far (target l n m)<=4096:=λh6 m hm=>by have ht:=J6 h.fL hq hy hx (λe'=>h6 (by rw[e'];exact J)) hm;rw[h.ins] at ht;obtain⟨d,hd⟩:∃d,K=target l n m+d:=⟨_,(Nat.add_sub_cancel' (acf ht.2)).symm⟩;have:=YJ (λm=> !is m) far d (target l n m);rw[<-hd] at this;omega
  have U:YS x.code=true->x.code≠0x06:=λhb e=>by rw[e] at hb;exact absurd hb jD
  unfold encI at hi;cases hu:is n with
  |false=>rw[hu] at hi;simp at hi
  |true=>
   rw[aN (by simp[hu])] at hi;cases hf:far n with
   |true=>
    have hb:=hl.br n x hx hf;have t1:=I (U hb) _ (.inl rfl);have t2:=I (U hb) _ (.inr rfl);rw[hf,aF rfl] at hi;simp only[abb,ahd,arc] at hi;rcases hi with rfl|rfl|rfl;·exact⟨C,by show 0<256;omega,by show 1<256;omega,hk⟩
    ·exact⟨by show 5<65536;omega,by show 0<256;omega,by show 0<256;omega,by show _-_-1<4294967296;omega⟩
    ·exact⟨by show 5<65536;omega,by show 0<256;omega,by show 0<256;omega,by show _-_-1<4294967296;omega⟩
   |false=>
    rw[hf,aN jD] at hi;by_cases h5:x.code=0x05;·rw[aF h5] at hi;have t1:=I jO _ (.inl rfl);rw[aaa.1 hi];exact⟨C,by show 0<256;omega,by show 0<256;omega,by show _-_-1<4294967296;omega⟩
    ·rw[aN h5] at hi;by_cases hb:YS x.code=true;·rw[aF hb] at hi;have:=D (by simp[hu]) hf hb;rw[aaa.1 hi];exact⟨C,by show _-_-1<256;omega,by show _-_-1<256;omega,hk⟩
     ·rw[aN hb] at hi;rw[aaa.1 hi];exact⟨C,by show 0<256;omega,by show 0<256;omega,hk⟩
 ·have hj:=(ak.1 hx).1;have:=Y j x jO hx;rw[hlen] at this;exact this
 ·rw[<-hlen,hA,ay,aob,Nat.add_sub_cancel] at hx;rw[aad (aR _),alc] at hx;obtain rfl:=aq hx;exact hz
end Go.Proofs.YtclgigmgbebhgaaGreatDoor
