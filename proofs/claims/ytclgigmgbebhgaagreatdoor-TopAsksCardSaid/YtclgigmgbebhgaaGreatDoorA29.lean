/- TopAsks: part 29: TopAsmR. -/
import Derived.Test.YtclgigmgbebhgaaGreatDoorA26
set_option linter.unusedVariables false
set_option linter.unusedSimpArgs false
set_option maxRecDepth 100000
set_option maxHeartbeats 16000000
namespace Go.Proofs.YtclgigmgbebhgaaGreatDoor
open Tryz
open Go Go.Proofs
variable {K L:Nat} {is:Nat->Bool}
theorem pY(x:Z9)(u f:Bool)(p y z:Nat):(encI x u f p y z).length=if u=true then 0 else if f=true then 3 else 1:=by
 unfold encI;split;·rfl
 ·split;·rfl
  ·split;·rfl
   ·split<;>rfl
def Pw(l:List Z9)(K:Nat)(ZV far:Nat->Bool):List ZL:=(List.range K).flatMap (VC l (ZE ZV far) ZV far)
theorem N5{l:List Z9}{at_:Nat->Nat}{ZV far:Nat->Bool}{n:Nat}(h:n<(Z6 l).length):(VC l at_ ZV far n).length=D4 ZV far n:=by
 obtain⟨x,hx⟩:∃x,(Z6 l)[n]? =some x:=⟨_,aM h⟩;rw[V0 hx,pY];rfl
theorem Io{l:List Z9} (ZV far:Nat->Bool)(A:(Z6 l).length=K):(Pw l K ZV far).length=ZE ZV far K:=by
 unfold Pw;exact(O5 (VC l (ZE ZV far) ZV far) (ZE ZV far) (Z6 l).length rfl (λn hn=>by rw[N5 hn];rfl) K jO).symm
theorem Sw.at'{l:List Z9} (h:Sw l L K){x:Z9}(hx:x∈Z6 l):codeOk x.code/\(x.t≠0->YW x.code=true\/x.code=0x05)/\(x.f≠0->YW x.code=true)/\(x.code=0x20->x.k%4=0/\x.k<64)/\x.k<4294967296:=by
 unfold Z6 at hx;obtain⟨C,A⟩:=apg.1 hx;exact(h.ok x C).2 (by simpa using A)
theorem vq{c:Nat}(h:codeOk c):c=0x20\/c=0x54\/c=0x05\/c=0x06\/YW c=true:=by
 rcases h with e|e|e|e|e|e|e|e<;>subst e<;>decide
theorem DB{l:List Z9} {far:Nat->Bool}(h:Sw l L K)(hr:XI l is K)(hl:MR l K (λm=> !is m) far):
 U2 l (Pw l K (λm=> !is m) far) (ZE (λm=> !is m) far) (λm=> !is m) far:=by
 refine cx (λx hx=>vq (h.at' hx).1) rfl (λn hn=>by rw[N5 hn];rfl) (by unfold Pw;rw[h.ins]) hl.br (λn x hx hc=> ?_) (λn x hx hu C=> ?_) (λn x hx hu hb=> ?_)
 ·have A:=(h.at' (ag hx)).2.1;by_cases ht:x.t=0;·exact ht
  ·rcases hc with e|e<;>rw[e] at A<;>exact absurd (A ht) jD
 ·have hn:=(aq.1 hx).1;rw[h.ins] at hn;have hi:is n=true:=by simpa using hu
  have:=(hr.2 n x hn hx hi).1 C;simp[this]
 ·have hn:=(aq.1 hx).1;rw[h.ins] at hn;have hi:is n=true:=by simpa using hu
  have:=(hr.2 n x hn hx hi).2 hb;simp[this]
theorem Im(is:Nat->Bool):∀K,(∃m,m<K/\is m=true)->∃m,m<K/\is m=true/\∀j,m<j->j<K->is j=false
 |0,⟨m,hm,_⟩=>absurd hm (ake m)
 |K+1,⟨m,hm,h⟩=>by
  cases e:is K with
  |true=>exact⟨K,amg K,e,λj D C=>jO⟩
  |false=>
   have I:m≠K:=λA=>by rw[A,e] at h;cases h
   obtain⟨m',D,C,J⟩:=Im is K ⟨m,jO,h⟩;refine⟨m',jO,C,λj T U=> ?_⟩;by_cases A:j=K;·rw[A];exact e
   ·exact J j T jO
theorem A9{l:List Z9} {far:Nat->Bool}(h:Sw l L K)(hr:XI l is K)(hl:MR l K (λm=> !is m) far):∃A z,Pw l K (λm=> !is m) far=A++[z]/\z.code=0x06:=by
 obtain⟨q,y,U,hy,I⟩:=h.last;obtain⟨m,hm,hi,D⟩:=Im is K ⟨0,h.pos.1,hr.1⟩;obtain⟨x,hx⟩:∃x,(Z6 l)[m]? =some x:=⟨_,aM (by rw[h.ins];exact hm)⟩;have J:x.code=0x06:=by
  by_cases e:x.code=0x06;·exact e
  ·have ht:=Ky h.fV U hy hx (λZ=>e (by rw[Z];exact I)) (.inl rfl:x.t=x.t\/x.t=x.f);rw[h.ins] at ht;have:=D _ jO ht.2;rw[(hr.2 m x hm hx hi).1 e] at this;cases this
 have C:far m=false:=by
  cases e:far m with
  |false=>rfl
  |true=>
   have:=hl.br m x hx e;rw[J] at this;exact absurd this jD
 have e1:=range_split (VC l (ZE (λm=> !is m) far) (λm=> !is m) far) (K-(m+1)) (m+1);rw[show m+1+(K-(m+1))=K from jO] at e1;refine⟨(List.range m).flatMap (VC l (ZE (λm=> !is m) far) (λm=> !is m) far),⟨x.code,0,0,x.k⟩,?_,J⟩;unfold Pw;rw[e1];have e2:(List.range (K-(m+1))).flatMap (λj=>VC l (ZE (λm=> !is m) far) (λm=> !is m) far (m+1+j))=[]:=by
  rw[List.flatMap_eq_nil_iff];intro j T;have Y:=aib.1 T;have:(VC l (ZE (λm=> !is m) far) (λm=> !is m) far (m+1+j)).length=0:=by rw[N5 (by rw[h.ins];omega)];unfold D4;rw[aH (by simp[D (m+1+j) jO jO])]
  exact aof this
 rw[e2,ade,amf,aca,acb,ase,ade,V0 hx]
 congr 1
 unfold encI;rw[aN (by simp[hi]),C,aN jD,J,aN jD,aN jD]
theorem A7{l:List Z9} {far:Nat->Bool}(h:Sw l L K)(hr:XI l is K)(hl:MR l K (λm=> !is m) far)(U:ZE (λm=> !is m) far K<=4096):
 XN (Pw l K (λm=> !is m) far) (ZE (λm=> !is m) far K):=by
 have ho:=DB h hr hl;have hlen:=Io (λm=> !is m) far h.ins;obtain⟨q,y,hq,hy,T⟩:=h.last;obtain⟨A,z,hA,hz⟩:=A9 h hr hl;have Y:=yQ h.fV ho rfl hq hy T (λx hx=>(h.at' hx).2.2.2.1) K (by rw[h.ins];exact aP _);refine⟨hlen,?_,U,λi hi=> ?_,λj x hx=> ?_,λx hx=> ?_⟩;·rw[<-hlen,hA];simp
 ·unfold Pw at hi;obtain⟨n,hn,hi⟩:=aqe.1 hi;have Z:=aib.1 hn;obtain⟨x,hx⟩:∃x,(Z6 l)[n]? =some x:=⟨_,aM (by rw[h.ins];exact Z)⟩;rw[V0 hx] at hi;obtain⟨hc,_,_,_,hk⟩:=h.at' (ag hx);have C:x.code<65536:=by unfold codeOk at hc;omega
  have I:=hl.ah9 n x hx;have D:x.code≠0x06->∀m,m=x.t\/m=x.f->ZE (λm=> !is m) far (target l n m)<=4096:=λh6 m hm=>by have ht:=Ky h.fV hq hy hx (λe'=>h6 (by rw[e'];exact T)) hm;rw[h.ins] at ht;obtain⟨d,hd⟩:∃d,K=target l n m+d:=⟨_,(Nat.add_sub_cancel' (acd ht.2)).symm⟩;have:=YN (λm=> !is m) far d (target l n m);rw[<-hd] at this;omega
  have J:YW x.code=true->x.code≠0x06:=λhb e=>by rw[e] at hb;exact absurd hb jD
  unfold encI at hi;cases hu:is n with
  |false=>rw[hu] at hi;simp at hi
  |true=>
   rw[aN (by simp[hu])] at hi;cases hf:far n with
   |true=>
    have hb:=hl.br n x hx hf;have t1:=D (J hb) _ (.inl rfl);have t2:=D (J hb) _ (.inr rfl);rw[hf,aH rfl] at hi;simp only[abf,akf,auf] at hi;rcases hi with rfl|rfl|rfl;·exact⟨C,by show 0<256;omega,by show 1<256;omega,hk⟩
    ·exact⟨by show 5<65536;omega,by show 0<256;omega,by show 0<256;omega,by show _-_-1<4294967296;omega⟩
    ·exact⟨by show 5<65536;omega,by show 0<256;omega,by show 0<256;omega,by show _-_-1<4294967296;omega⟩
   |false=>
    rw[hf,aN jD] at hi;by_cases h5:x.code=0x05;·rw[aH h5] at hi;have t1:=D jO _ (.inl rfl);rw[aaa.1 hi];exact⟨C,by show 0<256;omega,by show 0<256;omega,by show _-_-1<4294967296;omega⟩
    ·rw[aN h5] at hi;by_cases hb:YW x.code=true;·rw[aH hb] at hi;have:=I (by simp[hu]) hf hb;rw[aaa.1 hi];exact⟨C,by show _-_-1<256;omega,by show _-_-1<256;omega,hk⟩
     ·rw[aN hb] at hi;rw[aaa.1 hi];exact⟨C,by show 0<256;omega,by show 0<256;omega,hk⟩
 ·have hj:=(aq.1 hx).1;have:=Y j x jO hx;rw[hlen] at this;exact this
 ·rw[<-hlen,hA,ay,aod,Nat.add_sub_cancel] at hx;rw[aae (aP _),alc] at hx;obtain rfl:=au hx;exact hz
end Go.Proofs.YtclgigmgbebhgaaGreatDoor
