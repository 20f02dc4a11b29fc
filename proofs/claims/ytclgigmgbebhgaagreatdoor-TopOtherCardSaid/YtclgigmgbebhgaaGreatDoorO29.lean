/- TopOther: part 29: TopAsmR. -/
import Derived.Test.YtclgigmgbebhgaaGreatDoorO26
set_option linter.unusedVariables false
set_option linter.unusedSimpArgs false
set_option maxRecDepth 100000
set_option maxHeartbeats 16000000
namespace Go.Proofs.YtclgigmgbebhgaaGreatDoor
open Tryz
open Go Go.Proofs
variable {K L:Nat} {is:Nat->Bool}
theorem pG(x:Z9)(u f:Bool)(p y z:Nat):(encI x u f p y z).length=if u=true then 0 else if f=true then 3 else 1:=by
 unfold encI;split;·rfl
 ·split;·rfl
  ·split;·rfl
   ·split<;>rfl
def Py(l:List Z9)(K:Nat)(ZU far:Nat->Bool):List ZN:=(List.range K).flatMap (VC l (ZC ZU far) ZU far)
theorem NV{l:List Z9}{at_:Nat->Nat}{ZU far:Nat->Bool}{n:Nat}(h:n<(Z6 l).length):(VC l at_ ZU far n).length=Dw ZU far n:=by
 obtain⟨x,hx⟩:∃x,(Z6 l)[n]? =some x:=⟨_,aM h⟩;rw[VY hx,pG];rfl
theorem Hd{l:List Z9} (ZU far:Nat->Bool)(A:(Z6 l).length=K):(Py l K ZU far).length=ZC ZU far K:=by
 unfold Py;exact(O0 (VC l (ZC ZU far) ZU far) (ZC ZU far) (Z6 l).length rfl (λn hn=>by rw[NV hn];rfl) K jO).symm
theorem Sx.at'{l:List Z9} (h:Sx l L K){x:Z9}(hx:x∈Z6 l):codeOk x.code/\(x.t≠0->YV x.code=true\/x.code=0x05)/\(x.f≠0->YV x.code=true)/\(x.code=0x20->x.k%4=0/\x.k<64)/\x.k<4294967296:=by
 unfold Z6 at hx;obtain⟨A,C⟩:=aqa.1 hx;exact(h.ok x A).2 (by simpa using C)
theorem uR{c:Nat}(h:codeOk c):c=0x20\/c=0x54\/c=0x05\/c=0x06\/YV c=true:=by
 rcases h with e|e|e|e|e|e|e|e<;>subst e<;>decide
theorem Dc{l:List Z9} {far:Nat->Bool}(h:Sx l L K)(hr:XI l is K)(hl:MF l K (λm=> !is m) far):
 UY l (Py l K (λm=> !is m) far) (ZC (λm=> !is m) far) (λm=> !is m) far:=by
 refine bz (λx hx=>uR (h.at' hx).1) rfl (λn hn=>by rw[NV hn];rfl) (by unfold Py;rw[h.ins]) hl.br (λn x hx hc=> ?_) (λn x hx hu C=> ?_) (λn x hx hu hb=> ?_)
 ·have A:=(h.at' (af hx)).2.1;by_cases ht:x.t=0;·exact ht
  ·rcases hc with e|e<;>rw[e] at A<;>exact absurd (A ht) jD
 ·have hn:=(au.1 hx).1;rw[h.ins] at hn;have hi:is n=true:=by simpa using hu
  have:=(hr.2 n x hn hx hi).1 C;simp[this]
 ·have hn:=(au.1 hx).1;rw[h.ins] at hn;have hi:is n=true:=by simpa using hu
  have:=(hr.2 n x hn hx hi).2 hb;simp[this]
theorem Hb(is:Nat->Bool):∀K,(∃m,m<K/\is m=true)->∃m,m<K/\is m=true/\∀j,m<j->j<K->is j=false
 |0,⟨m,hm,_⟩=>absurd hm (ajd m)
 |K+1,⟨m,hm,h⟩=>by
  cases e:is K with
  |true=>exact⟨K,amg K,e,λj D C=>jO⟩
  |false=>
   have I:m≠K:=λA=>by rw[A,e] at h;cases h
   obtain⟨m',D,C,J⟩:=Hb is K ⟨m,jO,h⟩;refine⟨m',jO,C,λj T U=> ?_⟩;by_cases A:j=K;·rw[A];exact e
   ·exact J j T jO
theorem Ap{l:List Z9} {far:Nat->Bool}(h:Sx l L K)(hr:XI l is K)(hl:MF l K (λm=> !is m) far):∃A z,Py l K (λm=> !is m) far=A++[z]/\z.code=0x06:=by
 obtain⟨q,y,Z,hy,I⟩:=h.last;obtain⟨m,hm,hi,C⟩:=Hb is K ⟨0,h.pos.1,hr.1⟩;obtain⟨x,hx⟩:∃x,(Z6 l)[m]? =some x:=⟨_,aM (by rw[h.ins];exact hm)⟩;have J:x.code=0x06:=by
  by_cases e:x.code=0x06;·exact e
  ·have ht:=Kf h.fp Z hy hx (λY=>e (by rw[Y];exact I)) (.inl rfl:x.t=x.t\/x.t=x.f);rw[h.ins] at ht;have:=C _ jO ht.2;rw[(hr.2 m x hm hx hi).1 e] at this;cases this
 have D:far m=false:=by
  cases e:far m with
  |false=>rfl
  |true=>
   have:=hl.br m x hx e;rw[J] at this;exact absurd this jD
 have e1:=range_split (VC l (ZC (λm=> !is m) far) (λm=> !is m) far) (K-(m+1)) (m+1);rw[show m+1+(K-(m+1))=K from jO] at e1;refine⟨(List.range m).flatMap (VC l (ZC (λm=> !is m) far) (λm=> !is m) far),⟨x.code,0,0,x.k⟩,?_,J⟩;unfold Py;rw[e1];have e2:(List.range (K-(m+1))).flatMap (λj=>VC l (ZC (λm=> !is m) far) (λm=> !is m) far (m+1+j))=[]:=by
  rw[List.flatMap_eq_nil_iff];intro j U;have T:=aia.1 U;have:(VC l (ZC (λm=> !is m) far) (λm=> !is m) far (m+1+j)).length=0:=by rw[NV (by rw[h.ins];omega)];unfold Dw;rw[aG (by simp[C (m+1+j) jO jO])]
  exact akc this
 rw[e2,ade,ame,acb,acd,asg,ade,VY hx]
 congr 1
 unfold encI;rw[aN (by simp[hi]),D,aN jD,J,aN jD,aN jD]
theorem Ao{l:List Z9} {far:Nat->Bool}(h:Sx l L K)(hr:XI l is K)(hl:MF l K (λm=> !is m) far)(Y:ZC (λm=> !is m) far K<=4096):
 X6 (Py l K (λm=> !is m) far) (ZC (λm=> !is m) far K):=by
 have ho:=Dc h hr hl;have hlen:=Hd (λm=> !is m) far h.ins;obtain⟨q,y,hq,hy,U⟩:=h.last;obtain⟨A,z,hA,hz⟩:=Ap h hr hl;have J:=yC h.fp ho rfl hq hy U (λx hx=>(h.at' hx).2.2.2.1) K (by rw[h.ins];exact aR _);refine⟨hlen,?_,Y,λi hi=> ?_,λj x hx=> ?_,λx hx=> ?_⟩;·rw[<-hlen,hA];simp
 ·unfold Py at hi;obtain⟨n,hn,hi⟩:=aqf.1 hi;have Z:=aia.1 hn;obtain⟨x,hx⟩:∃x,(Z6 l)[n]? =some x:=⟨_,aM (by rw[h.ins];exact Z)⟩;rw[VY hx] at hi;obtain⟨hc,_,_,_,hk⟩:=h.at' (af hx);have C:x.code<65536:=by unfold codeOk at hc;omega
  have D:=hl.ak3 n x hx;have I:x.code≠0x06->∀m,m=x.t\/m=x.f->ZC (λm=> !is m) far (target l n m)<=4096:=λh6 m hm=>by have ht:=Kf h.fp hq hy hx (λe'=>h6 (by rw[e'];exact U)) hm;rw[h.ins] at ht;obtain⟨d,hd⟩:∃d,K=target l n m+d:=⟨_,(Nat.add_sub_cancel' (ace ht.2)).symm⟩;have:=YN (λm=> !is m) far d (target l n m);rw[<-hd] at this;omega
  have T:YV x.code=true->x.code≠0x06:=λhb e=>by rw[e] at hb;exact absurd hb jD
  unfold encI at hi;cases hu:is n with
  |false=>rw[hu] at hi;simp at hi
  |true=>
   rw[aN (by simp[hu])] at hi;cases hf:far n with
   |true=>
    have hb:=hl.br n x hx hf;have t1:=I (T hb) _ (.inl rfl);have t2:=I (T hb) _ (.inr rfl);rw[hf,aG rfl] at hi;simp only[abf,ajf,atg] at hi;rcases hi with rfl|rfl|rfl;·exact⟨C,by show 0<256;omega,by show 1<256;omega,hk⟩
    ·exact⟨by show 5<65536;omega,by show 0<256;omega,by show 0<256;omega,by show _-_-1<4294967296;omega⟩
    ·exact⟨by show 5<65536;omega,by show 0<256;omega,by show 0<256;omega,by show _-_-1<4294967296;omega⟩
   |false=>
    rw[hf,aN jD] at hi;by_cases h5:x.code=0x05;·rw[aG h5] at hi;have t1:=I jO _ (.inl rfl);rw[aac.1 hi];exact⟨C,by show 0<256;omega,by show 0<256;omega,by show _-_-1<4294967296;omega⟩
    ·rw[aN h5] at hi;by_cases hb:YV x.code=true;·rw[aG hb] at hi;have:=D (by simp[hu]) hf hb;rw[aac.1 hi];exact⟨C,by show _-_-1<256;omega,by show _-_-1<256;omega,hk⟩
     ·rw[aN hb] at hi;rw[aac.1 hi];exact⟨C,by show 0<256;omega,by show 0<256;omega,hk⟩
 ·have hj:=(au.1 hx).1;have:=J j x jO hx;rw[hlen] at this;exact this
 ·rw[<-hlen,hA,ay,aoe,Nat.add_sub_cancel] at hx;rw[aae (aR _),alb] at hx;obtain rfl:=ax hx;exact hz
end Go.Proofs.YtclgigmgbebhgaaGreatDoor
