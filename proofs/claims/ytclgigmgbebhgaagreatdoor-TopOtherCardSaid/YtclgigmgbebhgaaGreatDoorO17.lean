/- TopOther: part 17: TopReach. -/
import Derived.Test.YtclgigmgbebhgaaGreatDoorO16
set_option linter.unusedVariables false
set_option linter.unusedSimpArgs false
set_option maxRecDepth 100000
set_option maxHeartbeats 16000000
namespace Go.Proofs.YtclgigmgbebhgaaGreatDoor
open Tryz
open Go Go.Proofs Go.RowKit
variable {K LO g gb:Nat} {is:Nat->Bool} {w W:World}
theorem Kf{l q:List Z9}{y:Z9}(hF:ZR l)(hl:l=q++[y])(hy:y.mark=0){n:Nat}{x:Z9}(hx:(Z6 l)[n]? =some x)(J:x≠y){m:Int}(hm:m=x.t\/m=x.f):n+1<=target l n m/\target l n m<(Z6 l).length:=by
 obtain⟨p,r,e,A,hp⟩:=Ob l n x hx;obtain⟨Z,h2⟩:=ZR.here p (e▸hF) A;have D:m≠0->m∈marks r:=by rcases hm with rfl|rfl<;>assumption
 have hr:=Ki e hl hy J;have C:∀T y',l=T++[y']->y'.mark=0:=λT y' Y=>by have:=UD (hl.symm.trans Y);rw[<-this];exact hy
 have U:=Ik hF e A D hr C;obtain⟨_,_,_,I,_⟩:=Vv (e▸hF) A D;rw[<-e] at I;rw[hp] at U I;exact⟨I,U⟩
def XI(l:List Z9)(is:Nat->Bool)(n:Nat):Prop:=is 0=true/\∀m x,m<n->(Z6 l)[m]? =some x->is m=true->(x.code≠0x06->is (target l m x.t)=true)/\(YV x.code=true->is (target l m x.f)=true)
theorem XI.up{l:List Z9} {n:Nat}(h:XI l is n)(j:Nat)(I:n<=j):XI l (upd is j true) n:=by
 have hm:∀i,is i=true->upd is j true i=true:=λi hi=>by
  unfold upd;split;·rfl
  ·exact hi
 refine⟨hm 0 h.1,λm x A hx hi=> ?_⟩;rw[TT is true jO] at hi;obtain⟨C,D⟩:=h.2 m x A hx hi;exact⟨λhc=>hm _ (C hc),λhb=>hm _ (D hb)⟩
theorem XI.next{l:List Z9} {n:Nat}{x:Z9}(h:XI l is n)(hx:(Z6 l)[n]? =some x)(hn:is n=true->(x.code≠0x06->is (target l n x.t)=true)/\(YV x.code=true->is (target l n x.f)=true)):XI l is (n+1):=by
 refine⟨h.1,λm y hm hy hi=> ?_⟩;by_cases e:m=n;·subst e;rw[hx] at hy;cases hy;exact hn hi
 ·exact h.2 m y jO hy hi
def Uo(is:Nat->Bool)(K:Nat):List Bool:=(List.range (K+1)).map is
def Ke(b:Bool):List Value:=[.bool b]
theorem Tm(is:Nat->Bool)(K:Nat):(Uo is K).length=K+1:=by unfold Uo;rw[aad,afc]
theorem Vc {i:Nat}(h:i<=K):(Uo is K)[i]? =some (is i):=by
 unfold Uo;rw[ada,aoa jO];rfl
theorem AQ {i:Nat}(h:i<=K)(b:Bool):(Uo is K).set i b=Uo (upd is i b) K:=by
 apply agd;intro j;rw[List.getElem?_set,Tm];by_cases A:i=j;·subst A;rw[aG rfl,aG jO,Vc h,upd_same]
 ·rw[aN A];by_cases hk:j<=K;·rw[Vc hk,Vc hk,TT is b (ana A)]
  ·rw[ahe (by rw[Tm];omega),ahe (by rw[Tm];omega)]
def Un(is:Nat->Bool)(n:Nat):Nat->Bool:=λm=>decide (m<n) && !is m
theorem j6(is:Nat->Bool){n j:Nat}(h:n<=j)(b:Bool):Un (upd is j b) n=Un is n:=by
 funext m
 unfold Un;by_cases hm:m<n;·rw[TT is b jO]
 ·rw[aee hm];rfl
theorem vJ{l:List Z9}{K n:Nat}{x:Z9} (hx:(Z6 l)[n]? =some x)(d:Nat)(far:Nat->Bool)(at_:Nat->Nat):(Yw l d (Un is n) far at_).set n {Zp l d (Un is n) far at_ n x with ZU:= !is n}=Yw l d (Un is (n+1)) far at_:=by
 rw[Tp (l:=l) (d:=d) (d':=d) (ZU:=Un is n) (AR:=Un is (n+1)) (Kh:=far) (at':=at_) hx (λm x hm=>by
  have e:Un is (n+1) m=Un is n m:=by unfold Un;rw[show decide (m<n+1)=decide (m<n) by rw[aya];omega]
  unfold Zp;rw[e])]
 congr 1
 unfold Zp Un;simp
structure LD(LO g c K gb:Nat)(l:List Z9)(w W:World)(is:Nat->Bool)(n:Nat):Prop where
 Zs:Below LO w W
 st:W.ownsRow LO Tq 11 (.slice (some ⟨g,0,none⟩) K c) K ((Yw l K (Un is n) (λ_=>false) (λ_=>0)).flatMap Y5)
 bo:W.ownsRow LO 4 1 (.slice (some ⟨gb,0,none⟩) (K+1) (K+1)) (K+1) ((Uo is K).flatMap Ke)
 lo:LO<=w.heap.size/\LO<=g/\LO<=gb
theorem LD.ZU{c n:Nat}{l:List Z9}{x:Z9}(h:LD LO g c K gb l w W is n)(hx:(Z6 l)[n]? =some x):LD LO g c K gb l w (W.setCell ⟨g,n*11+10,none⟩ (.bool (!is n))) is (n+1):=by
 obtain⟨A,C⟩:=Vw (f:=Y5) (k:=11) (λ_=>rfl) h.st (i:=n) (j:=10) (u:=.bool (!is n)) (x:=Zp l K (Un is n) (λ_=>false) (λ_=>0) n x) (x':={Zp l K (Un is n) (λ_=>false) (λ_=>0) n x with ZU:= !is n}) (V5 hx) jD rfl;rw[vJ (K:=K) hx] at A;exact⟨h.Zs.setCell (p:=⟨g,_,none⟩) h.lo.2.1 _,A,Xs h.st C h.bo jD,h.lo⟩
theorem LD.set{c n i:Nat}{l:List Z9}(h:LD LO g c K gb l w W is n)(hi:n<=i)(A:i<=K):LD LO g c K gb l w (W.setCell ⟨gb,i,none⟩ (.bool true)) (upd is i true) n:=by
 obtain⟨D,C⟩:=Vw (f:=Ke) (k:=1) (λ_=>rfl) h.bo (i:=i) (j:=0) (u:=.bool true) (x:=is i) (x':=true) (Vc A) jD rfl;rw[AQ A,aqd,aeb] at D;rw[aqd,aeb] at C;exact⟨h.Zs.setCell (p:=⟨gb,_,none⟩) h.lo.2.2 _,by rw[j6 is hi];exact Xs h.bo C h.st jD,D,h.lo⟩
theorem LD.Dy{c n i:Nat}{l:List Z9}(h:LD LO g c K gb l w W is n)(C:i<=K):W.cell? ⟨gb,i,none⟩=some (.bool (is i))/\W.frozen? ⟨gb,i,none⟩=false:=by
 obtain⟨g',e,_,hc⟩:=Ye Ke 1 (λ_=>rfl) (Tm is K) h.bo (Vc C);cases e;have A:=hc 0 jD;simp only[Ke,aqd,aeb,aL] at A;exact⟨A,h.bo.frozenAt i⟩
theorem LD.VH{c n m:Nat}{l:List Z9}{x:Z9}(h:LD LO g c K gb l w W is n)(hk:(Z6 l).length=K)(hx:(Z6 l)[m]? =some x)(j:Nat)(A:j<11):W.cell? ⟨g,m*11+j,none⟩=(Y5 (Zp l K (Un is n) (λ_=>false) (λ_=>0) m x))[j]? :=by
 obtain⟨g',e,_,hc⟩:=Ye Y5 11 (λ_=>rfl) ((V6 _ _ _ _ _).trans hk) h.st (V5 hx);cases e;exact hc j A
theorem Dx{c:Nat}{l q:List Z9}{y:Z9}(hK:(Z6 l).length=K)(Xl:K<=1000000)(hF:ZR l)(hO:∀x∈l,Jl x)(hl:l=q++[y])(hy:y.mark=0)(Ih:y.code=0x06)(w:World)(hst:w.ownsRow LO Tq 11 (.slice (some ⟨g,0,none⟩) K c) K ((Yw l K (λ_=>false) (λ_=>false) (λ_=>0)).flatMap Y5))(Z:LO<=w.heap.size)(hg:LO<=g):
 Calls prog 111 #[.slice (some ⟨g,0,none⟩) K c] w λe w'=>e=.returned (.tuple #[])/\∃is,XI l is K/\w'.ownsRow LO Tq 11 (.slice (some ⟨g,0,none⟩) K c) K ((Yw l K (λm=> !is m) (λ_=>false) (λ_=>0)).flatMap Y5)/\Below LO w w':=by
 obtain⟨iB,hi,hz0,hz1,hz2⟩:=ZP (show(prog.info? 4).map (λi=>(i.zero,i.size,i.bytes))=some (some (.bool false),1,1) from jK);obtain⟨w1,zj,hbo,hgr⟩:=run_make_full (P:=prog) w LO 303 4 iB (.bool false) 1 underlying303 hi hz0 hz1 .i64 .i64 (K+1) (by rw[hz2];omega) (by unfold maxLen;omega) Z;simp only[avg,azb] at zj;have ak2:w1.ownsRow LO 4 1 (.slice (some ⟨w.heap.size,0,none⟩) (K+1) (K+1)) (K+1) ((Uo (λ_=>false) K).flatMap Ke):=by
  have e:(madeCells (Value.bool false).cells ((K+1)*1)).toList=(Uo (λ_=>false) K).flatMap Ke:=by
   rw[aqd,show(Value.bool false).cells=#[.bool false] from rfl,toList_madeCells_one];unfold Uo Ke;rw[<-List.map_eq_flatMap,akb];apply agd;intro j;rw[List.getElem?_replicate,ada];by_cases hj:j<K+1;·rw[aG hj,aoa hj];rfl
   ·rw[aN hj,ahe (by rw[afc];omega)];rfl
  rw[<-e];exact hbo
 have hR0:LD LO g c K w.heap.size l w w1 (λ_=>false) 0:=by
  refine⟨(aH LO w).grown hgr Z (λk e=>by cases e),?_,ak2,Z,hg,Z⟩;have e:Un (λ_=>false) 0=λ_=>false:=by
   funext m
   unfold Un;rw[aee (ajd m)];rfl
  rw[e];exact hst.kept hgr (.inr (λe=>by cases e))
 have hR1:=hR0.set (aR 0) (abc K);obtain⟨b0,b1⟩:=hR0.Dy (abc K);have C:=aT hR1;have HK:=aT hK;have bf:=aT (λ(n:Nat) (x:Z9) (hx:(Z6 l)[n]? =some x) (J:x.code≠0x06) (m:Int) (hm:m=x.t\/m=x.f)=>Kf hF hl hy hx (λe=>J (by rw[e];exact Ih)) hm);have HO:=aT hO;have kw:=jW K;have kp:(0:Int)<(K:Int)+1:=jO;clear hbo ak2 hgr hR0 hR1 hst hF hO hl hy Ih hK;go_enter func111,ntmps111;go_upto_region 3 with fail;generalize w1.setCell ⟨w.heap.size,0,none⟩ (.bool true)=w2 at*;generalize w.heap.size=gb at*;clear b0 b1 zj;go_loopg [13] (K+1) (λgg iv wr=>∃(n:Nat) (is:Nat->Bool),n<=K/\K-n<gg/\iv=.int .i64 (n:Int)/\Hid (LD LO g c K gb l w wr is n)/\Hid (XI l is n));case atStart=>exact⟨0,_,abc _,jO,rfl,C,upd_same _ _ _,λm x h=>absurd h (ajd m)⟩
 case round=>
  obtain⟨n,is,hnK,VP,rfl,C,Y⟩:=hrel;have n0:=jZ n;by_cases hlt:n<K
  ·have Y8:(n:Int)<(K:Int):=by omega
   have aF1:(n:Int)<(K:Int)+1:=jO;have iw:=jW n;obtain⟨x,hx⟩:∃x,(Z6 l)[n]? =some x:=⟨_,aM (by rw[HK.out];exact hlt)⟩;have hne:¬g=gb:=λe=>by
    rcases C.out.st.2 with⟨e1,_⟩|⟨g1,c1,cur,e1,_,h1,_⟩
    ·cases e1
    ·cases e1;exact YT C.bo (show Z7 wr g Tq cur from h1) jD (by rw[e];rfl)
   have bc:¬gb=g:=λe=>hne e.symm
   have b0:=(C.Dy hnK).1;have y10:=C.VH HK hx 10 jD;have f10:=C.st.frozenAt (n*11+10);unfold Y5 Zp at y10;simp only[aL,aF] at y10;have I:=aT (C.ZU hx);have HX:=aT hx;obtain⟨hc,_⟩:=(HO x (N9 hx).1).2 (N9 hx).2;have b1:=(I.Dy hnK).1;have z6:=I.VH HK hx 6 jD;have U:=I.VH HK hx 7 jD;unfold Y5 Zp at z6 U;simp only[aL,aF,hlt,if_true] at z6 U;cases hb:is n with
   |false=>
    rw[hb] at b0 b1 z6 U;have A:=aT (Y.next hx (λh=>by rw[hb] at h;cases h));rw[hb] at I;clear hx C Y;go_wp2_with fail;go_roundg (K-n);case measure=>omega
    case rel=>exact⟨n+1,is,jO,jO,by go_num,I,A⟩
   |true=>
    rw[hb] at b0 b1 z6 U I;rw[Bool.not_true] at b1 z6 U I;by_cases J:x.code=0x06
    ·have e1:Oa l n x= -1:=by unfold Oa;rw[aG J]
     have e2:AU l n x= -1:=by unfold AU;rw[J];rfl
     rw[e1] at z6;rw[e2] at U;have A:=aT (Y.next hx (λ_=>⟨λh=>absurd J h,λh=>by rw[J] at h;cases h⟩));clear hx C Y e1 e2;go_wp2_with fail;go_roundg (K-n);case measure=>omega
     case rel=>exact⟨n+1,is,jO,jO,by go_num,I,A⟩
    ·have e1:Oa l n x=(target l n x.t:Int):=by unfold Oa;rw[aN J]
     rw[e1] at z6;obtain⟨t1,t2⟩:=bf n x hx J x.t (.inl rfl);rw[HK.out] at t2;obtain⟨T,hT⟩:=jX (target l n x.t);rw[hT] at z6 t1 t2;have T0:=jZ T;have T1:(T:Int)<(K:Int)+1:=jO;have bT:=I.Dy (i:=T) jO;obtain⟨bT0,bT1⟩:=bT;have H2:=aT (I.set (i:=T) t1 jO);have D:=H2.VH HK hx 7 jD;unfold Y5 Zp at D;simp only[aL,aF,hlt,if_true] at D;by_cases hbr:YV x.code=true
     ·have e2:AU l n x=(target l n x.f:Int):=by unfold AU;rw[aG hbr]
      rw[e2] at U D;obtain⟨s1,s2⟩:=bf n x hx J x.f (.inr rfl);rw[HK.out] at s2;obtain⟨F,hF⟩:=jX (target l n x.f);rw[hF] at U D s1 s2;have F0:=jZ F;have F1:(F:Int)<(K:Int)+1:=jO;obtain⟨bF0,bF1⟩:=H2.Dy (i:=F) jO;have H3:=aT (H2.set (i:=F) s1 jO);have A:Hid (XI l (upd (upd is T true) F true) (n+1)):=by
       refine((Y.up T jO).up F jO).next hx (λ_=>⟨λ_=> ?_,λ_=> ?_⟩)
       ·rw[hT];unfold upd;split;·rfl
        ·exact aG rfl
       ·rw[hF];exact upd_same _ _ _
      clear hx C Y e1 e2 hT hF t1 t2 s1 s2;go_wp2_with fail;go_roundg (K-n);case measure=>omega
      case rel=>exact⟨n+1,_,jO,jO,by go_num,H3,A⟩
     ·have e2:AU l n x= -1:=by unfold AU;rw[aN hbr]
      rw[e2] at U D;have A:Hid (XI l (upd is T true) (n+1)):=by refine(Y.up T jO).next hx (λ_=>⟨λ_=> ?_,λh=>absurd h hbr⟩);rw[hT];exact upd_same _ _ _
      clear hx C Y e1 e2 hT t1 t2;go_wp2_with fail;go_roundg (K-n);case measure=>omega
      case rel=>exact⟨n+1,_,jO,jO,by go_num,H2,A⟩
  ·obtain rfl:n=K:=by omega
   have Y8:¬(n:Int)<(n:Int):=jO;have En:Yw l n (Un is n) (λ_=>false) (λ_=>0)=Yw l n (λm=> !is m) (λ_=>false) (λ_=>0):=by
    apply agd;intro m;rw[Xw,Xw];cases hm:(Z6 l)[m]? with
    |none=>rfl
    |some x=>
     have:=(au.1 hm).1;rw[HK.out] at this;show some (Zp _ _ _ _ _ _ _)=some (Zp _ _ _ _ _ _ _);have e:Un is n m= !is m:=by unfold Un;rw[adb this];rfl
     unfold Zp;rw[e]
   have Vm:=aT En;clear En;go_wp2_with fail;go_end0;exact⟨rfl,is,Y,by rw[<-Vm.out];exact C.st,C.Zs⟩
end Go.Proofs.YtclgigmgbebhgaaGreatDoor
