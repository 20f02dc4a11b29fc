/- TopAsks: part 17: TopReach. -/
import Derived.Test.YtclgigmgbebhgaaGreatDoorA16
set_option linter.unusedVariables false
set_option linter.unusedSimpArgs false
set_option maxRecDepth 100000
set_option maxHeartbeats 16000000
namespace Go.Proofs.YtclgigmgbebhgaaGreatDoor
open Tryz
open Go Go.Proofs Go.RowKit
variable {K LO g gb:Nat} {is:Nat->Bool} {w W:World}
theorem Ky{l q:List Z9}{y:Z9}(hF:ZT l)(hl:l=q++[y])(hy:y.mark=0){n:Nat}{x:Z9}(hx:(Z6 l)[n]? =some x)(I:x≠y){m:Int}(hm:m=x.t\/m=x.f):n+1<=target l n m/\target l n m<(Z6 l).length:=by
 obtain⟨p,r,e,A,hp⟩:=Oj l n x hx;obtain⟨h1,Z⟩:=ZT.here p (e▸hF) A;have D:m≠0->m∈marks r:=by rcases hm with rfl|rfl<;>assumption
 have hr:=KB e hl hy I;have C:∀T y',l=T++[y']->y'.mark=0:=λT y' Y=>by have:=UI (hl.symm.trans Y);rw[<-this];exact hy
 have U:=IU hF e A D hr C;obtain⟨_,_,_,J,_⟩:=Vv (e▸hF) A D;rw[<-e] at J;rw[hp] at U J;exact⟨J,U⟩
def XI(l:List Z9)(is:Nat->Bool)(n:Nat):Prop:=is 0=true/\∀m x,m<n->(Z6 l)[m]? =some x->is m=true->(x.code≠0x06->is (target l m x.t)=true)/\(YW x.code=true->is (target l m x.f)=true)
theorem XI.up{l:List Z9} {n:Nat}(h:XI l is n)(j:Nat)(I:n<=j):XI l (upd is j true) n:=by
 have hm:∀i,is i=true->upd is j true i=true:=λi hi=>by
  unfold upd;split;·rfl
  ·exact hi
 refine⟨hm 0 h.1,λm x A hx hi=> ?_⟩;rw[TV is true jO] at hi;obtain⟨D,C⟩:=h.2 m x A hx hi;exact⟨λhc=>hm _ (D hc),λhb=>hm _ (C hb)⟩
theorem XI.next{l:List Z9} {n:Nat}{x:Z9}(h:XI l is n)(hx:(Z6 l)[n]? =some x)(hn:is n=true->(x.code≠0x06->is (target l n x.t)=true)/\(YW x.code=true->is (target l n x.f)=true)):XI l is (n+1):=by
 refine⟨h.1,λm y hm hy hi=> ?_⟩;by_cases e:m=n;·subst e;rw[hx] at hy;cases hy;exact hn hi
 ·exact h.2 m y jO hy hi
def Ut(is:Nat->Bool)(K:Nat):List Bool:=(List.range (K+1)).map is
def Kw(b:Bool):List Value:=[.bool b]
theorem Tn(is:Nat->Bool)(K:Nat):(Ut is K).length=K+1:=by unfold Ut;rw[aac,afe]
theorem Vg {i:Nat}(h:i<=K):(Ut is K)[i]? =some (is i):=by
 unfold Ut;rw[ada,aoa jO];rfl
theorem BF {i:Nat}(h:i<=K)(b:Bool):(Ut is K).set i b=Ut (upd is i b) K:=by
 apply agb;intro j;rw[List.getElem?_set,Tn];by_cases A:i=j;·subst A;rw[aH rfl,aH jO,Vg h,upd_same]
 ·rw[aN A];by_cases hk:j<=K;·rw[Vg hk,Vg hk,TV is b (ana A)]
  ·rw[ahg (by rw[Tn];omega),ahg (by rw[Tn];omega)]
def Us(is:Nat->Bool)(n:Nat):Nat->Bool:=λm=>decide (m<n) && !is m
theorem kC(is:Nat->Bool){n j:Nat}(h:n<=j)(b:Bool):Us (upd is j b) n=Us is n:=by
 funext m
 unfold Us;by_cases hm:m<n;·rw[TV is b jO]
 ·rw[aee hm];rfl
theorem vY{l:List Z9}{K n:Nat}{x:Z9} (hx:(Z6 l)[n]? =some x)(d:Nat)(far:Nat->Bool)(at_:Nat->Nat):(Yu l d (Us is n) far at_).set n {Zp l d (Us is n) far at_ n x with ZV:= !is n}=Yu l d (Us is (n+1)) far at_:=by
 rw[Tq (l:=l) (d:=d) (d':=d) (ZV:=Us is n) (BG:=Us is (n+1)) (KA:=far) (at':=at_) hx (λm x hm=>by
  have e:Us is (n+1) m=Us is n m:=by unfold Us;rw[show decide (m<n+1)=decide (m<n) by rw[axf];omega]
  unfold Zp;rw[e])]
 congr 1
 unfold Zp Us;simp
structure LW(LO g c K gb:Nat)(l:List Z9)(w W:World)(is:Nat->Bool)(n:Nat):Prop where
 Zs:Below LO w W
 st:W.ownsRow LO Tr 11 (.slice (some ⟨g,0,none⟩) K c) K ((Yu l K (Us is n) (λ_=>false) (λ_=>0)).flatMap Y5)
 bo:W.ownsRow LO 4 1 (.slice (some ⟨gb,0,none⟩) (K+1) (K+1)) (K+1) ((Ut is K).flatMap Kw)
 lo:LO<=w.heap.size/\LO<=g/\LO<=gb
theorem LW.ZV{c n:Nat}{l:List Z9}{x:Z9}(h:LW LO g c K gb l w W is n)(hx:(Z6 l)[n]? =some x):LW LO g c K gb l w (W.setCell ⟨g,n*11+10,none⟩ (.bool (!is n))) is (n+1):=by
 obtain⟨A,C⟩:=Vw (f:=Y5) (k:=11) (λ_=>rfl) h.st (i:=n) (j:=10) (u:=.bool (!is n)) (x:=Zp l K (Us is n) (λ_=>false) (λ_=>0) n x) (x':={Zp l K (Us is n) (λ_=>false) (λ_=>0) n x with ZV:= !is n}) (V6 hx) jD rfl;rw[vY (K:=K) hx] at A;exact⟨h.Zs.setCell (p:=⟨g,_,none⟩) h.lo.2.1 _,A,Xs h.st C h.bo jD,h.lo⟩
theorem LW.set{c n i:Nat}{l:List Z9}(h:LW LO g c K gb l w W is n)(hi:n<=i)(D:i<=K):LW LO g c K gb l w (W.setCell ⟨gb,i,none⟩ (.bool true)) (upd is i true) n:=by
 obtain⟨A,C⟩:=Vw (f:=Kw) (k:=1) (λ_=>rfl) h.bo (i:=i) (j:=0) (u:=.bool true) (x:=is i) (x':=true) (Vg D) jD rfl;rw[BF D,aqc,aec] at A;rw[aqc,aec] at C;exact⟨h.Zs.setCell (p:=⟨gb,_,none⟩) h.lo.2.2 _,by rw[kC is hi];exact Xs h.bo C h.st jD,A,h.lo⟩
theorem LW.D6{c n i:Nat}{l:List Z9}(h:LW LO g c K gb l w W is n)(C:i<=K):W.cell? ⟨gb,i,none⟩=some (.bool (is i))/\W.frozen? ⟨gb,i,none⟩=false:=by
 obtain⟨g',e,_,hc⟩:=Ye Kw 1 (λ_=>rfl) (Tn is K) h.bo (Vg C);cases e;have A:=hc 0 jD;simp only[Kw,aqc,aec,aL] at A;exact⟨A,h.bo.frozenAt i⟩
theorem LW.VF{c n m:Nat}{l:List Z9}{x:Z9}(h:LW LO g c K gb l w W is n)(hk:(Z6 l).length=K)(hx:(Z6 l)[m]? =some x)(j:Nat)(A:j<11):W.cell? ⟨g,m*11+j,none⟩=(Y5 (Zp l K (Us is n) (λ_=>false) (λ_=>0) m x))[j]? :=by
 obtain⟨g',e,_,hc⟩:=Ye Y5 11 (λ_=>rfl) ((V7 _ _ _ _ _).trans hk) h.st (V6 hx);cases e;exact hc j A
theorem D5{c:Nat}{l q:List Z9}{y:Z9}(hK:(Z6 l).length=K)(XA:K<=1000000)(hF:ZT l)(hO:∀x∈l,JD x)(hl:l=q++[y])(hy:y.mark=0)(D8:y.code=0x06)(w:World)(hst:w.ownsRow LO Tr 11 (.slice (some ⟨g,0,none⟩) K c) K ((Yu l K (λ_=>false) (λ_=>false) (λ_=>0)).flatMap Y5))(U:LO<=w.heap.size)(hg:LO<=g):
 Calls prog 111 #[.slice (some ⟨g,0,none⟩) K c] w λe w'=>e=.returned (.tuple #[])/\∃is,XI l is K/\w'.ownsRow LO Tr 11 (.slice (some ⟨g,0,none⟩) K c) K ((Yu l K (λm=> !is m) (λ_=>false) (λ_=>0)).flatMap Y5)/\Below LO w w':=by
 obtain⟨iB,hi,hz0,hz1,hz2⟩:=ZQ (show(prog.info? 4).map (λi=>(i.zero,i.size,i.bytes))=some (some (.bool false),1,1) from jK);obtain⟨w1,zx,hbo,hgr⟩:=run_make_full (P:=prog) w LO 303 4 iB (.bool false) 1 underlying303 hi hz0 hz1 .i64 .i64 (K+1) (by rw[hz2];omega) (by unfold maxLen;omega) U;simp only[avd,azb] at zx;have ah8:w1.ownsRow LO 4 1 (.slice (some ⟨w.heap.size,0,none⟩) (K+1) (K+1)) (K+1) ((Ut (λ_=>false) K).flatMap Kw):=by
  have e:(madeCells (Value.bool false).cells ((K+1)*1)).toList=(Ut (λ_=>false) K).flatMap Kw:=by
   rw[aqc,show(Value.bool false).cells=#[.bool false] from rfl,toList_madeCells_one];unfold Ut Kw;rw[<-List.map_eq_flatMap,akb];apply agb;intro j;rw[List.getElem?_replicate,ada];by_cases hj:j<K+1;·rw[aH hj,aoa hj];rfl
   ·rw[aN hj,ahg (by rw[afe];omega)];rfl
  rw[<-e];exact hbo
 have hR0:LW LO g c K w.heap.size l w w1 (λ_=>false) 0:=by
  refine⟨(aG LO w).grown hgr U (λk e=>by cases e),?_,ah8,U,hg,U⟩;have e:Us (λ_=>false) 0=λ_=>false:=by
   funext m
   unfold Us;rw[aee (ake m)];rfl
  rw[e];exact hst.kept hgr (.inr (λe=>by cases e))
 have hR1:=hR0.set (aP 0) (abb K);obtain⟨b0,b1⟩:=hR0.D6 (abb K);have C:=aT hR1;have HK:=aT hK;have bV:=aT (λ(n:Nat) (x:Z9) (hx:(Z6 l)[n]? =some x) (Y:x.code≠0x06) (m:Int) (hm:m=x.t\/m=x.f)=>Ky hF hl hy hx (λe=>Y (by rw[e];exact D8)) hm);have HO:=aT hO;have kw:=jW K;have kp:(0:Int)<(K:Int)+1:=jO;clear hbo ah8 hgr hR0 hR1 hst hF hO hl hy D8 hK;go_enter func111,ntmps111;go_upto_region 3 with fail;generalize w1.setCell ⟨w.heap.size,0,none⟩ (.bool true)=w2 at*;generalize w.heap.size=gb at*;clear b0 b1 zx;go_loopg [13] (K+1) (λgg iv wr=>∃(n:Nat) (is:Nat->Bool),n<=K/\K-n<gg/\iv=.int .i64 (n:Int)/\Hid (LW LO g c K gb l w wr is n)/\Hid (XI l is n));case atStart=>exact⟨0,_,abb _,jO,rfl,C,upd_same _ _ _,λm x h=>absurd h (ake m)⟩
 case round=>
  obtain⟨n,is,hnK,VM,rfl,C,J⟩:=hrel;have n0:=jZ n;by_cases hlt:n<K
  ·have Zc:(n:Int)<(K:Int):=by omega
   have aA5:(n:Int)<(K:Int)+1:=jO;have iw:=jW n;obtain⟨x,hx⟩:∃x,(Z6 l)[n]? =some x:=⟨_,aM (by rw[HK.out];exact hlt)⟩;have hne:¬g=gb:=λe=>by
    rcases C.out.st.2 with⟨e1,_⟩|⟨g1,c1,cur,e1,_,h1,_⟩
    ·cases e1
    ·cases e1;exact YU C.bo (show Z8 wr g Tr cur from h1) jD (by rw[e];rfl)
   have bU:¬gb=g:=λe=>hne e.symm
   have b0:=(C.D6 hnK).1;have y10:=C.VF HK hx 10 jD;have f10:=C.st.frozenAt (n*11+10);unfold Y5 Zp at y10;simp only[aL,aF] at y10;have I:=aT (C.ZV hx);have HX:=aT hx;obtain⟨hc,_⟩:=(HO x (Oh hx).1).2 (Oh hx).2;have b1:=(I.D6 hnK).1;have z6:=I.VF HK hx 6 jD;have Z:=I.VF HK hx 7 jD;unfold Y5 Zp at z6 Z;simp only[aL,aF,hlt,if_true] at z6 Z;cases hb:is n with
   |false=>
    rw[hb] at b0 b1 z6 Z;have A:=aT (J.next hx (λh=>by rw[hb] at h;cases h));rw[hb] at I;clear hx C J;go_wp2_with fail;go_roundg (K-n);case measure=>omega
    case rel=>exact⟨n+1,is,jO,jO,by go_num,I,A⟩
   |true=>
    rw[hb] at b0 b1 z6 Z I;rw[Bool.not_true] at b1 z6 Z I;by_cases Y:x.code=0x06
    ·have e1:Oi l n x= -1:=by unfold Oi;rw[aH Y]
     have e2:BH l n x= -1:=by unfold BH;rw[Y];rfl
     rw[e1] at z6;rw[e2] at Z;have A:=aT (J.next hx (λ_=>⟨λh=>absurd Y h,λh=>by rw[Y] at h;cases h⟩));clear hx C J e1 e2;go_wp2_with fail;go_roundg (K-n);case measure=>omega
     case rel=>exact⟨n+1,is,jO,jO,by go_num,I,A⟩
    ·have e1:Oi l n x=(target l n x.t:Int):=by unfold Oi;rw[aN Y]
     rw[e1] at z6;obtain⟨t1,t2⟩:=bV n x hx Y x.t (.inl rfl);rw[HK.out] at t2;obtain⟨T,hT⟩:=jX (target l n x.t);rw[hT] at z6 t1 t2;have T0:=jZ T;have T1:(T:Int)<(K:Int)+1:=jO;have bT:=I.D6 (i:=T) jO;obtain⟨bT0,bT1⟩:=bT;have H2:=aT (I.set (i:=T) t1 jO);have D:=H2.VF HK hx 7 jD;unfold Y5 Zp at D;simp only[aL,aF,hlt,if_true] at D;by_cases hbr:YW x.code=true
     ·have e2:BH l n x=(target l n x.f:Int):=by unfold BH;rw[aH hbr]
      rw[e2] at Z D;obtain⟨s1,s2⟩:=bV n x hx Y x.f (.inr rfl);rw[HK.out] at s2;obtain⟨F,hF⟩:=jX (target l n x.f);rw[hF] at Z D s1 s2;have F0:=jZ F;have F1:(F:Int)<(K:Int)+1:=jO;obtain⟨bF0,bF1⟩:=H2.D6 (i:=F) jO;have H3:=aT (H2.set (i:=F) s1 jO);have A:Hid (XI l (upd (upd is T true) F true) (n+1)):=by
       refine((J.up T jO).up F jO).next hx (λ_=>⟨λ_=> ?_,λ_=> ?_⟩)
       ·rw[hT];unfold upd;split;·rfl
        ·exact aH rfl
       ·rw[hF];exact upd_same _ _ _
      clear hx C J e1 e2 hT hF t1 t2 s1 s2;go_wp2_with fail;go_roundg (K-n);case measure=>omega
      case rel=>exact⟨n+1,_,jO,jO,by go_num,H3,A⟩
     ·have e2:BH l n x= -1:=by unfold BH;rw[aN hbr]
      rw[e2] at Z D;have A:Hid (XI l (upd is T true) (n+1)):=by refine(J.up T jO).next hx (λ_=>⟨λ_=> ?_,λh=>absurd h hbr⟩);rw[hT];exact upd_same _ _ _
      clear hx C J e1 e2 hT t1 t2;go_wp2_with fail;go_roundg (K-n);case measure=>omega
      case rel=>exact⟨n+1,_,jO,jO,by go_num,H2,A⟩
  ·obtain rfl:n=K:=by omega
   have Zc:¬(n:Int)<(n:Int):=jO;have EL:Yu l n (Us is n) (λ_=>false) (λ_=>0)=Yu l n (λm=> !is m) (λ_=>false) (λ_=>0):=by
    apply agb;intro m;rw[Xw,Xw];cases hm:(Z6 l)[m]? with
    |none=>rfl
    |some x=>
     have:=(aq.1 hm).1;rw[HK.out] at this;show some (Zp _ _ _ _ _ _ _)=some (Zp _ _ _ _ _ _ _);have e:Us is n m= !is m:=by unfold Us;rw[ace this];rfl
     unfold Zp;rw[e]
   have Sl:=aT EL;clear EL;go_wp2_with fail;go_end0;exact⟨rfl,is,J,by rw[<-Sl.out];exact C.st,C.Zs⟩
end Go.Proofs.YtclgigmgbebhgaaGreatDoor
