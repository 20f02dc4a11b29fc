/- TopFirst: part 17: TopReach. -/
import Derived.Test.YtclgigmgbebhgaaGreatDoorF16
set_option linter.unusedVariables false
set_option linter.unusedSimpArgs false
set_option maxRecDepth 100000
set_option maxHeartbeats 16000000
namespace Go.Proofs.YtclgigmgbebhgaaGreatDoor
open Tryz
open Go Go.Proofs Go.RowKit
variable {K LO g gb:Nat} {is:Nat->Bool} {w W:World}
theorem J6{l q:List Z9}{y:Z9}(hF:ZR l)(hl:l=q++[y])(hy:y.mark=0){n:Nat}{x:Z9}(hx:(Z6 l)[n]? =some x)(J:x≠y){m:Int}(hm:m=x.t\/m=x.f):n+1<=target l n m/\target l n m<(Z6 l).length:=by
 obtain⟨p,r,e,D,hp⟩:=NX l n x hx;obtain⟨h1,h2⟩:=ZR.here p (e▸hF) D;have I:m≠0->m∈marks r:=by rcases hm with rfl|rfl<;>assumption
 have hr:=J9 e hl hy J;have C:∀Y y',l=Y++[y']->y'.mark=0:=λY y' Z=>by have:=Ur (hl.symm.trans Z);rw[<-this];exact hy
 have U:=Ia hF e D I hr C;obtain⟨_,_,_,T,_⟩:=Vi (e▸hF) D I;rw[<-e] at T;rw[hp] at U T;exact⟨T,U⟩
def XF(l:List Z9)(is:Nat->Bool)(n:Nat):Prop:=is 0=true/\∀m x,m<n->(Z6 l)[m]? =some x->is m=true->(x.code≠0x06->is (target l m x.t)=true)/\(YS x.code=true->is (target l m x.f)=true)
theorem XF.up{l:List Z9} {n:Nat}(h:XF l is n)(j:Nat)(J:n<=j):XF l (upd is j true) n:=by
 have hm:∀i,is i=true->upd is j true i=true:=λi hi=>by
  unfold upd;split;·rfl
  ·exact hi
 refine⟨hm 0 h.1,λm x C hx hi=> ?_⟩;rw[TF is true jO] at hi;obtain⟨I,D⟩:=h.2 m x C hx hi;exact⟨λhc=>hm _ (I hc),λhb=>hm _ (D hb)⟩
theorem XF.next{l:List Z9} {n:Nat}{x:Z9}(h:XF l is n)(hx:(Z6 l)[n]? =some x)(hn:is n=true->(x.code≠0x06->is (target l n x.t)=true)/\(YS x.code=true->is (target l n x.f)=true)):XF l is (n+1):=by
 refine⟨h.1,λm y hm hy hi=> ?_⟩;by_cases e:m=n;·subst e;rw[hx] at hy;cases hy;exact hn hi
 ·exact h.2 m y jO hy hi
def Ue(is:Nat->Bool)(K:Nat):List Bool:=(List.range (K+1)).map is
def J5(b:Bool):List Value:=[.bool b]
theorem S5(is:Nat->Bool)(K:Nat):(Ue is K).length=K+1:=by unfold Ue;rw[aab,afe]
theorem U2 {i:Nat}(h:i<=K):(Ue is K)[i]? =some (is i):=by
 unfold Ue;rw[acd,anf jO];rfl
theorem AU {i:Nat}(h:i<=K)(b:Bool):(Ue is K).set i b=Ue (upd is i b) K:=by
 apply agb;intro j;rw[List.getElem?_set,S5];by_cases C:i=j;·subst C;rw[aF rfl,aF jO,U2 h,upd_same]
 ·rw[aN C];by_cases hk:j<=K;·rw[U2 hk,U2 hk,TF is b (ame C)]
  ·rw[ahg (by rw[S5];omega),ahg (by rw[S5];omega)]
def Ud(is:Nat->Bool)(n:Nat):Nat->Bool:=λm=>decide (m<n) && !is m
theorem kr(is:Nat->Bool){n j:Nat}(h:n<=j)(b:Bool):Ud (upd is j b) n=Ud is n:=by
 funext m
 unfold Ud;by_cases hm:m<n;·rw[TF is b jO]
 ·rw[aeg hm];rfl
theorem vB{l:List Z9}{K n:Nat}{x:Z9} (hx:(Z6 l)[n]? =some x)(d:Nat)(far:Nat->Bool)(at_:Nat->Nat):(Yo l d (Ud is n) far at_).set n {Zn l d (Ud is n) far at_ n x with ZU:= !is n}=Yo l d (Ud is (n+1)) far at_:=by
 rw[S7 (l:=l) (d:=d) (d':=d) (ZU:=Ud is n) (AV:=Ud is (n+1)) (J8:=far) (at':=at_) hx (λm x hm=>by
  have e:Ud is (n+1) m=Ud is n m:=by unfold Ud;rw[show decide (m<n+1)=decide (m<n) by rw[axf];omega]
  unfold Zn;rw[e])]
 congr 1
 unfold Zn Ud;simp
structure Lr(LO g c K gb:Nat)(l:List Z9)(w W:World)(is:Nat->Bool)(n:Nat):Prop where
 Zr:Below LO w W
 st:W.ownsRow LO S8 11 (.slice (some ⟨g,0,none⟩) K c) K ((Yo l K (Ud is n) (λ_=>false) (λ_=>0)).flatMap Y0)
 bo:W.ownsRow LO 4 1 (.slice (some ⟨gb,0,none⟩) (K+1) (K+1)) (K+1) ((Ue is K).flatMap J5)
 lo:LO<=w.heap.size/\LO<=g/\LO<=gb
theorem Lr.ZU{c n:Nat}{l:List Z9}{x:Z9}(h:Lr LO g c K gb l w W is n)(hx:(Z6 l)[n]? =some x):Lr LO g c K gb l w (W.setCell ⟨g,n*11+10,none⟩ (.bool (!is n))) is (n+1):=by
 obtain⟨C,D⟩:=Vj (f:=Y0) (k:=11) (λ_=>rfl) h.st (i:=n) (j:=10) (u:=.bool (!is n)) (x:=Zn l K (Ud is n) (λ_=>false) (λ_=>0) n x) (x':={Zn l K (Ud is n) (λ_=>false) (λ_=>0) n x with ZU:= !is n}) (VZ hx) jD rfl;rw[vB (K:=K) hx] at C;exact⟨h.Zr.setCell (p:=⟨g,_,none⟩) h.lo.2.1 _,C,Xn h.st D h.bo jD,h.lo⟩
theorem Lr.set{c n i:Nat}{l:List Z9}(h:Lr LO g c K gb l w W is n)(hi:n<=i)(C:i<=K):Lr LO g c K gb l w (W.setCell ⟨gb,i,none⟩ (.bool true)) (upd is i true) n:=by
 obtain⟨I,D⟩:=Vj (f:=J5) (k:=1) (λ_=>rfl) h.bo (i:=i) (j:=0) (u:=.bool true) (x:=is i) (x':=true) (U2 C) jD rfl;rw[AU C,aqa,aec] at I;rw[aqa,aec] at D;exact⟨h.Zr.setCell (p:=⟨gb,_,none⟩) h.lo.2.2 _,by rw[kr is hi];exact Xn h.bo D h.st jD,I,h.lo⟩
theorem Lr.Dv{c n i:Nat}{l:List Z9}(h:Lr LO g c K gb l w W is n)(D:i<=K):W.cell? ⟨gb,i,none⟩=some (.bool (is i))/\W.frozen? ⟨gb,i,none⟩=false:=by
 obtain⟨g',e,_,hc⟩:=X9 J5 1 (λ_=>rfl) (S5 is K) h.bo (U2 D);cases e;have C:=hc 0 jD;simp only[J5,aqa,aec,aM] at C;exact⟨C,h.bo.frozenAt i⟩
theorem Lr.Vv{c n m:Nat}{l:List Z9}{x:Z9}(h:Lr LO g c K gb l w W is n)(hk:(Z6 l).length=K)(hx:(Z6 l)[m]? =some x)(j:Nat)(C:j<11):W.cell? ⟨g,m*11+j,none⟩=(Y0 (Zn l K (Ud is n) (λ_=>false) (λ_=>0) m x))[j]? :=by
 obtain⟨g',e,_,hc⟩:=X9 Y0 11 (λ_=>rfl) ((V0 _ _ _ _ _).trans hk) h.st (VZ hx);cases e;exact hc j C
theorem Du{c:Nat}{l q:List Z9}{y:Z9}(hK:(Z6 l).length=K)(Xo:K<=1000000)(hF:ZR l)(hO:∀x∈l,I6 x)(hl:l=q++[y])(hy:y.mark=0)(Dy:y.code=0x06)(w:World)(hst:w.ownsRow LO S8 11 (.slice (some ⟨g,0,none⟩) K c) K ((Yo l K (λ_=>false) (λ_=>false) (λ_=>0)).flatMap Y0))(VS:LO<=w.heap.size)(hg:LO<=g):
 Calls prog 111 #[.slice (some ⟨g,0,none⟩) K c] w λe w'=>e=.returned (.tuple #[])/\∃is,XF l is K/\w'.ownsRow LO S8 11 (.slice (some ⟨g,0,none⟩) K c) K ((Yo l K (λm=> !is m) (λ_=>false) (λ_=>0)).flatMap Y0)/\Below LO w w':=by
 obtain⟨iB,hi,hz0,hz1,hz2⟩:=ZP (show(prog.info? 4).map (λi=>(i.zero,i.size,i.bytes))=some (some (.bool false),1,1) from jK);obtain⟨w1,zk,hbo,hgr⟩:=run_make_full (P:=prog) w LO 303 4 iB (.bool false) 1 underlying303 hi hz0 hz1 .i64 .i64 (K+1) (by rw[hz2];omega) (by unfold maxLen;omega) VS;simp only[ave,aza] at zk;have ak1:w1.ownsRow LO 4 1 (.slice (some ⟨w.heap.size,0,none⟩) (K+1) (K+1)) (K+1) ((Ue (λ_=>false) K).flatMap J5):=by
  have e:(madeCells (Value.bool false).cells ((K+1)*1)).toList=(Ue (λ_=>false) K).flatMap J5:=by
   rw[aqa,show(Value.bool false).cells=#[.bool false] from rfl,toList_madeCells_one];unfold Ue J5;rw[<-List.map_eq_flatMap,akd];apply agb;intro j;rw[List.getElem?_replicate,acd];by_cases hj:j<K+1;·rw[aF hj,anf hj];rfl
   ·rw[aN hj,ahg (by rw[afe];omega)];rfl
  rw[<-e];exact hbo
 have hR0:Lr LO g c K w.heap.size l w w1 (λ_=>false) 0:=by
  refine⟨(aG LO w).grown hgr VS (λk e=>by cases e),?_,ak1,VS,hg,VS⟩;have e:Ud (λ_=>false) 0=λ_=>false:=by
   funext m
   unfold Ud;rw[aeg (akf m)];rfl
  rw[e];exact hst.kept hgr (.inr (λe=>by cases e))
 have hR1:=hR0.set (aR 0) (abd K);obtain⟨b0,b1⟩:=hR0.Dv (abd K);have D:=aT hR1;have HK:=aT hK;have bB:=aT (λ(n:Nat) (x:Z9) (hx:(Z6 l)[n]? =some x) (Y:x.code≠0x06) (m:Int) (hm:m=x.t\/m=x.f)=>J6 hF hl hy hx (λe=>Y (by rw[e];exact Dy)) hm);have HO:=aT hO;have kw:=jW K;have kp:(0:Int)<(K:Int)+1:=jO;clear hbo ak1 hgr hR0 hR1 hst hF hO hl hy Dy hK;go_enter func111,ntmps111;go_upto_region 3 with fail;generalize w1.setCell ⟨w.heap.size,0,none⟩ (.bool true)=w2 at*;generalize w.heap.size=gb at*;clear b0 b1 zk;go_loopg [13] (K+1) (λgg iv wr=>∃(n:Nat) (is:Nat->Bool),n<=K/\K-n<gg/\iv=.int .i64 (n:Int)/\Hid (Lr LO g c K gb l w wr is n)/\Hid (XF l is n));case atStart=>exact⟨0,_,abd _,jO,rfl,D,upd_same _ _ _,λm x h=>absurd h (akf m)⟩
 case round=>
  obtain⟨n,is,hnK,Vs,rfl,D,U⟩:=hrel;have n0:=jZ n;by_cases hlt:n<K
  ·have Zd:(n:Int)<(K:Int):=by omega
   have aF5:(n:Int)<(K:Int)+1:=jO;have iw:=jW n;obtain⟨x,hx⟩:∃x,(Z6 l)[n]? =some x:=⟨_,aL (by rw[HK.out];exact hlt)⟩;have hne:¬g=gb:=λe=>by
    rcases D.out.st.2 with⟨e1,_⟩|⟨g1,c1,cur,e1,_,h1,_⟩
    ·cases e1
    ·cases e1;exact YQ D.bo (show Z7 wr g S8 cur from h1) jD (by rw[e];rfl)
   have bA:¬gb=g:=λe=>hne e.symm
   have b0:=(D.Dv hnK).1;have y10:=D.Vv HK hx 10 jD;have f10:=D.st.frozenAt (n*11+10);unfold Y0 Zn at y10;simp only[aM,aH] at y10;have J:=aT (D.ZU hx);have HX:=aT hx;obtain⟨hc,_⟩:=(HO x (NV hx).1).2 (NV hx).2;have b1:=(J.Dv hnK).1;have z6:=J.Vv HK hx 6 jD;have Z:=J.Vv HK hx 7 jD;unfold Y0 Zn at z6 Z;simp only[aM,aH,hlt,if_true] at z6 Z;cases hb:is n with
   |false=>
    rw[hb] at b0 b1 z6 Z;have C:=aT (U.next hx (λh=>by rw[hb] at h;cases h));rw[hb] at J;clear hx D U;go_wp2_with fail;go_roundg (K-n);case measure=>omega
    case rel=>exact⟨n+1,is,jO,jO,by go_num,J,C⟩
   |true=>
    rw[hb] at b0 b1 z6 Z J;rw[Bool.not_true] at b1 z6 Z J;by_cases Y:x.code=0x06
    ·have e1:NW l n x= -1:=by unfold NW;rw[aF Y]
     have e2:AW l n x= -1:=by unfold AW;rw[Y];rfl
     rw[e1] at z6;rw[e2] at Z;have C:=aT (U.next hx (λ_=>⟨λh=>absurd Y h,λh=>by rw[Y] at h;cases h⟩));clear hx D U e1 e2;go_wp2_with fail;go_roundg (K-n);case measure=>omega
     case rel=>exact⟨n+1,is,jO,jO,by go_num,J,C⟩
    ·have e1:NW l n x=(target l n x.t:Int):=by unfold NW;rw[aN Y]
     rw[e1] at z6;obtain⟨t1,t2⟩:=bB n x hx Y x.t (.inl rfl);rw[HK.out] at t2;obtain⟨T,hT⟩:=jX (target l n x.t);rw[hT] at z6 t1 t2;have T0:=jZ T;have T1:(T:Int)<(K:Int)+1:=jO;have bT:=J.Dv (i:=T) jO;obtain⟨bT0,bT1⟩:=bT;have H2:=aT (J.set (i:=T) t1 jO);have I:=H2.Vv HK hx 7 jD;unfold Y0 Zn at I;simp only[aM,aH,hlt,if_true] at I;by_cases hbr:YS x.code=true
     ·have e2:AW l n x=(target l n x.f:Int):=by unfold AW;rw[aF hbr]
      rw[e2] at Z I;obtain⟨s1,s2⟩:=bB n x hx Y x.f (.inr rfl);rw[HK.out] at s2;obtain⟨F,hF⟩:=jX (target l n x.f);rw[hF] at Z I s1 s2;have F0:=jZ F;have F1:(F:Int)<(K:Int)+1:=jO;obtain⟨bF0,bF1⟩:=H2.Dv (i:=F) jO;have H3:=aT (H2.set (i:=F) s1 jO);have C:Hid (XF l (upd (upd is T true) F true) (n+1)):=by
       refine((U.up T jO).up F jO).next hx (λ_=>⟨λ_=> ?_,λ_=> ?_⟩)
       ·rw[hT];unfold upd;split;·rfl
        ·exact aF rfl
       ·rw[hF];exact upd_same _ _ _
      clear hx D U e1 e2 hT hF t1 t2 s1 s2;go_wp2_with fail;go_roundg (K-n);case measure=>omega
      case rel=>exact⟨n+1,_,jO,jO,by go_num,H3,C⟩
     ·have e2:AW l n x= -1:=by unfold AW;rw[aN hbr]
      rw[e2] at Z I;have C:Hid (XF l (upd is T true) (n+1)):=by refine(U.up T jO).next hx (λ_=>⟨λ_=> ?_,λh=>absurd h hbr⟩);rw[hT];exact upd_same _ _ _
      clear hx D U e1 e2 hT t1 t2;go_wp2_with fail;go_roundg (K-n);case measure=>omega
      case rel=>exact⟨n+1,_,jO,jO,by go_num,H2,C⟩
  ·obtain rfl:n=K:=by omega
   have Zd:¬(n:Int)<(n:Int):=jO;have Ji:Yo l n (Ud is n) (λ_=>false) (λ_=>0)=Yo l n (λm=> !is m) (λ_=>false) (λ_=>0):=by
    apply agb;intro m;rw[Xt,Xt];cases hm:(Z6 l)[m]? with
    |none=>rfl
    |some x=>
     have:=(ak.1 hm).1;rw[HK.out] at this;show some (Zn _ _ _ _ _ _ _)=some (Zn _ _ _ _ _ _ _);have e:Ud is n m= !is m:=by unfold Ud;rw[acb this];rfl
     unfold Zn;rw[e]
   have RZ:=aT Ji;clear Ji;go_wp2_with fail;go_end0;exact⟨rfl,is,U,by rw[<-RZ.out];exact D.st,D.Zr⟩
end Go.Proofs.YtclgigmgbebhgaaGreatDoor
