/- TopFirst: part 39: SysRightP TopSysR. -/
import Derived.Test.YtclgigmgbebhgaaGreatDoorF38
set_option linter.unusedVariables false
set_option linter.unusedSimpArgs false
set_option maxRecDepth 100000
set_option maxHeartbeats 16000000
namespace Go.Proofs.YtclgigmgbebhgaaGreatDoor.Z4
open Tryz
open Go Go.Proofs Go.RowKit
theorem iG(a b:List UInt8):(Op.bytesLess a b=true\/a=b)↔Op.bytesLess b a=false:=by
 rw[<-rB,<-rz,Bool.eq_false_iff,Ne,<-rA];omega
theorem aD6{B:Nat}{a w:World}(h:Below B a w)(q:Nat):Below B a (w.drewN q):=⟨h.os,h.tape,h.output,h.size,h.block⟩
theorem nS(b off c:Nat)(l:List Z1)(w:World)(KH:l.length<=1000000)(hb:b<w.heap.size)(hr:Tf w b off l)(hsz:∀r∈l,r.name.size<=9223372036854775807):
 Calls prog 76 #[.slice (some ⟨b,off,none⟩) l.length c] w (Ij l w):=by
 have Hr:=aT hr;have ao4:∀i,i<l.length->(l[i]!).name.size<=9223372036854775807:=λi hi=>hsz _ (by simp[hi])
 have Hsz:=aT ao4;clear hr hsz ao4;show Calls _ _ _ _ (Ko l.length l w);obtain⟨n,hn⟩:=jX l.length;rw[hn] at KH Hsz ⊢;have Hn:=aT hn;clear hn;by_cases h4:400<n
 ·have h4z:(400:Int)<(n:Int):=by omega
  go_enter func76,ntmps76;go_wp2;go_ret2;exact⟨_,_,rfl,.inl ⟨h4,rfl,rfl⟩,aG _ w⟩
 ·have h4z:¬(400:Int)<(n:Int):=by omega
  have eu:=XN.made w;have et:=aT eu;have Jj:= @aog prog;clear eu;go_enter func76,ntmps76;go_wp2;go_loopg [16] n (λgg s16 wr=>∃J:Nat,J<=n/\n-J<=gg/\s16=.int .i64 J/\Hid (Below w.heap.size w wr)/\Hid (∃S,XN wr w.heap.size S/\Seen l J S)/\Hid (∀j,j<J->WZ l j 0));case atStart=>exact⟨0,abd _,jO,rfl,(aG _ w).alloc (aR _) _,⟨[],et.out,Seen.nil l⟩,λj hj=>absurd hj (akf _)⟩
  case round=>
   obtain⟨J,hkk,hg,rfl,C,HQ,HA⟩:=hrel;clear et Jj;by_cases hlt:J<n
   ·have Zd:(J:Int)<(n:Int):=by omega
    have hR:=(Hr.out.below C.out hb) J (by rw[Hn.out];exact hlt);have c0:=hR 0 _ rfl;have c1:=hR 1 _ rfl;have c2:=hR 2 _ rfl;have c3:=hR 3 _ rfl;have c4:=hR 4 _ rfl;have c5:=hR 5 _ rfl;have c6:=hR 6 _ rfl;have c7:=hR 7 _ rfl;simp only[aec] at c0;clear hR;have hsy:=Hsz.out J hlt;generalize hy:l[J]! =y at c0 c1 c2 c3 c4 c5 c6 c7 hsy;have HY:=aT hy;clear hy;have bX:=Z7.new wr 40 #[.string y.name,.int .i64 y.n0,.int .i64 y.n1,.int .i64 y.n2,.int .i64 y.n3,.int .i64 y.n4,.int .i64 y.Yp,.int .i64 y.sub];have Ae:=aT (C.out.alloc C.out.size (.cells #[.string y.name,.int .i64 y.n0,.int .i64 y.n1,.int .i64 y.n2,.int .i64 y.n3,.int .i64 y.n4,.int .i64 y.Yp,.int .i64 y.sub] 40));have HQ0:Hid (∃S,XN (wr.alloc (.cells #[.string y.name,.int .i64 y.n0,.int .i64 y.n1,.int .i64 y.n2,.int .i64 y.n3,.int .i64 y.n4,.int .i64 y.Yp,.int .i64 y.sub] 40)) w.heap.size S/\Seen l J S):=by obtain⟨S,Z,h2⟩:=HQ.out;exact⟨S,Z.alloc _,h2⟩
    have hne:w.heap.size<wr.heap.size:=by obtain⟨S,Z,h2⟩:=HQ.out;exact Z.lt
    have T:=aT bX;have vO:=GX y.name (wr.alloc (.cells #[.string y.name,.int .i64 y.n0,.int .i64 y.n1,.int .i64 y.n2,.int .i64 y.n3,.int .i64 y.n4,.int .i64 y.Yp,.int .i64 y.sub] 40)) hsy;have Hnm:=aT vO;clear bX vO HQ hsy C;go_wp2_with fail;refine Hnm.out.mono ?_;rintro e w1 ⟨v,rfl,hv,hb1⟩;clear Hnm c0 c1 c2 c3 c4 c5 c6 c7;have C:=aT (Ae.out.trans (hb1.mono Ae.out.size));have ad4:=aT (T.out.below hb1 T.out.lt);have HQ:Hid (∃S,XN w1 w.heap.size S/\Seen l J S):=by obtain⟨S,Z,h2⟩:=HQ0.out;exact⟨S,Z.below hb1 Z.lt,h2⟩
    clear Ae HQ0 T hb1;obtain⟨X,hX⟩:=jX wr.heap.size;rw[hX] at hne ad4;simp only[hX];have T:=ad4;clear ad4 hX;cases v with
    |false=>
     have HV:Hid (¬YC y.name):=λh=>absurd (hv.2 h) jS
     clear hv;go_wp2;go_ret2;exact⟨_,_,rfl,.inr ⟨jO,.inl ⟨J,hlt,rfl,jO,.inl ⟨rfl,by rw[HY.out];exact HV.out⟩,HA.out⟩⟩,C.out⟩
    |true=>
     have HV:Hid (YC y.name):=hv.1 rfl;clear hv;go_upto_region 10 with fail;go_cut [30] (λs30 wx=>∃v:Bool,s30=.bool v/\Hid (v=true↔Td l J)/\Hid (∃q,wx=w1.drewN q))
     case first=>
      have t0:=T.out.cell 0;have t1:=T.out.cell 1;have t2:=T.out.cell 2;have t3:=T.out.cell 3;have t4:=T.out.cell 4;have t5:=T.out.cell 5;have t6:=T.out.cell 6;have t7:=T.out.cell 7;simp only[au,aM,aH] at t0 t1 t2 t3 t4 t5 t6 t7;by_cases sL:J=0;·subst sL;have g0:decide ((0:Int)<0)=false:=rfl;go_quiet (fail);go_wp2_with fail;go_meet;exact⟨_,rfl,⟨λh=>(by cases h),λh=>absurd h.1 (asa 0)⟩,⟨nq,rfl⟩⟩
      ·obtain⟨j,hj⟩:∃j,J=j+1:=⟨J-1,jO⟩;have g0:decide ((0:Int)<(J:Int))=true:=acb jO;have hip:0<J:=jO;have g0n:decide (0<J)=true:=acb hip;have aL0:(J:Int)-1=(j:Int):=jO;have j0:=jZ j;have j1:(j:Int)<(n:Int):=jO;have ao5:=(Hr.out.below C.out hb).rH (j:=j) (by rw[Hn.out];omega);generalize Dx:(l[j]!).name=pn at ao5
       have dT:Td l J↔Op.bytesLess pn.toList y.name.toList=false:=by unfold Td;rw[show J-1=j from jO,Dx,HY.out];exact⟨λh=>h.2,λh=>⟨jO,h⟩⟩
       have gT:=aT dT;clear hj dT Dx;go_quiet (fail);go_wp2_with fail;go_meet;refine⟨_,rfl,(show Hid _ from ?_),⟨nq,rfl⟩⟩;rw[gT.out,<-iG];simp;try exact trivial
     case rest=>
      obtain⟨v,rfl,gT,hw⟩:=hcut;obtain⟨q,rfl⟩:=hw.out;have XX:=aT (aD6 C.out q);have HQ2:Hid (∃S,XN (w1.drewN q) w.heap.size S/\Seen l J S):=HQ.out;have Jv:Hid (Z7 (w1.drewN q) X 40 #[.string y.name,.int .i64 y.n0,.int .i64 y.n1,.int .i64 y.n2,.int .i64 y.n3,.int .i64 y.n4,.int .i64 y.Yp,.int .i64 y.sub]):=T.out;clear hw C HQ T;generalize w1.drewN q=W2 at*;cases v with
      |true=>
       go_wp2;go_ret2;exact⟨_,_,rfl,.inr ⟨jO,.inl ⟨J,hlt,rfl,jO,.inr ⟨by rw[HY.out];exact HV.out,.inl ⟨rfl,gT.out.1 jS⟩⟩,HA.out⟩⟩,XX.out⟩
      |false=>
       have HG:Hid (¬Td l J):=λh=>absurd (gT.out.2 h) jS
       clear gT;have t0:=Jv.out.cell 0;have t1:=Jv.out.cell 1;have t2:=Jv.out.cell 2;have t3:=Jv.out.cell 3;have t4:=Jv.out.cell 4;have t5:=Jv.out.cell 5;have t6:=Jv.out.cell 6;have t7:=Jv.out.cell 7;simp only[au,aM,aH] at t0 t1 t2 t3 t4 t5 t6 t7;have hrg:=Sn y W2;have Hrg:=aT hrg;clear hrg;go_wp2_with fail;refine Hrg.out.mono ?_;rintro e w3 ⟨v,rfl,hv,hb3⟩;clear t0 t1 t2 t3 t4 t5 t6 t7 Hrg;have C:=aT (XX.out.trans (hb3.mono XX.out.size));have T:=aT (Jv.out.below hb3 Jv.out.lt);have HQ:Hid (∃S,XN w3 w.heap.size S/\Seen l J S):=by obtain⟨S,Z,h2⟩:=HQ2.out;exact⟨S,Z.below hb3 Z.lt,h2⟩
       clear XX HQ2 Jv hb3;cases v with
       |false=>
        have LC:Hid (¬Pm y):=λh=>absurd (hv.2 h) jS
        clear hv;go_wp2;go_ret2;exact⟨_,_,rfl,.inr ⟨jO,.inl ⟨J,hlt,rfl,jO,.inr ⟨by rw[HY.out];exact HV.out,.inr ⟨HG.out,.inl ⟨rfl,by rw[HY.out];exact LC.out⟩⟩⟩,HA.out⟩⟩,C.out⟩
       |true=>
        have LC:Hid (Pm y):=hv.1 rfl;clear hv;by_cases n1:y.n2=102
        ·have n1':(y.n2 == 102)=true:=by simpa using n1
         have HN:Hid (Sb y):=.inl n1;clear n1;go_wp2;go_ret2;exact⟨_,_,rfl,.inr ⟨jO,.inl ⟨J,hlt,rfl,jO,.inr ⟨by rw[HY.out];exact HV.out,.inr ⟨HG.out,.inr ⟨by rw[HY.out];exact LC.out,.inl ⟨rfl,by rw[HY.out];exact HN.out⟩⟩⟩⟩,HA.out⟩⟩,C.out⟩
        have n1':(y.n2 == 102)=false:=by simpa using n1
        by_cases n2:y.n2=117
        ·have n2':(y.n2 == 117)=true:=by simpa using n2
         have HN:Hid (Sb y):=.inr n2;clear n1 n2;go_wp2;go_ret2;exact⟨_,_,rfl,.inr ⟨jO,.inl ⟨J,hlt,rfl,jO,.inr ⟨by rw[HY.out];exact HV.out,.inr ⟨HG.out,.inr ⟨by rw[HY.out];exact LC.out,.inl ⟨rfl,by rw[HY.out];exact HN.out⟩⟩⟩⟩,HA.out⟩⟩,C.out⟩
        have n2':(y.n2 == 117)=false:=by simpa using n2
        have HN:Hid (¬Sb y):=λh=>h.elim n1 n2
        clear n1 n2;have t0:=T.out.cell 0;have t1:=T.out.cell 1;have t2:=T.out.cell 2;have t3:=T.out.cell 3;have t4:=T.out.cell 4;have t5:=T.out.cell 5;have t6:=T.out.cell 6;have t7:=T.out.cell 7;simp only[au,aM,aH] at t0 t1 t2 t3 t4 t5 t6 t7;have HQX:Hid (∃S,XN w3 w.heap.size S/\YH l J y 0 S):=by obtain⟨S,Z,h2⟩:=HQ.out;exact⟨S,Z,h2.start y⟩
        have HQ:=HQX;clear HQX;go_wp2;clear t0 t1 t2 t3 t4 t5 t6 t7;obtain⟨wo,hwo⟩:∃wo:World,wo=w3:=⟨_,rfl⟩;go_loopg [60] 5 (λgg s60 wr=>∃k2:Nat,k2<=5/\5-k2<=gg/\s60=.int .i64 k2/\Hid (Below w.heap.size w wr)/\Hid (∃S,XN wr w.heap.size S/\YH l J y k2 S)/\Hid (Z7 wr X 40 #[.string y.name,.int .i64 y.n0,.int .i64 y.n1,.int .i64 y.n2,.int .i64 y.n3,.int .i64 y.n4,.int .i64 y.Yp,.int .i64 y.sub])/\Hid (∀k,k<J->∀a,a<k2->0<=y.num a->¬(l[k]!).num a=y.num a));case atStart=>exact⟨0,jO,jO,rfl,C,HQ,T,λk hk a ha=>absurd ha (akf _)⟩
        case round=>
         clear C HQ T;obtain⟨k2,hk2,hg2,rfl,C,HQ,T,CK⟩:=hrel;clear hwo;rcases k2 with _|_|_|_|_|_|k2
         ·skip
          have ik:∀W,(Instr.index 38 (.agg #[.int .i64 y.n0,.int .i64 y.n1,.int .i64 y.n2,.int .i64 y.n3,.int .i64 y.n4]) (.int .i64 0)).run prog W=.ok (.int .i64 y.n0) W:=λ_=>jK
          have N9:Nx y.n0:=LC.out.1 0 jO;by_cases z1:y.n0= -1
          ·have nR:(y.n0 != -1)=false:=by simp[z1]
           have Ju:Hid (∃S,XN wr w.heap.size S/\YH l J y 1 S):=by obtain⟨S,Z,h2⟩:=HQ.out;exact⟨S,Z,h2.skip z1⟩
           have U:Hid (∀k,k<J->∀a,a<1->0<=y.num a->¬(l[k]!).num a=y.num a):=λk hk a ha h0=>by
            by_cases e:a=0;·subst e;exact absurd h0 (by show ¬0<=y.n0;omega)
            ·exact CK.out k hk a jO h0
           clear z1 N9;go_wp2;go_roundg (5-1);case measure=>omega
           case rel=>exact⟨1,jO,jO,rfl,C,Ju,T,U⟩
          ·have nR:(y.n0 != -1)=true:=by simpa using z1
           have z0:0<=y.n0:=by unfold Nx at N9;omega
           have Cy:In64 ((0:Int),y.n0):=⟨(by decide:(Lit.int .i64 0).wf=true),asf (by unfold Nx at N9;omega)⟩;obtain⟨S,hS1,Y⟩:=HQ.out;have D:=QB w.heap.size S ((0:Int),y.n0) wr hS1 Cy;have I:=Y.num (a:=0) jO z0;have Qw:=aT Y;have HZ:=aT z0;clear hS1 Y z0 z1 N9 Cy HQ;cases hd:decide (((0:Int),y.n0)∈S) with
           |true=>
            have HC:Hid (∃k,k<J/\N8 l[k]! y):=by obtain⟨k,Z,h2⟩:=I.1 (agc hd);exact⟨k,Z,.inl ⟨0,jO,HZ.out,h2⟩⟩
            have Hm:=aT (D.mono λe w' h=>h.kept);rw[hd] at Hm;clear D I hd;go_wp2_with fail;refine Hm.out.mono ?_;rintro e w' ⟨rfl,hM,hK⟩;have Jt:=aT (hK.below C.out (aR _) C.out.size);clear hM hK;go_wp2;go_ret2;exact⟨_,_,rfl,.inr ⟨jO,.inl ⟨J,hlt,rfl,jO,.inr ⟨by rw[HY.out];exact HV.out,.inr ⟨HG.out,.inr ⟨by rw[HY.out];exact LC.out,.inr ⟨by rw[HY.out];exact HN.out,.inl ⟨rfl,by rw[HY.out];exact HC.out⟩⟩⟩⟩⟩,HA.out⟩⟩,Jt.out⟩
           |false=>
            have HC:Hid (∀k,k<J->¬(l[k]!).num 0=y.num 0):=λk Z h2=>absurd (I.2 ⟨k,Z,h2⟩) (aqg hd)
            have Hm:=aT (D.mono λe w' h=>h.kept);rw[hd] at Hm;clear D I hd;go_wp2_with fail;refine Hm.out.mono ?_;rintro e w' ⟨rfl,hM,hK⟩;have Jt:=aT (hK.below C.out (aR _) C.out.size);have Ju:Hid (∃S,XN w' w.heap.size S/\YH l J y 1 S):=⟨_,hM,Qw.out.add (a:=0) jO HZ.out⟩;have Fz:=aT (hK.blk T.out jO);have U:Hid (∀k,k<J->∀a,a<1->0<=y.num a->¬(l[k]!).num a=y.num a):=λk hk a ha h0=>by
             by_cases e:a=0;·subst e;exact HC.out k hk
             ·exact CK.out k hk a jO h0
            clear hM hK;go_wp2;go_roundg (5-1);case measure=>omega
            case rel=>exact⟨1,jO,jO,rfl,Jt,Ju,Fz,U⟩
         ·skip
          have ik:∀W,(Instr.index 38 (.agg #[.int .i64 y.n0,.int .i64 y.n1,.int .i64 y.n2,.int .i64 y.n3,.int .i64 y.n4]) (.int .i64 1)).run prog W=.ok (.int .i64 y.n1) W:=λ_=>jK
          have N9:Nx y.n1:=LC.out.1 1 jO;by_cases z1:y.n1= -1
          ·have nR:(y.n1 != -1)=false:=by simp[z1]
           have Ju:Hid (∃S,XN wr w.heap.size S/\YH l J y 2 S):=by obtain⟨S,Z,h2⟩:=HQ.out;exact⟨S,Z,h2.skip z1⟩
           have U:Hid (∀k,k<J->∀a,a<2->0<=y.num a->¬(l[k]!).num a=y.num a):=λk hk a ha h0=>by
            by_cases e:a=1;·subst e;exact absurd h0 (by show ¬0<=y.n1;omega)
            ·exact CK.out k hk a jO h0
           clear z1 N9;go_wp2;go_roundg (5-2);case measure=>omega
           case rel=>exact⟨2,jO,jO,rfl,C,Ju,T,U⟩
          ·have nR:(y.n1 != -1)=true:=by simpa using z1
           have z0:0<=y.n1:=by unfold Nx at N9;omega
           have Cy:In64 ((1:Int),y.n1):=⟨(by decide:(Lit.int .i64 1).wf=true),asf (by unfold Nx at N9;omega)⟩;obtain⟨S,hS1,Y⟩:=HQ.out;have D:=QB w.heap.size S ((1:Int),y.n1) wr hS1 Cy;have I:=Y.num (a:=1) jO z0;have Qw:=aT Y;have HZ:=aT z0;clear hS1 Y z0 z1 N9 Cy HQ;cases hd:decide (((1:Int),y.n1)∈S) with
           |true=>
            have HC:Hid (∃k,k<J/\N8 l[k]! y):=by obtain⟨k,Z,h2⟩:=I.1 (agc hd);exact⟨k,Z,.inl ⟨1,jO,HZ.out,h2⟩⟩
            have Hm:=aT (D.mono λe w' h=>h.kept);rw[hd] at Hm;clear D I hd;go_wp2_with fail;refine Hm.out.mono ?_;rintro e w' ⟨rfl,hM,hK⟩;have Jt:=aT (hK.below C.out (aR _) C.out.size);clear hM hK;go_wp2;go_ret2;exact⟨_,_,rfl,.inr ⟨jO,.inl ⟨J,hlt,rfl,jO,.inr ⟨by rw[HY.out];exact HV.out,.inr ⟨HG.out,.inr ⟨by rw[HY.out];exact LC.out,.inr ⟨by rw[HY.out];exact HN.out,.inl ⟨rfl,by rw[HY.out];exact HC.out⟩⟩⟩⟩⟩,HA.out⟩⟩,Jt.out⟩
           |false=>
            have HC:Hid (∀k,k<J->¬(l[k]!).num 1=y.num 1):=λk Z h2=>absurd (I.2 ⟨k,Z,h2⟩) (aqg hd)
            have Hm:=aT (D.mono λe w' h=>h.kept);rw[hd] at Hm;clear D I hd;go_wp2_with fail;refine Hm.out.mono ?_;rintro e w' ⟨rfl,hM,hK⟩;have Jt:=aT (hK.below C.out (aR _) C.out.size);have Ju:Hid (∃S,XN w' w.heap.size S/\YH l J y 2 S):=⟨_,hM,Qw.out.add (a:=1) jO HZ.out⟩;have Fz:=aT (hK.blk T.out jO);have U:Hid (∀k,k<J->∀a,a<2->0<=y.num a->¬(l[k]!).num a=y.num a):=λk hk a ha h0=>by
             by_cases e:a=1;·subst e;exact HC.out k hk
             ·exact CK.out k hk a jO h0
            clear hM hK;go_wp2;go_roundg (5-2);case measure=>omega
            case rel=>exact⟨2,jO,jO,rfl,Jt,Ju,Fz,U⟩
         ·skip
          have ik:∀W,(Instr.index 38 (.agg #[.int .i64 y.n0,.int .i64 y.n1,.int .i64 y.n2,.int .i64 y.n3,.int .i64 y.n4]) (.int .i64 2)).run prog W=.ok (.int .i64 y.n2) W:=λ_=>jK
          have N9:Nx y.n2:=LC.out.1 2 jO;by_cases z1:y.n2= -1
          ·have nR:(y.n2 != -1)=false:=by simp[z1]
           have Ju:Hid (∃S,XN wr w.heap.size S/\YH l J y 3 S):=by obtain⟨S,Z,h2⟩:=HQ.out;exact⟨S,Z,h2.skip z1⟩
           have U:Hid (∀k,k<J->∀a,a<3->0<=y.num a->¬(l[k]!).num a=y.num a):=λk hk a ha h0=>by
            by_cases e:a=2;·subst e;exact absurd h0 (by show ¬0<=y.n2;omega)
            ·exact CK.out k hk a jO h0
           clear z1 N9;go_wp2;go_roundg (5-3);case measure=>omega
           case rel=>exact⟨3,jO,jO,rfl,C,Ju,T,U⟩
          ·have nR:(y.n2 != -1)=true:=by simpa using z1
           have z0:0<=y.n2:=by unfold Nx at N9;omega
           have Cy:In64 ((2:Int),y.n2):=⟨(by decide:(Lit.int .i64 2).wf=true),asf (by unfold Nx at N9;omega)⟩;obtain⟨S,hS1,Y⟩:=HQ.out;have D:=QB w.heap.size S ((2:Int),y.n2) wr hS1 Cy;have I:=Y.num (a:=2) jO z0;have Qw:=aT Y;have HZ:=aT z0;clear hS1 Y z0 z1 N9 Cy HQ;cases hd:decide (((2:Int),y.n2)∈S) with
           |true=>
            have HC:Hid (∃k,k<J/\N8 l[k]! y):=by obtain⟨k,Z,h2⟩:=I.1 (agc hd);exact⟨k,Z,.inl ⟨2,jO,HZ.out,h2⟩⟩
            have Hm:=aT (D.mono λe w' h=>h.kept);rw[hd] at Hm;clear D I hd;go_wp2_with fail;refine Hm.out.mono ?_;rintro e w' ⟨rfl,hM,hK⟩;have Jt:=aT (hK.below C.out (aR _) C.out.size);clear hM hK;go_wp2;go_ret2;exact⟨_,_,rfl,.inr ⟨jO,.inl ⟨J,hlt,rfl,jO,.inr ⟨by rw[HY.out];exact HV.out,.inr ⟨HG.out,.inr ⟨by rw[HY.out];exact LC.out,.inr ⟨by rw[HY.out];exact HN.out,.inl ⟨rfl,by rw[HY.out];exact HC.out⟩⟩⟩⟩⟩,HA.out⟩⟩,Jt.out⟩
           |false=>
            have HC:Hid (∀k,k<J->¬(l[k]!).num 2=y.num 2):=λk Z h2=>absurd (I.2 ⟨k,Z,h2⟩) (aqg hd)
            have Hm:=aT (D.mono λe w' h=>h.kept);rw[hd] at Hm;clear D I hd;go_wp2_with fail;refine Hm.out.mono ?_;rintro e w' ⟨rfl,hM,hK⟩;have Jt:=aT (hK.below C.out (aR _) C.out.size);have Ju:Hid (∃S,XN w' w.heap.size S/\YH l J y 3 S):=⟨_,hM,Qw.out.add (a:=2) jO HZ.out⟩;have Fz:=aT (hK.blk T.out jO);have U:Hid (∀k,k<J->∀a,a<3->0<=y.num a->¬(l[k]!).num a=y.num a):=λk hk a ha h0=>by
             by_cases e:a=2;·subst e;exact HC.out k hk
             ·exact CK.out k hk a jO h0
            clear hM hK;go_wp2;go_roundg (5-3);case measure=>omega
            case rel=>exact⟨3,jO,jO,rfl,Jt,Ju,Fz,U⟩
         ·skip
          have ik:∀W,(Instr.index 38 (.agg #[.int .i64 y.n0,.int .i64 y.n1,.int .i64 y.n2,.int .i64 y.n3,.int .i64 y.n4]) (.int .i64 3)).run prog W=.ok (.int .i64 y.n3) W:=λ_=>jK
          have N9:Nx y.n3:=LC.out.1 3 jO;by_cases z1:y.n3= -1
          ·have nR:(y.n3 != -1)=false:=by simp[z1]
           have Ju:Hid (∃S,XN wr w.heap.size S/\YH l J y 4 S):=by obtain⟨S,Z,h2⟩:=HQ.out;exact⟨S,Z,h2.skip z1⟩
           have U:Hid (∀k,k<J->∀a,a<4->0<=y.num a->¬(l[k]!).num a=y.num a):=λk hk a ha h0=>by
            by_cases e:a=3;·subst e;exact absurd h0 (by show ¬0<=y.n3;omega)
            ·exact CK.out k hk a jO h0
           clear z1 N9;go_wp2;go_roundg (5-4);case measure=>omega
           case rel=>exact⟨4,jO,jO,rfl,C,Ju,T,U⟩
          ·have nR:(y.n3 != -1)=true:=by simpa using z1
           have z0:0<=y.n3:=by unfold Nx at N9;omega
           have Cy:In64 ((3:Int),y.n3):=⟨(by decide:(Lit.int .i64 3).wf=true),asf (by unfold Nx at N9;omega)⟩;obtain⟨S,hS1,Y⟩:=HQ.out;have D:=QB w.heap.size S ((3:Int),y.n3) wr hS1 Cy;have I:=Y.num (a:=3) jO z0;have Qw:=aT Y;have HZ:=aT z0;clear hS1 Y z0 z1 N9 Cy HQ;cases hd:decide (((3:Int),y.n3)∈S) with
           |true=>
            have HC:Hid (∃k,k<J/\N8 l[k]! y):=by obtain⟨k,Z,h2⟩:=I.1 (agc hd);exact⟨k,Z,.inl ⟨3,jO,HZ.out,h2⟩⟩
            have Hm:=aT (D.mono λe w' h=>h.kept);rw[hd] at Hm;clear D I hd;go_wp2_with fail;refine Hm.out.mono ?_;rintro e w' ⟨rfl,hM,hK⟩;have Jt:=aT (hK.below C.out (aR _) C.out.size);clear hM hK;go_wp2;go_ret2;exact⟨_,_,rfl,.inr ⟨jO,.inl ⟨J,hlt,rfl,jO,.inr ⟨by rw[HY.out];exact HV.out,.inr ⟨HG.out,.inr ⟨by rw[HY.out];exact LC.out,.inr ⟨by rw[HY.out];exact HN.out,.inl ⟨rfl,by rw[HY.out];exact HC.out⟩⟩⟩⟩⟩,HA.out⟩⟩,Jt.out⟩
           |false=>
            have HC:Hid (∀k,k<J->¬(l[k]!).num 3=y.num 3):=λk Z h2=>absurd (I.2 ⟨k,Z,h2⟩) (aqg hd)
            have Hm:=aT (D.mono λe w' h=>h.kept);rw[hd] at Hm;clear D I hd;go_wp2_with fail;refine Hm.out.mono ?_;rintro e w' ⟨rfl,hM,hK⟩;have Jt:=aT (hK.below C.out (aR _) C.out.size);have Ju:Hid (∃S,XN w' w.heap.size S/\YH l J y 4 S):=⟨_,hM,Qw.out.add (a:=3) jO HZ.out⟩;have Fz:=aT (hK.blk T.out jO);have U:Hid (∀k,k<J->∀a,a<4->0<=y.num a->¬(l[k]!).num a=y.num a):=λk hk a ha h0=>by
             by_cases e:a=3;·subst e;exact HC.out k hk
             ·exact CK.out k hk a jO h0
            clear hM hK;go_wp2;go_roundg (5-4);case measure=>omega
            case rel=>exact⟨4,jO,jO,rfl,Jt,Ju,Fz,U⟩
         ·skip
          have ik:∀W,(Instr.index 38 (.agg #[.int .i64 y.n0,.int .i64 y.n1,.int .i64 y.n2,.int .i64 y.n3,.int .i64 y.n4]) (.int .i64 4)).run prog W=.ok (.int .i64 y.n4) W:=λ_=>jK
          have N9:Nx y.n4:=LC.out.1 4 jO;by_cases z1:y.n4= -1
          ·have nR:(y.n4 != -1)=false:=by simp[z1]
           have Ju:Hid (∃S,XN wr w.heap.size S/\YH l J y 5 S):=by obtain⟨S,Z,h2⟩:=HQ.out;exact⟨S,Z,h2.skip z1⟩
           have U:Hid (∀k,k<J->∀a,a<5->0<=y.num a->¬(l[k]!).num a=y.num a):=λk hk a ha h0=>by
            by_cases e:a=4;·subst e;exact absurd h0 (by show ¬0<=y.n4;omega)
            ·exact CK.out k hk a jO h0
           clear z1 N9;go_wp2;go_roundg (5-5);case measure=>omega
           case rel=>exact⟨5,jO,jO,rfl,C,Ju,T,U⟩
          ·have nR:(y.n4 != -1)=true:=by simpa using z1
           have z0:0<=y.n4:=by unfold Nx at N9;omega
           have Cy:In64 ((4:Int),y.n4):=⟨(by decide:(Lit.int .i64 4).wf=true),asf (by unfold Nx at N9;omega)⟩;obtain⟨S,hS1,Y⟩:=HQ.out;have D:=QB w.heap.size S ((4:Int),y.n4) wr hS1 Cy;have I:=Y.num (a:=4) jO z0;have Qw:=aT Y;have HZ:=aT z0;clear hS1 Y z0 z1 N9 Cy HQ;cases hd:decide (((4:Int),y.n4)∈S) with
           |true=>
            have HC:Hid (∃k,k<J/\N8 l[k]! y):=by obtain⟨k,Z,h2⟩:=I.1 (agc hd);exact⟨k,Z,.inl ⟨4,jO,HZ.out,h2⟩⟩
            have Hm:=aT (D.mono λe w' h=>h.kept);rw[hd] at Hm;clear D I hd;go_wp2_with fail;refine Hm.out.mono ?_;rintro e w' ⟨rfl,hM,hK⟩;have Jt:=aT (hK.below C.out (aR _) C.out.size);clear hM hK;go_wp2;go_ret2;exact⟨_,_,rfl,.inr ⟨jO,.inl ⟨J,hlt,rfl,jO,.inr ⟨by rw[HY.out];exact HV.out,.inr ⟨HG.out,.inr ⟨by rw[HY.out];exact LC.out,.inr ⟨by rw[HY.out];exact HN.out,.inl ⟨rfl,by rw[HY.out];exact HC.out⟩⟩⟩⟩⟩,HA.out⟩⟩,Jt.out⟩
           |false=>
            have HC:Hid (∀k,k<J->¬(l[k]!).num 4=y.num 4):=λk Z h2=>absurd (I.2 ⟨k,Z,h2⟩) (aqg hd)
            have Hm:=aT (D.mono λe w' h=>h.kept);rw[hd] at Hm;clear D I hd;go_wp2_with fail;refine Hm.out.mono ?_;rintro e w' ⟨rfl,hM,hK⟩;have Jt:=aT (hK.below C.out (aR _) C.out.size);have Ju:Hid (∃S,XN w' w.heap.size S/\YH l J y 5 S):=⟨_,hM,Qw.out.add (a:=4) jO HZ.out⟩;have Fz:=aT (hK.blk T.out jO);have U:Hid (∀k,k<J->∀a,a<5->0<=y.num a->¬(l[k]!).num a=y.num a):=λk hk a ha h0=>by
             by_cases e:a=4;·subst e;exact HC.out k hk
             ·exact CK.out k hk a jO h0
            clear hM hK;go_wp2;go_roundg (5-5);case measure=>omega
            case rel=>exact⟨5,jO,jO,rfl,Jt,Ju,Fz,U⟩
         ·skip
          have t6:=T.out.cell 6;have t7:=T.out.cell 7;simp only[au,aM,aH] at t6 t7;have hm:=LC.out.2;unfold Pn at hm;have Fo:0<=y.Yp:=hm.1;have ni:y.Yp<=2:=hm.2.1;have hms:0<y.Yp->1<=y.sub/\y.sub<=255:=hm.2.2.2;clear hm;obtain⟨S,hS1,Y⟩:=HQ.out;have HNC:Hid (∀k,k<J->∀a,a<5->0<=y.num a->¬(l[k]!).num a=y.num a):=CK;clear HQ CK;by_cases z1:y.Yp=0
          ·have nR:(y.Yp != 0)=false:=by simp[z1]
           have Ju:Hid (∃S,XN wr w.heap.size S/\Seen l (J+1) S):=⟨S,hS1,Y.done HY.out jO⟩;have HRS:Hid (WZ l J 0):=.inr ⟨by rw[HY.out];exact HV.out,.inr ⟨HG.out,.inr ⟨by rw[HY.out];exact LC.out,.inr ⟨by rw[HY.out];exact HN.out,.inr ⟨rfl,λk hk hc=>by
            rw[HY.out] at hc;rcases hc with⟨a,Z,h2,h3⟩|⟨Z,_⟩;·exact HNC.out k hk a Z h2 h3
            ·omega⟩⟩⟩⟩⟩
           clear z1 hS1 Y hms;go_wp2;go_roundg (n-(J+1));case measure=>omega
           case rel=>
            refine⟨J+1,jO,jO,by go_num,C,Ju,(show Hid _ from λj hj=> ?_)⟩;by_cases e:j=J;·subst e;exact HRS.out
            ·exact HA.out j jO
          ·have nR:(y.Yp != 0)=true:=by simpa using z1
           have z0:0<y.Yp:=jO;obtain⟨s1,s2⟩:=hms z0;have Cy:In64 (5+y.Yp,y.sub):=⟨asf (by show _<=5+y.Yp/\5+y.Yp<=_;omega),asf (by show _<=y.sub/\y.sub<=_;omega)⟩;have D:=QB w.heap.size S (5+y.Yp,y.sub) wr hS1 Cy;have I:=Y.Yp z0;have Qw:=aT Y;have HZ:=aT z0;clear hS1 Y z0 z1 Cy hms s1 s2;cases hd:decide ((5+y.Yp,y.sub)∈S) with
           |true=>
            have HC:Hid (∃k,k<J/\N8 l[k]! y):=by obtain⟨k,Z,h2,h3⟩:=I.1 (agc hd);exact⟨k,Z,.inr ⟨HZ.out,h2,h3⟩⟩
            have Hm:=aT (D.mono λe w' h=>h.kept);rw[hd] at Hm;clear D I hd;go_wp2_with fail;refine Hm.out.mono ?_;rintro e w' ⟨rfl,hM,hK⟩;have Jt:=aT (hK.below C.out (aR _) C.out.size);clear hM hK;go_wp2;go_ret2;exact⟨_,_,rfl,.inr ⟨jO,.inl ⟨J,hlt,rfl,jO,.inr ⟨by rw[HY.out];exact HV.out,.inr ⟨HG.out,.inr ⟨by rw[HY.out];exact LC.out,.inr ⟨by rw[HY.out];exact HN.out,.inl ⟨rfl,by rw[HY.out];exact HC.out⟩⟩⟩⟩⟩,HA.out⟩⟩,Jt.out⟩
           |false=>
            have HC:Hid (∀k,k<J->¬((l[k]!).Yp=y.Yp/\(l[k]!).sub=y.sub)):=λk Z h2=>absurd (I.2 ⟨k,Z,h2⟩) (aqg hd)
            have Hm:=aT (D.mono λe w' h=>h.kept);rw[hd] at Hm;clear D I hd;go_wp2_with fail;refine Hm.out.mono ?_;rintro e w' ⟨rfl,hM,hK⟩;have Jt:=aT (hK.below C.out (aR _) C.out.size);have Ju:Hid (∃S,XN w' w.heap.size S/\Seen l (J+1) S):=⟨_,hM,Qw.out.iH HY.out HZ.out⟩;have HRS:Hid (WZ l J 0):=.inr ⟨by rw[HY.out];exact HV.out,.inr ⟨HG.out,.inr ⟨by rw[HY.out];exact LC.out,.inr ⟨by rw[HY.out];exact HN.out,.inr ⟨rfl,λk hk hc=>by
             rw[HY.out] at hc;rcases hc with⟨a,Z,h2,h3⟩|⟨_,h2,h3⟩;·exact HNC.out k hk a Z h2 h3
             ·exact HC.out k hk ⟨h2,h3⟩⟩⟩⟩⟩⟩
            clear hM hK;go_wp2;go_roundg (n-(J+1));case measure=>omega
            case rel=>
             refine⟨J+1,jO,jO,by go_num,Jt,Ju,(show Hid _ from λj hj=> ?_)⟩;by_cases e:j=J;·subst e;exact HRS.out
             ·exact HA.out j jO
         ·omega
   ·have Zd:¬(J:Int)<(n:Int):=by omega
    obtain rfl:J=n:=jO;go_wp2;go_ret2;exact⟨_,_,rfl,.inr ⟨jO,.inr ⟨rfl,rfl,HA.out⟩⟩,C.out⟩
theorem X0(sv:Value)(l:List Z1)(w:World)(C:l.length<=1000000)(T:Xv w sv l)(I:∀r∈l,r.name.size<=9223372036854775807):
 Calls prog 76 #[sv] w (Ij l w):=by
 obtain⟨x,c,rfl,h⟩:=T;rcases h with rfl|⟨b,off,rfl,D,hr⟩
 ·have J:= @aog prog;go_enter func76,ntmps76;go_wp2
  go_loop [16] (λU=>U=.int .i64 0) (λ_=>0)
  case atStart=>rfl
  case round=>
   obtain rfl:=hrel;go_wp2;go_ret2;exact⟨0,0,rfl,.inr ⟨abd _,.inr ⟨rfl,rfl,λj Y=>absurd Y (akf _)⟩⟩,(aG _ w).alloc (aR _) _⟩
 ·exact nS b off c l w C D hr I
theorem WZ.one{l:List Z1}{i:Nat}{v v':Int}(h:WZ l i v)(D:WZ l i v'):v=v':=by
 rcases h with⟨rfl,a⟩|⟨a,⟨rfl,b⟩|⟨b,⟨rfl,c⟩|⟨c,⟨rfl,d⟩|⟨d,⟨rfl,e⟩|⟨rfl,e⟩⟩⟩⟩⟩<;>
 rcases D with⟨rfl,a'⟩|⟨a',⟨rfl,b'⟩|⟨b',⟨rfl,I⟩|⟨I,⟨rfl,d'⟩|⟨d',⟨rfl,C⟩|⟨rfl,C⟩⟩⟩⟩⟩<;>
 first
  |rfl
  |exact absurd ‹YC _› ‹¬YC _›
  |exact absurd ‹Td _ _› ‹¬Td _ _›
  |exact absurd ‹Pm _› ‹¬Pm _›
  |exact absurd ‹Sb _› ‹¬Sb _›
  |(exfalso;obtain⟨k,hk,hc⟩:=e;exact C k hk hc)
  |(exfalso;obtain⟨k,hk,hc⟩:=C;exact e k hk hc)
end Go.Proofs.YtclgigmgbebhgaaGreatDoor.Z4
