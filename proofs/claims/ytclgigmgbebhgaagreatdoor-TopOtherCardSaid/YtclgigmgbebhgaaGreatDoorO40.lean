/- TopOther: part 40: SysRightP TopSysR. -/
import Derived.Test.YtclgigmgbebhgaaGreatDoorO39
set_option linter.unusedVariables false
set_option linter.unusedSimpArgs false
set_option maxRecDepth 100000
set_option maxHeartbeats 16000000
namespace Go.Proofs.YtclgigmgbebhgaaGreatDoor.Z4
open Tryz
open Go Go.Proofs Go.RowKit
theorem gZ(a b:List UInt8):(Op.bytesLess a b=true\/a=b)↔Op.bytesLess b a=false:=by
 rw[<-rL,<-rJ,Bool.eq_false_iff,Ne,<-rK];omega
theorem aD8{B:Nat}{a w:World}(h:Below B a w)(q:Nat):Below B a (w.drewN q):=⟨h.os,h.tape,h.output,h.size,h.block⟩
theorem ot(b off c:Nat)(l:List Z2)(w:World)(Pb:l.length<=1000000)(hb:b<w.heap.size)(hr:Vi w b off l)(hsz:∀r∈l,r.name.size<=9223372036854775807):
 Calls prog 76 #[.slice (some ⟨b,off,none⟩) l.length c] w (Iw l w):=by
 have Hr:=aT hr;have ao7:∀i,i<l.length->(l[i]!).name.size<=9223372036854775807:=λi hi=>hsz _ (by simp[hi])
 have Hsz:=aT ao7;clear hr hsz ao7;show Calls _ _ _ _ (Ky l.length l w);obtain⟨n,hn⟩:=jX l.length;rw[hn] at Pb Hsz ⊢;have Hn:=aT hn;clear hn;by_cases h4:400<n
 ·have h4z:(400:Int)<(n:Int):=by omega
  go_enter func76,ntmps76;go_wp2;go_ret2;exact⟨_,_,rfl,.inl ⟨h4,rfl,rfl⟩,aH _ w⟩
 ·have h4z:¬(400:Int)<(n:Int):=by omega
  have dP:=XT.made w;have dN:=aT dP;have Jw:= @apc prog;clear dP;go_enter func76,ntmps76;go_wp2;go_loopg [16] n (λgg s16 wr=>∃I:Nat,I<=n/\n-I<=gg/\s16=.int .i64 I/\Hid (Below w.heap.size w wr)/\Hid (∃S,XT wr w.heap.size S/\Seen l I S)/\Hid (∀j,j<I->W6 l j 0));case atStart=>exact⟨0,abc _,jO,rfl,(aH _ w).alloc (aR _) _,⟨[],dN.out,Seen.nil l⟩,λj hj=>absurd hj (ajd _)⟩
  case round=>
   obtain⟨I,hkk,hg,rfl,A,HQ,HA⟩:=hrel;clear dN Jw;by_cases hlt:I<n
   ·have Y8:(I:Int)<(n:Int):=by omega
    have hR:=(Hr.out.below A.out hb) I (by rw[Hn.out];exact hlt);have c0:=hR 0 _ rfl;have c1:=hR 1 _ rfl;have c2:=hR 2 _ rfl;have c3:=hR 3 _ rfl;have c4:=hR 4 _ rfl;have c5:=hR 5 _ rfl;have c6:=hR 6 _ rfl;have c7:=hR 7 _ rfl;simp only[aeb] at c0;clear hR;have hsy:=Hsz.out I hlt;generalize hy:l[I]! =y at c0 c1 c2 c3 c4 c5 c6 c7 hsy;have HY:=aT hy;clear hy;have bX:=Z7.new wr 40 #[.string y.name,.int .i64 y.n0,.int .i64 y.n1,.int .i64 y.n2,.int .i64 y.n3,.int .i64 y.n4,.int .i64 y.Yv,.int .i64 y.sub];have Cb:=aT (A.out.alloc A.out.size (.cells #[.string y.name,.int .i64 y.n0,.int .i64 y.n1,.int .i64 y.n2,.int .i64 y.n3,.int .i64 y.n4,.int .i64 y.Yv,.int .i64 y.sub] 40));have HQ0:Hid (∃S,XT (wr.alloc (.cells #[.string y.name,.int .i64 y.n0,.int .i64 y.n1,.int .i64 y.n2,.int .i64 y.n3,.int .i64 y.n4,.int .i64 y.Yv,.int .i64 y.sub] 40)) w.heap.size S/\Seen l I S):=by obtain⟨S,Y,h2⟩:=HQ.out;exact⟨S,Y.alloc _,h2⟩
    have hne:w.heap.size<wr.heap.size:=by obtain⟨S,Y,h2⟩:=HQ.out;exact Y.lt
    have J:=aT bX;have Ip:=G5 y.name (wr.alloc (.cells #[.string y.name,.int .i64 y.n0,.int .i64 y.n1,.int .i64 y.n2,.int .i64 y.n3,.int .i64 y.n4,.int .i64 y.Yv,.int .i64 y.sub] 40)) hsy;have Hnm:=aT Ip;clear bX Ip HQ hsy A;go_wp2_with fail;refine Hnm.out.mono ?_;rintro e w1 ⟨v,rfl,hv,hb1⟩;clear Hnm c0 c1 c2 c3 c4 c5 c6 c7;have A:=aT (Cb.out.trans (hb1.mono Cb.out.size));have ad7:=aT (J.out.below hb1 J.out.lt);have HQ:Hid (∃S,XT w1 w.heap.size S/\Seen l I S):=by obtain⟨S,Y,h2⟩:=HQ0.out;exact⟨S,Y.below hb1 Y.lt,h2⟩
    clear Cb HQ0 J hb1;obtain⟨X,hX⟩:=jX wr.heap.size;rw[hX] at hne ad7;simp only[hX];have J:=ad7;clear ad7 hX;cases v with
    |false=>
     have HV:Hid (¬Yj y.name):=λh=>absurd (hv.2 h) jS
     clear hv;go_wp2;go_ret2;exact⟨_,_,rfl,.inr ⟨jO,.inl ⟨I,hlt,rfl,jO,.inl ⟨rfl,by rw[HY.out];exact HV.out⟩,HA.out⟩⟩,A.out⟩
    |true=>
     have HV:Hid (Yj y.name):=hv.1 rfl;clear hv;go_upto_region 10 with fail;go_cut [30] (λs30 wx=>∃v:Bool,s30=.bool v/\Hid (v=true↔Tu l I)/\Hid (∃q,wx=w1.drewN q))
     case first=>
      have t0:=J.out.cell 0;have t1:=J.out.cell 1;have t2:=J.out.cell 2;have t3:=J.out.cell 3;have t4:=J.out.cell 4;have t5:=J.out.cell 5;have t6:=J.out.cell 6;have t7:=J.out.cell 7;simp only[ak,aL,aF] at t0 t1 t2 t3 t4 t5 t6 t7;by_cases sW:I=0;·subst sW;have g0:decide ((0:Int)<0)=false:=rfl;go_quiet (fail);go_wp2_with fail;go_meet;exact⟨_,rfl,⟨λh=>(by cases h),λh=>absurd h.1 (asc 0)⟩,⟨nq,rfl⟩⟩
      ·obtain⟨j,hj⟩:∃j,I=j+1:=⟨I-1,jO⟩;have g0:decide ((0:Int)<(I:Int))=true:=adb jO;have hip:0<I:=jO;have g0n:decide (0<I)=true:=adb hip;have aK6:(I:Int)-1=(j:Int):=jO;have j0:=jZ j;have j1:(j:Int)<(n:Int):=jO;have ao8:=(Hr.out.below A.out hb).rQ (j:=j) (by rw[Hn.out];omega);generalize qR:(l[j]!).name=pn at ao8
       have dD:Tu l I↔Op.bytesLess pn.toList y.name.toList=false:=by unfold Tu;rw[show I-1=j from jO,qR,HY.out];exact⟨λh=>h.2,λh=>⟨jO,h⟩⟩
       have gj:=aT dD;clear hj dD qR;go_quiet (fail);go_wp2_with fail;go_meet;refine⟨_,rfl,(show Hid _ from ?_),⟨nq,rfl⟩⟩;rw[gj.out,<-gZ];simp;try exact trivial
     case rest=>
      obtain⟨v,rfl,gj,hw⟩:=hcut;obtain⟨q,rfl⟩:=hw.out;have XA:=aT (aD8 A.out q);have HQ2:Hid (∃S,XT (w1.drewN q) w.heap.size S/\Seen l I S):=HQ.out;have JI:Hid (Z7 (w1.drewN q) X 40 #[.string y.name,.int .i64 y.n0,.int .i64 y.n1,.int .i64 y.n2,.int .i64 y.n3,.int .i64 y.n4,.int .i64 y.Yv,.int .i64 y.sub]):=J.out;clear hw A HQ J;generalize w1.drewN q=W2 at*;cases v with
      |true=>
       go_wp2;go_ret2;exact⟨_,_,rfl,.inr ⟨jO,.inl ⟨I,hlt,rfl,jO,.inr ⟨by rw[HY.out];exact HV.out,.inl ⟨rfl,gj.out.1 jS⟩⟩,HA.out⟩⟩,XA.out⟩
      |false=>
       have HG:Hid (¬Tu l I):=λh=>absurd (gj.out.2 h) jS
       clear gj;have t0:=JI.out.cell 0;have t1:=JI.out.cell 1;have t2:=JI.out.cell 2;have t3:=JI.out.cell 3;have t4:=JI.out.cell 4;have t5:=JI.out.cell 5;have t6:=JI.out.cell 6;have t7:=JI.out.cell 7;simp only[ak,aL,aF] at t0 t1 t2 t3 t4 t5 t6 t7;have hrg:=SJ y W2;have Hrg:=aT hrg;clear hrg;go_wp2_with fail;refine Hrg.out.mono ?_;rintro e w3 ⟨v,rfl,hv,hb3⟩;clear t0 t1 t2 t3 t4 t5 t6 t7 Hrg;have A:=aT (XA.out.trans (hb3.mono XA.out.size));have J:=aT (JI.out.below hb3 JI.out.lt);have HQ:Hid (∃S,XT w3 w.heap.size S/\Seen l I S):=by obtain⟨S,Y,h2⟩:=HQ2.out;exact⟨S,Y.below hb3 Y.lt,h2⟩
       clear XA HQ2 JI hb3;cases v with
       |false=>
        have LQ:Hid (¬Om y):=λh=>absurd (hv.2 h) jS
        clear hv;go_wp2;go_ret2;exact⟨_,_,rfl,.inr ⟨jO,.inl ⟨I,hlt,rfl,jO,.inr ⟨by rw[HY.out];exact HV.out,.inr ⟨HG.out,.inl ⟨rfl,by rw[HY.out];exact LQ.out⟩⟩⟩,HA.out⟩⟩,A.out⟩
       |true=>
        have LQ:Hid (Om y):=hv.1 rfl;clear hv;by_cases n1:y.n2=102
        ·have n1':(y.n2 == 102)=true:=by simpa using n1
         have HN:Hid (PG y):=.inl n1;clear n1;go_wp2;go_ret2;exact⟨_,_,rfl,.inr ⟨jO,.inl ⟨I,hlt,rfl,jO,.inr ⟨by rw[HY.out];exact HV.out,.inr ⟨HG.out,.inr ⟨by rw[HY.out];exact LQ.out,.inl ⟨rfl,by rw[HY.out];exact HN.out⟩⟩⟩⟩,HA.out⟩⟩,A.out⟩
        have n1':(y.n2 == 102)=false:=by simpa using n1
        by_cases n2:y.n2=117
        ·have n2':(y.n2 == 117)=true:=by simpa using n2
         have HN:Hid (PG y):=.inr n2;clear n1 n2;go_wp2;go_ret2;exact⟨_,_,rfl,.inr ⟨jO,.inl ⟨I,hlt,rfl,jO,.inr ⟨by rw[HY.out];exact HV.out,.inr ⟨HG.out,.inr ⟨by rw[HY.out];exact LQ.out,.inl ⟨rfl,by rw[HY.out];exact HN.out⟩⟩⟩⟩,HA.out⟩⟩,A.out⟩
        have n2':(y.n2 == 117)=false:=by simpa using n2
        have HN:Hid (¬PG y):=λh=>h.elim n1 n2
        clear n1 n2;have t0:=J.out.cell 0;have t1:=J.out.cell 1;have t2:=J.out.cell 2;have t3:=J.out.cell 3;have t4:=J.out.cell 4;have t5:=J.out.cell 5;have t6:=J.out.cell 6;have t7:=J.out.cell 7;simp only[ak,aL,aF] at t0 t1 t2 t3 t4 t5 t6 t7;have HQX:Hid (∃S,XT w3 w.heap.size S/\YL l I y 0 S):=by obtain⟨S,Y,h2⟩:=HQ.out;exact⟨S,Y,h2.start y⟩
        have HQ:=HQX;clear HQX;go_wp2;clear t0 t1 t2 t3 t4 t5 t6 t7;obtain⟨wo,hwo⟩:∃wo:World,wo=w3:=⟨_,rfl⟩;go_loopg [60] 5 (λgg s60 wr=>∃k2:Nat,k2<=5/\5-k2<=gg/\s60=.int .i64 k2/\Hid (Below w.heap.size w wr)/\Hid (∃S,XT wr w.heap.size S/\YL l I y k2 S)/\Hid (Z7 wr X 40 #[.string y.name,.int .i64 y.n0,.int .i64 y.n1,.int .i64 y.n2,.int .i64 y.n3,.int .i64 y.n4,.int .i64 y.Yv,.int .i64 y.sub])/\Hid (∀k,k<I->∀a,a<k2->0<=y.num a->¬(l[k]!).num a=y.num a));case atStart=>exact⟨0,jO,jO,rfl,A,HQ,J,λk hk a ha=>absurd ha (ajd _)⟩
        case round=>
         clear A HQ J;obtain⟨k2,hk2,hg2,rfl,A,HQ,J,CP⟩:=hrel;clear hwo;rcases k2 with _|_|_|_|_|_|k2
         ·skip
          have ik:∀W,(Instr.index 38 (.agg #[.int .i64 y.n0,.int .i64 y.n1,.int .i64 y.n2,.int .i64 y.n3,.int .i64 y.n4]) (.int .i64 0)).run prog W=.ok (.int .i64 y.n0) W:=λ_=>jK
          have Z:Oo y.n0:=LQ.out.1 0 jO;by_cases z1:y.n0= -1
          ·have oq:(y.n0 != -1)=false:=by simp[z1]
           have JH:Hid (∃S,XT wr w.heap.size S/\YL l I y 1 S):=by obtain⟨S,Y,h2⟩:=HQ.out;exact⟨S,Y,h2.skip z1⟩
           have T:Hid (∀k,k<I->∀a,a<1->0<=y.num a->¬(l[k]!).num a=y.num a):=λk hk a ha h0=>by
            by_cases e:a=0;·subst e;exact absurd h0 (by show ¬0<=y.n0;omega)
            ·exact CP.out k hk a jO h0
           clear z1 Z;go_wp2;go_roundg (5-1);case measure=>omega
           case rel=>exact⟨1,jO,jO,rfl,A,JH,J,T⟩
          ·have oq:(y.n0 != -1)=true:=by simpa using z1
           have z0:0<=y.n0:=by unfold Oo at Z;omega
           have CA:In64 ((0:Int),y.n0):=⟨(by decide:(Lit.int .i64 0).wf=true),ata (by unfold Oo at Z;omega)⟩;obtain⟨S,hS1,U⟩:=HQ.out;have C:=QQ w.heap.size S ((0:Int),y.n0) wr hS1 CA;have D:=U.num (a:=0) jO z0;have TZ:=aT U;have HZ:=aT z0;clear hS1 U z0 z1 Z CA HQ;cases hd:decide (((0:Int),y.n0)∈S) with
           |true=>
            have HC:Hid (∃k,k<I/\Ol l[k]! y):=by obtain⟨k,Y,h2⟩:=D.1 (ala hd);exact⟨k,Y,.inl ⟨0,jO,HZ.out,h2⟩⟩
            have Hm:=aT (C.mono λe w' h=>h.kept);rw[hd] at Hm;clear C D hd;go_wp2_with fail;refine Hm.out.mono ?_;rintro e w' ⟨rfl,hM,hK⟩;have JG:=aT (hK.below A.out (aR _) A.out.size);clear hM hK;go_wp2;go_ret2;exact⟨_,_,rfl,.inr ⟨jO,.inl ⟨I,hlt,rfl,jO,.inr ⟨by rw[HY.out];exact HV.out,.inr ⟨HG.out,.inr ⟨by rw[HY.out];exact LQ.out,.inr ⟨by rw[HY.out];exact HN.out,.inl ⟨rfl,by rw[HY.out];exact HC.out⟩⟩⟩⟩⟩,HA.out⟩⟩,JG.out⟩
           |false=>
            have HC:Hid (∀k,k<I->¬(l[k]!).num 0=y.num 0):=λk Y h2=>absurd (D.2 ⟨k,Y,h2⟩) (arb hd)
            have Hm:=aT (C.mono λe w' h=>h.kept);rw[hd] at Hm;clear C D hd;go_wp2_with fail;refine Hm.out.mono ?_;rintro e w' ⟨rfl,hM,hK⟩;have JG:=aT (hK.below A.out (aR _) A.out.size);have JH:Hid (∃S,XT w' w.heap.size S/\YL l I y 1 S):=⟨_,hM,TZ.out.add (a:=0) jO HZ.out⟩;have FD:=aT (hK.blk J.out jO);have T:Hid (∀k,k<I->∀a,a<1->0<=y.num a->¬(l[k]!).num a=y.num a):=λk hk a ha h0=>by
             by_cases e:a=0;·subst e;exact HC.out k hk
             ·exact CP.out k hk a jO h0
            clear hM hK;go_wp2;go_roundg (5-1);case measure=>omega
            case rel=>exact⟨1,jO,jO,rfl,JG,JH,FD,T⟩
         ·skip
          have ik:∀W,(Instr.index 38 (.agg #[.int .i64 y.n0,.int .i64 y.n1,.int .i64 y.n2,.int .i64 y.n3,.int .i64 y.n4]) (.int .i64 1)).run prog W=.ok (.int .i64 y.n1) W:=λ_=>jK
          have Z:Oo y.n1:=LQ.out.1 1 jO;by_cases z1:y.n1= -1
          ·have oq:(y.n1 != -1)=false:=by simp[z1]
           have JH:Hid (∃S,XT wr w.heap.size S/\YL l I y 2 S):=by obtain⟨S,Y,h2⟩:=HQ.out;exact⟨S,Y,h2.skip z1⟩
           have T:Hid (∀k,k<I->∀a,a<2->0<=y.num a->¬(l[k]!).num a=y.num a):=λk hk a ha h0=>by
            by_cases e:a=1;·subst e;exact absurd h0 (by show ¬0<=y.n1;omega)
            ·exact CP.out k hk a jO h0
           clear z1 Z;go_wp2;go_roundg (5-2);case measure=>omega
           case rel=>exact⟨2,jO,jO,rfl,A,JH,J,T⟩
          ·have oq:(y.n1 != -1)=true:=by simpa using z1
           have z0:0<=y.n1:=by unfold Oo at Z;omega
           have CA:In64 ((1:Int),y.n1):=⟨(by decide:(Lit.int .i64 1).wf=true),ata (by unfold Oo at Z;omega)⟩;obtain⟨S,hS1,U⟩:=HQ.out;have C:=QQ w.heap.size S ((1:Int),y.n1) wr hS1 CA;have D:=U.num (a:=1) jO z0;have TZ:=aT U;have HZ:=aT z0;clear hS1 U z0 z1 Z CA HQ;cases hd:decide (((1:Int),y.n1)∈S) with
           |true=>
            have HC:Hid (∃k,k<I/\Ol l[k]! y):=by obtain⟨k,Y,h2⟩:=D.1 (ala hd);exact⟨k,Y,.inl ⟨1,jO,HZ.out,h2⟩⟩
            have Hm:=aT (C.mono λe w' h=>h.kept);rw[hd] at Hm;clear C D hd;go_wp2_with fail;refine Hm.out.mono ?_;rintro e w' ⟨rfl,hM,hK⟩;have JG:=aT (hK.below A.out (aR _) A.out.size);clear hM hK;go_wp2;go_ret2;exact⟨_,_,rfl,.inr ⟨jO,.inl ⟨I,hlt,rfl,jO,.inr ⟨by rw[HY.out];exact HV.out,.inr ⟨HG.out,.inr ⟨by rw[HY.out];exact LQ.out,.inr ⟨by rw[HY.out];exact HN.out,.inl ⟨rfl,by rw[HY.out];exact HC.out⟩⟩⟩⟩⟩,HA.out⟩⟩,JG.out⟩
           |false=>
            have HC:Hid (∀k,k<I->¬(l[k]!).num 1=y.num 1):=λk Y h2=>absurd (D.2 ⟨k,Y,h2⟩) (arb hd)
            have Hm:=aT (C.mono λe w' h=>h.kept);rw[hd] at Hm;clear C D hd;go_wp2_with fail;refine Hm.out.mono ?_;rintro e w' ⟨rfl,hM,hK⟩;have JG:=aT (hK.below A.out (aR _) A.out.size);have JH:Hid (∃S,XT w' w.heap.size S/\YL l I y 2 S):=⟨_,hM,TZ.out.add (a:=1) jO HZ.out⟩;have FD:=aT (hK.blk J.out jO);have T:Hid (∀k,k<I->∀a,a<2->0<=y.num a->¬(l[k]!).num a=y.num a):=λk hk a ha h0=>by
             by_cases e:a=1;·subst e;exact HC.out k hk
             ·exact CP.out k hk a jO h0
            clear hM hK;go_wp2;go_roundg (5-2);case measure=>omega
            case rel=>exact⟨2,jO,jO,rfl,JG,JH,FD,T⟩
         ·skip
          have ik:∀W,(Instr.index 38 (.agg #[.int .i64 y.n0,.int .i64 y.n1,.int .i64 y.n2,.int .i64 y.n3,.int .i64 y.n4]) (.int .i64 2)).run prog W=.ok (.int .i64 y.n2) W:=λ_=>jK
          have Z:Oo y.n2:=LQ.out.1 2 jO;by_cases z1:y.n2= -1
          ·have oq:(y.n2 != -1)=false:=by simp[z1]
           have JH:Hid (∃S,XT wr w.heap.size S/\YL l I y 3 S):=by obtain⟨S,Y,h2⟩:=HQ.out;exact⟨S,Y,h2.skip z1⟩
           have T:Hid (∀k,k<I->∀a,a<3->0<=y.num a->¬(l[k]!).num a=y.num a):=λk hk a ha h0=>by
            by_cases e:a=2;·subst e;exact absurd h0 (by show ¬0<=y.n2;omega)
            ·exact CP.out k hk a jO h0
           clear z1 Z;go_wp2;go_roundg (5-3);case measure=>omega
           case rel=>exact⟨3,jO,jO,rfl,A,JH,J,T⟩
          ·have oq:(y.n2 != -1)=true:=by simpa using z1
           have z0:0<=y.n2:=by unfold Oo at Z;omega
           have CA:In64 ((2:Int),y.n2):=⟨(by decide:(Lit.int .i64 2).wf=true),ata (by unfold Oo at Z;omega)⟩;obtain⟨S,hS1,U⟩:=HQ.out;have C:=QQ w.heap.size S ((2:Int),y.n2) wr hS1 CA;have D:=U.num (a:=2) jO z0;have TZ:=aT U;have HZ:=aT z0;clear hS1 U z0 z1 Z CA HQ;cases hd:decide (((2:Int),y.n2)∈S) with
           |true=>
            have HC:Hid (∃k,k<I/\Ol l[k]! y):=by obtain⟨k,Y,h2⟩:=D.1 (ala hd);exact⟨k,Y,.inl ⟨2,jO,HZ.out,h2⟩⟩
            have Hm:=aT (C.mono λe w' h=>h.kept);rw[hd] at Hm;clear C D hd;go_wp2_with fail;refine Hm.out.mono ?_;rintro e w' ⟨rfl,hM,hK⟩;have JG:=aT (hK.below A.out (aR _) A.out.size);clear hM hK;go_wp2;go_ret2;exact⟨_,_,rfl,.inr ⟨jO,.inl ⟨I,hlt,rfl,jO,.inr ⟨by rw[HY.out];exact HV.out,.inr ⟨HG.out,.inr ⟨by rw[HY.out];exact LQ.out,.inr ⟨by rw[HY.out];exact HN.out,.inl ⟨rfl,by rw[HY.out];exact HC.out⟩⟩⟩⟩⟩,HA.out⟩⟩,JG.out⟩
           |false=>
            have HC:Hid (∀k,k<I->¬(l[k]!).num 2=y.num 2):=λk Y h2=>absurd (D.2 ⟨k,Y,h2⟩) (arb hd)
            have Hm:=aT (C.mono λe w' h=>h.kept);rw[hd] at Hm;clear C D hd;go_wp2_with fail;refine Hm.out.mono ?_;rintro e w' ⟨rfl,hM,hK⟩;have JG:=aT (hK.below A.out (aR _) A.out.size);have JH:Hid (∃S,XT w' w.heap.size S/\YL l I y 3 S):=⟨_,hM,TZ.out.add (a:=2) jO HZ.out⟩;have FD:=aT (hK.blk J.out jO);have T:Hid (∀k,k<I->∀a,a<3->0<=y.num a->¬(l[k]!).num a=y.num a):=λk hk a ha h0=>by
             by_cases e:a=2;·subst e;exact HC.out k hk
             ·exact CP.out k hk a jO h0
            clear hM hK;go_wp2;go_roundg (5-3);case measure=>omega
            case rel=>exact⟨3,jO,jO,rfl,JG,JH,FD,T⟩
         ·skip
          have ik:∀W,(Instr.index 38 (.agg #[.int .i64 y.n0,.int .i64 y.n1,.int .i64 y.n2,.int .i64 y.n3,.int .i64 y.n4]) (.int .i64 3)).run prog W=.ok (.int .i64 y.n3) W:=λ_=>jK
          have Z:Oo y.n3:=LQ.out.1 3 jO;by_cases z1:y.n3= -1
          ·have oq:(y.n3 != -1)=false:=by simp[z1]
           have JH:Hid (∃S,XT wr w.heap.size S/\YL l I y 4 S):=by obtain⟨S,Y,h2⟩:=HQ.out;exact⟨S,Y,h2.skip z1⟩
           have T:Hid (∀k,k<I->∀a,a<4->0<=y.num a->¬(l[k]!).num a=y.num a):=λk hk a ha h0=>by
            by_cases e:a=3;·subst e;exact absurd h0 (by show ¬0<=y.n3;omega)
            ·exact CP.out k hk a jO h0
           clear z1 Z;go_wp2;go_roundg (5-4);case measure=>omega
           case rel=>exact⟨4,jO,jO,rfl,A,JH,J,T⟩
          ·have oq:(y.n3 != -1)=true:=by simpa using z1
           have z0:0<=y.n3:=by unfold Oo at Z;omega
           have CA:In64 ((3:Int),y.n3):=⟨(by decide:(Lit.int .i64 3).wf=true),ata (by unfold Oo at Z;omega)⟩;obtain⟨S,hS1,U⟩:=HQ.out;have C:=QQ w.heap.size S ((3:Int),y.n3) wr hS1 CA;have D:=U.num (a:=3) jO z0;have TZ:=aT U;have HZ:=aT z0;clear hS1 U z0 z1 Z CA HQ;cases hd:decide (((3:Int),y.n3)∈S) with
           |true=>
            have HC:Hid (∃k,k<I/\Ol l[k]! y):=by obtain⟨k,Y,h2⟩:=D.1 (ala hd);exact⟨k,Y,.inl ⟨3,jO,HZ.out,h2⟩⟩
            have Hm:=aT (C.mono λe w' h=>h.kept);rw[hd] at Hm;clear C D hd;go_wp2_with fail;refine Hm.out.mono ?_;rintro e w' ⟨rfl,hM,hK⟩;have JG:=aT (hK.below A.out (aR _) A.out.size);clear hM hK;go_wp2;go_ret2;exact⟨_,_,rfl,.inr ⟨jO,.inl ⟨I,hlt,rfl,jO,.inr ⟨by rw[HY.out];exact HV.out,.inr ⟨HG.out,.inr ⟨by rw[HY.out];exact LQ.out,.inr ⟨by rw[HY.out];exact HN.out,.inl ⟨rfl,by rw[HY.out];exact HC.out⟩⟩⟩⟩⟩,HA.out⟩⟩,JG.out⟩
           |false=>
            have HC:Hid (∀k,k<I->¬(l[k]!).num 3=y.num 3):=λk Y h2=>absurd (D.2 ⟨k,Y,h2⟩) (arb hd)
            have Hm:=aT (C.mono λe w' h=>h.kept);rw[hd] at Hm;clear C D hd;go_wp2_with fail;refine Hm.out.mono ?_;rintro e w' ⟨rfl,hM,hK⟩;have JG:=aT (hK.below A.out (aR _) A.out.size);have JH:Hid (∃S,XT w' w.heap.size S/\YL l I y 4 S):=⟨_,hM,TZ.out.add (a:=3) jO HZ.out⟩;have FD:=aT (hK.blk J.out jO);have T:Hid (∀k,k<I->∀a,a<4->0<=y.num a->¬(l[k]!).num a=y.num a):=λk hk a ha h0=>by
             by_cases e:a=3;·subst e;exact HC.out k hk
             ·exact CP.out k hk a jO h0
            clear hM hK;go_wp2;go_roundg (5-4);case measure=>omega
            case rel=>exact⟨4,jO,jO,rfl,JG,JH,FD,T⟩
         ·skip
          have ik:∀W,(Instr.index 38 (.agg #[.int .i64 y.n0,.int .i64 y.n1,.int .i64 y.n2,.int .i64 y.n3,.int .i64 y.n4]) (.int .i64 4)).run prog W=.ok (.int .i64 y.n4) W:=λ_=>jK
          have Z:Oo y.n4:=LQ.out.1 4 jO;by_cases z1:y.n4= -1
          ·have oq:(y.n4 != -1)=false:=by simp[z1]
           have JH:Hid (∃S,XT wr w.heap.size S/\YL l I y 5 S):=by obtain⟨S,Y,h2⟩:=HQ.out;exact⟨S,Y,h2.skip z1⟩
           have T:Hid (∀k,k<I->∀a,a<5->0<=y.num a->¬(l[k]!).num a=y.num a):=λk hk a ha h0=>by
            by_cases e:a=4;·subst e;exact absurd h0 (by show ¬0<=y.n4;omega)
            ·exact CP.out k hk a jO h0
           clear z1 Z;go_wp2;go_roundg (5-5);case measure=>omega
           case rel=>exact⟨5,jO,jO,rfl,A,JH,J,T⟩
          ·have oq:(y.n4 != -1)=true:=by simpa using z1
           have z0:0<=y.n4:=by unfold Oo at Z;omega
           have CA:In64 ((4:Int),y.n4):=⟨(by decide:(Lit.int .i64 4).wf=true),ata (by unfold Oo at Z;omega)⟩;obtain⟨S,hS1,U⟩:=HQ.out;have C:=QQ w.heap.size S ((4:Int),y.n4) wr hS1 CA;have D:=U.num (a:=4) jO z0;have TZ:=aT U;have HZ:=aT z0;clear hS1 U z0 z1 Z CA HQ;cases hd:decide (((4:Int),y.n4)∈S) with
           |true=>
            have HC:Hid (∃k,k<I/\Ol l[k]! y):=by obtain⟨k,Y,h2⟩:=D.1 (ala hd);exact⟨k,Y,.inl ⟨4,jO,HZ.out,h2⟩⟩
            have Hm:=aT (C.mono λe w' h=>h.kept);rw[hd] at Hm;clear C D hd;go_wp2_with fail;refine Hm.out.mono ?_;rintro e w' ⟨rfl,hM,hK⟩;have JG:=aT (hK.below A.out (aR _) A.out.size);clear hM hK;go_wp2;go_ret2;exact⟨_,_,rfl,.inr ⟨jO,.inl ⟨I,hlt,rfl,jO,.inr ⟨by rw[HY.out];exact HV.out,.inr ⟨HG.out,.inr ⟨by rw[HY.out];exact LQ.out,.inr ⟨by rw[HY.out];exact HN.out,.inl ⟨rfl,by rw[HY.out];exact HC.out⟩⟩⟩⟩⟩,HA.out⟩⟩,JG.out⟩
           |false=>
            have HC:Hid (∀k,k<I->¬(l[k]!).num 4=y.num 4):=λk Y h2=>absurd (D.2 ⟨k,Y,h2⟩) (arb hd)
            have Hm:=aT (C.mono λe w' h=>h.kept);rw[hd] at Hm;clear C D hd;go_wp2_with fail;refine Hm.out.mono ?_;rintro e w' ⟨rfl,hM,hK⟩;have JG:=aT (hK.below A.out (aR _) A.out.size);have JH:Hid (∃S,XT w' w.heap.size S/\YL l I y 5 S):=⟨_,hM,TZ.out.add (a:=4) jO HZ.out⟩;have FD:=aT (hK.blk J.out jO);have T:Hid (∀k,k<I->∀a,a<5->0<=y.num a->¬(l[k]!).num a=y.num a):=λk hk a ha h0=>by
             by_cases e:a=4;·subst e;exact HC.out k hk
             ·exact CP.out k hk a jO h0
            clear hM hK;go_wp2;go_roundg (5-5);case measure=>omega
            case rel=>exact⟨5,jO,jO,rfl,JG,JH,FD,T⟩
         ·skip
          have t6:=J.out.cell 6;have t7:=J.out.cell 7;simp only[ak,aL,aF] at t6 t7;have hm:=LQ.out.2;unfold PH at hm;have Cj:0<=y.Yv:=hm.1;have mW:y.Yv<=2:=hm.2.1;have hms:0<y.Yv->1<=y.sub/\y.sub<=255:=hm.2.2.2;clear hm;obtain⟨S,hS1,U⟩:=HQ.out;have HNC:Hid (∀k,k<I->∀a,a<5->0<=y.num a->¬(l[k]!).num a=y.num a):=CP;clear HQ CP;by_cases z1:y.Yv=0
          ·have oq:(y.Yv != 0)=false:=by simp[z1]
           have JH:Hid (∃S,XT wr w.heap.size S/\Seen l (I+1) S):=⟨S,hS1,U.done HY.out jO⟩;have HRS:Hid (W6 l I 0):=.inr ⟨by rw[HY.out];exact HV.out,.inr ⟨HG.out,.inr ⟨by rw[HY.out];exact LQ.out,.inr ⟨by rw[HY.out];exact HN.out,.inr ⟨rfl,λk hk hc=>by
            rw[HY.out] at hc;rcases hc with⟨a,Y,h2,h3⟩|⟨Y,_⟩;·exact HNC.out k hk a Y h2 h3
            ·omega⟩⟩⟩⟩⟩
           clear z1 hS1 U hms;go_wp2;go_roundg (n-(I+1));case measure=>omega
           case rel=>
            refine⟨I+1,jO,jO,by go_num,A,JH,(show Hid _ from λj hj=> ?_)⟩;by_cases e:j=I;·subst e;exact HRS.out
            ·exact HA.out j jO
          ·have oq:(y.Yv != 0)=true:=by simpa using z1
           have z0:0<y.Yv:=jO;obtain⟨s1,s2⟩:=hms z0;have CA:In64 (5+y.Yv,y.sub):=⟨ata (by show _<=5+y.Yv/\5+y.Yv<=_;omega),ata (by show _<=y.sub/\y.sub<=_;omega)⟩;have C:=QQ w.heap.size S (5+y.Yv,y.sub) wr hS1 CA;have D:=U.Yv z0;have TZ:=aT U;have HZ:=aT z0;clear hS1 U z0 z1 CA hms s1 s2;cases hd:decide ((5+y.Yv,y.sub)∈S) with
           |true=>
            have HC:Hid (∃k,k<I/\Ol l[k]! y):=by obtain⟨k,Y,h2,h3⟩:=D.1 (ala hd);exact⟨k,Y,.inr ⟨HZ.out,h2,h3⟩⟩
            have Hm:=aT (C.mono λe w' h=>h.kept);rw[hd] at Hm;clear C D hd;go_wp2_with fail;refine Hm.out.mono ?_;rintro e w' ⟨rfl,hM,hK⟩;have JG:=aT (hK.below A.out (aR _) A.out.size);clear hM hK;go_wp2;go_ret2;exact⟨_,_,rfl,.inr ⟨jO,.inl ⟨I,hlt,rfl,jO,.inr ⟨by rw[HY.out];exact HV.out,.inr ⟨HG.out,.inr ⟨by rw[HY.out];exact LQ.out,.inr ⟨by rw[HY.out];exact HN.out,.inl ⟨rfl,by rw[HY.out];exact HC.out⟩⟩⟩⟩⟩,HA.out⟩⟩,JG.out⟩
           |false=>
            have HC:Hid (∀k,k<I->¬((l[k]!).Yv=y.Yv/\(l[k]!).sub=y.sub)):=λk Y h2=>absurd (D.2 ⟨k,Y,h2⟩) (arb hd)
            have Hm:=aT (C.mono λe w' h=>h.kept);rw[hd] at Hm;clear C D hd;go_wp2_with fail;refine Hm.out.mono ?_;rintro e w' ⟨rfl,hM,hK⟩;have JG:=aT (hK.below A.out (aR _) A.out.size);have JH:Hid (∃S,XT w' w.heap.size S/\Seen l (I+1) S):=⟨_,hM,TZ.out.hZ HY.out HZ.out⟩;have HRS:Hid (W6 l I 0):=.inr ⟨by rw[HY.out];exact HV.out,.inr ⟨HG.out,.inr ⟨by rw[HY.out];exact LQ.out,.inr ⟨by rw[HY.out];exact HN.out,.inr ⟨rfl,λk hk hc=>by
             rw[HY.out] at hc;rcases hc with⟨a,Y,h2,h3⟩|⟨_,h2,h3⟩;·exact HNC.out k hk a Y h2 h3
             ·exact HC.out k hk ⟨h2,h3⟩⟩⟩⟩⟩⟩
            clear hM hK;go_wp2;go_roundg (n-(I+1));case measure=>omega
            case rel=>
             refine⟨I+1,jO,jO,by go_num,JG,JH,(show Hid _ from λj hj=> ?_)⟩;by_cases e:j=I;·subst e;exact HRS.out
             ·exact HA.out j jO
         ·omega
   ·have Y8:¬(I:Int)<(n:Int):=by omega
    obtain rfl:I=n:=jO;go_wp2;go_ret2;exact⟨_,_,rfl,.inr ⟨jO,.inr ⟨rfl,rfl,HA.out⟩⟩,A.out⟩
theorem XQ(sv:Value)(l:List Z2)(w:World)(A:l.length<=1000000)(J:X2 w sv l)(C:∀r∈l,r.name.size<=9223372036854775807):
 Calls prog 76 #[sv] w (Iw l w):=by
 obtain⟨x,c,rfl,h⟩:=J;rcases h with rfl|⟨b,off,rfl,D,hr⟩
 ·have U:= @apc prog;go_enter func76,ntmps76;go_wp2
  go_loop [16] (λT=>T=.int .i64 0) (λ_=>0)
  case atStart=>rfl
  case round=>
   obtain rfl:=hrel;go_wp2;go_ret2;exact⟨0,0,rfl,.inr ⟨abc _,.inr ⟨rfl,rfl,λj I=>absurd I (ajd _)⟩⟩,(aH _ w).alloc (aR _) _⟩
 ·exact ot b off c l w A D hr C
theorem W6.one{l:List Z2}{i:Nat}{v v':Int}(h:W6 l i v)(C:W6 l i v'):v=v':=by
 rcases h with⟨rfl,a⟩|⟨a,⟨rfl,b⟩|⟨b,⟨rfl,c⟩|⟨c,⟨rfl,d⟩|⟨d,⟨rfl,e⟩|⟨rfl,e⟩⟩⟩⟩⟩<;>
 rcases C with⟨rfl,a'⟩|⟨a',⟨rfl,b'⟩|⟨b',⟨rfl,D⟩|⟨D,⟨rfl,d'⟩|⟨d',⟨rfl,A⟩|⟨rfl,A⟩⟩⟩⟩⟩<;>
 first
  |rfl
  |exact absurd ‹Yj _› ‹¬Yj _›
  |exact absurd ‹Tu _ _› ‹¬Tu _ _›
  |exact absurd ‹Om _› ‹¬Om _›
  |exact absurd ‹PG _› ‹¬PG _›
  |(exfalso;obtain⟨k,hk,hc⟩:=e;exact A k hk hc)
  |(exfalso;obtain⟨k,hk,hc⟩:=A;exact e k hk hc)
end Go.Proofs.YtclgigmgbebhgaaGreatDoor.Z4
