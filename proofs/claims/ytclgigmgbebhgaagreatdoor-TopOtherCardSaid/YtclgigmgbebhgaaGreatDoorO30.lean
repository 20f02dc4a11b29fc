/- TopOther: part 30: TopChk3. -/
import Derived.Test.YtclgigmgbebhgaaGreatDoorO26
set_option linter.unusedVariables false
set_option linter.unusedSimpArgs false
set_option maxRecDepth 100000
set_option maxHeartbeats 16000000
namespace Go.Proofs.YtclgigmgbebhgaaGreatDoor
open Tryz
open Go Go.Proofs Go.RowKit
abbrev TAt:Nat:=306
def pF(cs:Array Value):Prop:=cs.size=4096/\∀j,j<4096->∃z:Int,cs[j]? =some (.int .u16 z)
theorem pF.set{cs:Array Value}(h:pF cs)(i:Nat)(z:Int):pF (cs.setIfInBounds i (.int .u16 z)):=by
 refine⟨by simpa using h.1,λj A=> ?_⟩;rw[Array.getElem?_setIfInBounds];by_cases e:i=j;·subst e;rw[aG rfl,aG (by rw[h.1];exact A)];exact⟨z,rfl⟩
 ·rw[aN e];exact h.2 j A
theorem pF.list{cs:Array Value}(h:pF cs):∀n:Nat,n<=4096->∃vs:List Int,vs.length=n/\∀(j:Nat) (u:Value),(vs.map (Value.int .u16))[j]? =some u->cs[j]? =some u
 |0,_=>⟨[],rfl,λj u hu=>by simp at hu⟩
 |n+1,hn=>by
  obtain⟨vs,hl,hv⟩:=pF.list h n jO;obtain⟨z,hz⟩:=h.2 n jO;refine⟨vs++[z],by simp[hl],λj u hu=> ?_⟩;rw[acf,List.getElem?_append] at hu;split at hu;·exact hv j u hu
  ·rename_i A;rw[aad,hl] at A hu
   obtain rfl:j=n:=by
    rcases Nat.lt_or_ge (j-n) 1 with C|C;·omega
    ·simp[ahe (l:=[Value.int .u16 z]) (by simpa using C)] at hu
   rw[alb] at hu;rw[hz];simpa using hu
theorem je:(prog.info? 137).map (λi=>(i.zero,i.size,i.bytes))=some (some (.int .u16 0),1,2):=jK
structure QK(LO At:Nat)(w W:World)(cs:Array Value):Prop where
 Zs:Below LO w W
 bk:Z7 W At TAt cs
 u:pF cs
 lo:LO<=w.heap.size/\LO<=At
section
variable {LO At:Nat} {w W W':World} {cs:Array Value}
theorem QK.bl(h:QK LO At w W cs)(hb:Below W.heap.size W W'):QK LO At w W' cs:=⟨h.Zs.trans (hb.mono (aO h.lo.1 h.Zs.size)),h.bk.below hb h.bk.lt,h.u,h.lo⟩
theorem QK.set(h:QK LO At w W cs)(i:Nat)(z:Int):QK LO At w (W.setCell ⟨At,i,none⟩ (.int .u16 z)) (cs.setIfInBounds i (.int .u16 z)):=⟨h.Zs.setCell (p:=⟨At,_,none⟩) h.lo.2 _,h.bk.set i _,h.u.set i z,h.lo⟩
theorem QK.at(h:QK LO At w W cs){i:Nat}(hi:i<4096):(∃z:Int,W.cell? ⟨At,i,none⟩=some (.int .u16 z))/\W.frozen? ⟨At,i,none⟩=false:=by
 obtain⟨z,hz⟩:=h.u.2 i hi;exact⟨⟨z,(h.bk.cell i).trans hz⟩,h.bk.frozen i⟩
theorem QK.drew(h:QK LO At w W cs):QK LO At w W.drew cs:=⟨h.Zs.drew,h.bk,h.u,h.lo⟩
end
theorem X4{LO At nB t:Nat}{w:World}{z:Int}{cs:Array Value}(W:World)(h:QK LO At w W cs)(hn:Z7 W nB 137 #[.int .u16 z])(ht:t<4096):
 Calls prog 184 #[.int .i64 t,.pointer (some ⟨At,0,none⟩),.pointer (some ⟨nB,0,none⟩)] W λe W'=>e=.returned (.tuple #[])/\∃cs',QK LO At w W' cs'/\(∀B A C,B≠At->Z7 W B A C->Z7 W' B A C)/\W.heap.size=W'.heap.size:=by
 obtain⟨⟨a,ha⟩,hf⟩:=h.at ht;have hb:=cell1 hn;have T:=jZ t;have t1:(t:Int)<4096:=jO;have D:=aT (h.set t (bits .and .u16 a z));have I:Hid (∀B A C,B≠At->Z7 W B A C->Z7 (W.setCell ⟨At,t,none⟩ (.int .u16 (bits .and .u16 a z))) B A C):=λB A C J hk=>hk.other J _ _
 clear h hn;go_enter func184,ntmps184;go_region;go_wp2_with fail;go_end0;exact⟨rfl,_,D.out.drew,I.out,jS⟩
theorem zeroAt:Tryz.zeroCells306=Array.replicate 4096 (.int .u16 0):=jK
theorem pF.zero:pF Tryz.zeroCells306:=by
 rw[zeroAt];exact⟨auf,λj A=>⟨0,by rw[Array.getElem?_replicate,aG A]⟩⟩
theorem Am{N c n:Nat}{ad:Option Addr}{out:List ZN}(h:X6 out n)(w:World)(hm:Jj N w ad out)(hN:N<=w.heap.size):
 Calls prog 114 #[.slice ad n c] w λe w'=>∃(v:Value) (vs:List Int),e=.returned v/\w'.ownsRow w.heap.size 137 1 v n (vs.map (Value.int .u16))/\vs.length=n/\Below w.heap.size w w':=by
 have H:=aT h;have HM:=aT hm;have HFo:=aT (PD h (c:=c) w hm hN);have hp:=h.pos;have hmx:=h.max;have nz:((n:Int) == 0)=false:=by rw[ae];omega
 have HU:=aT pF.zero;clear h hm;go_enter func114,ntmps114;go_wp2_with fail;refine HFo.out.mono ?_;rintro e w1 ⟨rfl,hb⟩;have HS:Hid (QK w.heap.size w1.heap.size w (w1.alloc (.cells Tryz.zeroCells306 TAt)) Tryz.zeroCells306):=⟨hb.alloc hb.size _,Z7.new w1 _ _,HU.out,aR _,hb.size⟩;clear hb HFo;go_upto_region 6 with fail;generalize w1.alloc (.cells Tryz.zeroCells306 TAt)=w2 at*;generalize Tryz.zeroCells306=zs at*;generalize w1.heap.size=At at*;go_loopg [23] (n+1) (λgg iv wr=>∃(k:Nat) (cs:Array Value),k<=n/\n-k<gg/\iv=.int .i64 (k:Int)/\Hid (QK w.heap.size At w wr cs));case atStart=>exact⟨0,zs,abc _,jO,rfl,HS⟩
 case round=>
  obtain⟨k,cs,hk,VP,rfl,HS⟩:=hrel;have k0:=jZ k;by_cases hlt:k<n
  ·have Y8:(k:Int)<(n:Int):=by omega
   have an1:(k:Int)<4096:=jO;have iw:=jW k;obtain⟨⟨z,hz⟩,hf⟩:=HS.out.at (i:=k) jO;have TZ:=aT (HS.out.set k 65535);clear HS;go_wp2_with fail;go_roundg (n-k);case measure=>omega
   case rel=>exact⟨k+1,_,jO,jO,by go_num,TZ⟩
  ·obtain rfl:k=n:=by omega
   have Y8:¬(k:Int)<(k:Int):=jO;obtain⟨⟨z,hz⟩,hf⟩:=HS.out.at (i:=0) jO;have TZ:=aT (HS.out.set 0 0);clear HS;go_upto_region 12 with fail;clear hz hf;generalize wr.setCell ⟨At,0,none⟩ (.int .u16 0)=w3 at*;go_loopg [32] (k+1) (λgg iv wr=>∃(m:Nat) (cs:Array Value),m<=k/\k-m<gg/\iv=.int .i64 (m:Int)/\Hid (QK w.heap.size At w wr cs));case atStart=>exact⟨0,_,abc _,jO,rfl,TZ⟩
   case round=>
    obtain⟨m,cs,zj,lS,rfl,HS⟩:=hrel;have m0:=jZ m;by_cases RQ:m<k
    ·have II:(m:Int)<(k:Int):=by omega
     have an1:(m:Int)<4096:=jO;have iw:=jW m;obtain⟨x,hx⟩:∃x,out[m]? =some x:=⟨_,aM (by rw[H.out.len];exact RQ)⟩;obtain⟨g,off,rfl,U7,c0,c1,c2,c3⟩:=HM.out m x hx;have y0:=ZY HS.out.Zs hN U7 c0;have y1:=ZY HS.out.Zs hN U7 c1;have y2:=ZY HS.out.Zs hN U7 c2;have y3:=ZY HS.out.Zs hN U7 c3;have hc:=H.out.code hx;obtain⟨_,_,hj,D⟩:=H.out.ok m x hx;have U:x.code≠0x06->m+1<k:=λh6=>by
      by_cases e:m=k-1;·exact absurd (H.out.last x (by rw[<-e];exact hx)) h6
      ·omega
     have HX:=aT (And.intro hj (And.intro D U));have vg:=H.out.fit x (af hx);obtain⟨xc,Y,xf,xk⟩:=x;obtain⟨_,ft,ff,fk⟩:=vg;dsimp only at y0 y1 y2 y3 hc ft ff fk;have HA:=aT (Z7.new wr XG #[.int .u16 xc,.int .u8 Y,.int .u8 xf,.int .u32 xk]);have fz:=aT (HS.out.bl ((aH wr.heap.size wr).alloc (aR _) (.cells #[.int .u16 xc,.int .u8 Y,.int .u8 xf,.int .u32 xk] XG)));have Ig:=aT (V7 hc (wr.alloc (.cells #[.int .u16 xc,.int .u8 Y,.int .u8 xf,.int .u32 xk] XG)));clear c0 c1 c2 c3 hx HS hj D U;go_upto_region 14 with fail;generalize wr.alloc (.cells #[.int .u16 xc,.int .u8 Y,.int .u8 xf,.int .u32 xk] XG)=wa at*;generalize wr.heap.size=B1 at*;clear y0 y1 y2 y3;have z0:=HA.out.cell 0;simp only[ak,aL] at z0;go_wp2_with fail;refine Ig.out.mono ?_;rintro e w4 ⟨rfl,hb⟩;have Ut:=aT (HA.out.below hb HA.out.lt);have xi:=aT (fz.out.bl hb);clear z0 Ig hb HA fz;obtain⟨⟨z,hz⟩,hf⟩:=xi.out.at (i:=m) jO;have A:=aT (Z7.new w4 137 #[.int .u16 z]);have C:=aT (Ut.out.alloc (.cells #[.int .u16 z] 137));have J:=aT (xi.out.bl ((aH w4.heap.size w4).alloc (aR _) (.cells #[.int .u16 z] 137)));have hnA:w4.heap.size≠At:=λe=>by have:=xi.out.bk.lt;omega
     have hBA:B1≠At:=sS Ut.out xi.out.bk jD;clear Ut xi;go_upto_region 16 with fail;clear hz hf;generalize w4.alloc (.cells #[.int .u16 z] 137)=w5 at*;generalize w4.heap.size=nB at*;have z0:=C.out.cell 0;have z1:=C.out.cell 1;have z2:=C.out.cell 2;have z3:=C.out.cell 3;simp only[ak,aL,aF] at z0 z1 z2 z3;have n0:=cell1 A.out;have gF:∀(fn:Fn) (first cap:Array Value) (w:World),(Instr.makeFunc fn first cap).run prog w=.ok (.func fn first cap) w:=λ_ _ _ _=>rfl
     obtain⟨hj,D,U⟩:=HX.out;try dsimp only at hj
     try dsimp only at D
     try dsimp only at U
     clear HX;rcases hc with rfl|rfl|rfl|rfl|rfl|rfl|rfl|rfl
     ·have tQ:=U jD;have Z:=aT (X4 (t:=m+1) w5 J.out A.out jO);rw[avg,azb] at Z;clear hj D U A J C;go_wp2_with fail;refine Z.out.mono ?_;rintro e w6 ⟨rfl,cs6,h6,_,_⟩;have HS6:=aT h6;clear h6 Z n0 z0 z1 z2 z3;go_wp2_with fail;go_roundg (k-m);case measure=>omega
      case rel=>exact⟨m+1,_,jO,jO,by go_num,HS6⟩
     ·have tQ:=U jD;have Z:=aT (X4 (t:=m+1) w5 J.out A.out jO);rw[avg,azb] at Z;clear hj D U A J C;go_wp2_with fail;refine Z.out.mono ?_;rintro e w6 ⟨rfl,cs6,h6,_,_⟩;have HS6:=aT h6;clear h6 Z n0 z0 z1 z2 z3;go_wp2_with fail;go_roundg (k-m);case measure=>omega
      case rel=>exact⟨m+1,_,jO,jO,by go_num,HS6⟩
     ·have tQ:=hj rfl;have w1:IntKind.i64.wrap (xk:Int)=(xk:Int):=aJ _ jO;have w2:IntKind.i64.wrap ((m:Int)+1+(xk:Int))=((m+1+xk:Nat):Int):=by rw[aJ _ jO];omega
      have Z:=aT (X4 (t:=m+1+xk) w5 J.out A.out jO);obtain⟨T,hT⟩:=jX (m+1+xk);rw[hT] at Z w2;clear hj D U A J C hT;go_wp2_with fail;refine Z.out.mono ?_;rintro e w6 ⟨rfl,cs6,h6,_,_⟩;have HS6:=aT h6;clear h6 Z n0 z0 z1 z2 z3;go_wp2_with fail;go_roundg (k-m);case measure=>omega
      case rel=>exact⟨m+1,_,jO,jO,by go_num,HS6⟩
     ·clear hj D U A C;go_wp2_with fail;go_roundg (k-m);case measure=>omega
      case rel=>exact⟨m+1,_,jO,jO,by go_num,J⟩
     ·obtain⟨b1,b2⟩:=D rfl;have w1:IntKind.i64.wrap (Y:Int)=(Y:Int):=aJ _ jO;have w1b:IntKind.i64.wrap (xf:Int)=(xf:Int):=aJ _ jO;have w2:IntKind.i64.wrap ((m:Int)+1+(Y:Int))=((m+1+Y:Nat):Int):=by rw[aJ _ jO];omega
      have w3:IntKind.i64.wrap ((m:Int)+1+(xf:Int))=((m+1+xf:Nat):Int):=by rw[aJ _ jO];omega
      have Z:=aT (X4 (t:=m+1+Y) w5 J.out A.out jO);obtain⟨T,hT⟩:=jX (m+1+Y);obtain⟨F,hF⟩:=jX (m+1+xf);have hF4:F<4096:=jO;rw[hT] at Z w2;rw[hF] at w3;clear hj D U J hT hF;go_wp2_with fail;refine Z.out.mono ?_;rintro e w6 ⟨rfl,cs6,h6,I,_⟩;have Gg:=aT (I _ _ _ hBA C.out);have KH:=aT (X4 (t:=F) w6 h6 (I _ _ _ hnA A.out) hF4);clear h6 I Z n0 z0 z1 z2 z3 C A;have z2:=Gg.out.cell 2;simp only[ak,aL,aF] at z2;go_wp2_with fail;refine KH.out.mono ?_;rintro e w7 ⟨rfl,cs7,h7,_,_⟩;have LN:=aT h7;clear h7 KH z2;go_wp2_with fail;go_roundg (k-m);case measure=>omega
      case rel=>exact⟨m+1,_,jO,jO,by go_num,LN⟩
     ·obtain⟨b1,b2⟩:=D rfl;have w1:IntKind.i64.wrap (Y:Int)=(Y:Int):=aJ _ jO;have w1b:IntKind.i64.wrap (xf:Int)=(xf:Int):=aJ _ jO;have w2:IntKind.i64.wrap ((m:Int)+1+(Y:Int))=((m+1+Y:Nat):Int):=by rw[aJ _ jO];omega
      have w3:IntKind.i64.wrap ((m:Int)+1+(xf:Int))=((m+1+xf:Nat):Int):=by rw[aJ _ jO];omega
      have Z:=aT (X4 (t:=m+1+Y) w5 J.out A.out jO);obtain⟨T,hT⟩:=jX (m+1+Y);obtain⟨F,hF⟩:=jX (m+1+xf);have hF4:F<4096:=jO;rw[hT] at Z w2;rw[hF] at w3;clear hj D U J hT hF;go_wp2_with fail;refine Z.out.mono ?_;rintro e w6 ⟨rfl,cs6,h6,I,_⟩;have Gg:=aT (I _ _ _ hBA C.out);have KH:=aT (X4 (t:=F) w6 h6 (I _ _ _ hnA A.out) hF4);clear h6 I Z n0 z0 z1 z2 z3 C A;have z2:=Gg.out.cell 2;simp only[ak,aL,aF] at z2;go_wp2_with fail;refine KH.out.mono ?_;rintro e w7 ⟨rfl,cs7,h7,_,_⟩;have LN:=aT h7;clear h7 KH z2;go_wp2_with fail;go_roundg (k-m);case measure=>omega
      case rel=>exact⟨m+1,_,jO,jO,by go_num,LN⟩
     ·obtain⟨b1,b2⟩:=D rfl;have w1:IntKind.i64.wrap (Y:Int)=(Y:Int):=aJ _ jO;have w1b:IntKind.i64.wrap (xf:Int)=(xf:Int):=aJ _ jO;have w2:IntKind.i64.wrap ((m:Int)+1+(Y:Int))=((m+1+Y:Nat):Int):=by rw[aJ _ jO];omega
      have w3:IntKind.i64.wrap ((m:Int)+1+(xf:Int))=((m+1+xf:Nat):Int):=by rw[aJ _ jO];omega
      have Z:=aT (X4 (t:=m+1+Y) w5 J.out A.out jO);obtain⟨T,hT⟩:=jX (m+1+Y);obtain⟨F,hF⟩:=jX (m+1+xf);have hF4:F<4096:=jO;rw[hT] at Z w2;rw[hF] at w3;clear hj D U J hT hF;go_wp2_with fail;refine Z.out.mono ?_;rintro e w6 ⟨rfl,cs6,h6,I,_⟩;have Gg:=aT (I _ _ _ hBA C.out);have KH:=aT (X4 (t:=F) w6 h6 (I _ _ _ hnA A.out) hF4);clear h6 I Z n0 z0 z1 z2 z3 C A;have z2:=Gg.out.cell 2;simp only[ak,aL,aF] at z2;go_wp2_with fail;refine KH.out.mono ?_;rintro e w7 ⟨rfl,cs7,h7,_,_⟩;have LN:=aT h7;clear h7 KH z2;go_wp2_with fail;go_roundg (k-m);case measure=>omega
      case rel=>exact⟨m+1,_,jO,jO,by go_num,LN⟩
     ·obtain⟨b1,b2⟩:=D rfl;have w1:IntKind.i64.wrap (Y:Int)=(Y:Int):=aJ _ jO;have w1b:IntKind.i64.wrap (xf:Int)=(xf:Int):=aJ _ jO;have w2:IntKind.i64.wrap ((m:Int)+1+(Y:Int))=((m+1+Y:Nat):Int):=by rw[aJ _ jO];omega
      have w3:IntKind.i64.wrap ((m:Int)+1+(xf:Int))=((m+1+xf:Nat):Int):=by rw[aJ _ jO];omega
      have Z:=aT (X4 (t:=m+1+Y) w5 J.out A.out jO);obtain⟨T,hT⟩:=jX (m+1+Y);obtain⟨F,hF⟩:=jX (m+1+xf);have hF4:F<4096:=jO;rw[hT] at Z w2;rw[hF] at w3;clear hj D U J hT hF;go_wp2_with fail;refine Z.out.mono ?_;rintro e w6 ⟨rfl,cs6,h6,I,_⟩;have Gg:=aT (I _ _ _ hBA C.out);have KH:=aT (X4 (t:=F) w6 h6 (I _ _ _ hnA A.out) hF4);clear h6 I Z n0 z0 z1 z2 z3 C A;have z2:=Gg.out.cell 2;simp only[ak,aL,aF] at z2;go_wp2_with fail;refine KH.out.mono ?_;rintro e w7 ⟨rfl,cs7,h7,_,_⟩;have LN:=aT h7;clear h7 KH z2;go_wp2_with fail;go_roundg (k-m);case measure=>omega
      case rel=>exact⟨m+1,_,jO,jO,by go_num,LN⟩
    ·obtain rfl:m=k:=by omega
     have II:¬(m:Int)<(m:Int):=jO;have cW:prog.arrayLen TAt=4096:=jK;have Jh:(m:Int)<=4096:=jO;obtain⟨vs,hvl,hvs⟩:=pF.list HS.out.u _ hmx;obtain⟨i0,hi,hz0,hz1,hz2⟩:=ZP je;have Ju:w.heap.size<=wr.heap.size:=HS.out.Zs.size;have IG:∀(j:Nat) (u:Value),(vs.map (Value.int .u16))[j]? =some u->wr.cell? ((⟨At,0,none⟩:Addr).add j)=some u:=λj u hu=>by
      have e:((⟨At,0,none⟩:Addr).add j)=⟨At,j,none⟩:=by simp[Addr.add];exact λh=>h.symm
      rw[e];exact(HS.out.bk.cell j).trans (hvs j u hu)
     have hll:(vs.map (Value.int .u16)).length=m*1:=by simp[hvl]
     go_wp2_with (at_builtin;refine adg _ rfl _ _ 228 rfl w.heap.size 137 i0 (.int .u16 0) 1 2 underlying228 hi hz0 hz1 hz2 rfl jD _ 0 [] rfl (Yg _ _ _ _) ⟨At,0,none⟩ m 4096 (vs.map (Value.int .u16)) rfl ?c1 ?c2 ?c3 ?c4 ?c5 ?c6 ?_;(case c1=>exact hll);(case c2=>exact IG);(case c3=>intro u hu;obtain⟨z,_,rfl⟩:=ai.1 hu;rfl);(case c4=>unfold maxLen;omega);(case c5=>omega);(case c6=>exact Ju);intro v' w6 hown' hgrow _;rw[aca,age] at hown')
     go_ret;exact⟨_,rfl,vs,hown',hvl,HS.out.Zs.grown hgrow Ju (λk e=>by have e':(none:Option Nat)=some k:=e;cases e')⟩
end Go.Proofs.YtclgigmgbebhgaaGreatDoor
