/- TopAsks: part 30: TopChk3. -/
import Derived.Test.YtclgigmgbebhgaaGreatDoorA26
set_option linter.unusedVariables false
set_option linter.unusedSimpArgs false
set_option maxRecDepth 100000
set_option maxHeartbeats 16000000
namespace Go.Proofs.YtclgigmgbebhgaaGreatDoor
open Tryz
open Go Go.Proofs Go.RowKit
abbrev TAt:Nat:=306
def pX(cs:Array Value):Prop:=cs.size=4096/\∀j,j<4096->∃z:Int,cs[j]? =some (.int .u16 z)
theorem pX.set{cs:Array Value}(h:pX cs)(i:Nat)(z:Int):pX (cs.setIfInBounds i (.int .u16 z)):=by
 refine⟨by simpa using h.1,λj A=> ?_⟩;rw[Array.getElem?_setIfInBounds];by_cases e:i=j;·subst e;rw[aH rfl,aH (by rw[h.1];exact A)];exact⟨z,rfl⟩
 ·rw[aN e];exact h.2 j A
theorem pX.list{cs:Array Value}(h:pX cs):∀n:Nat,n<=4096->∃vs:List Int,vs.length=n/\∀(j:Nat) (u:Value),(vs.map (Value.int .u16))[j]? =some u->cs[j]? =some u
 |0,_=>⟨[],rfl,λj u hu=>by simp at hu⟩
 |n+1,hn=>by
  obtain⟨vs,hl,hv⟩:=pX.list h n jO;obtain⟨z,hz⟩:=h.2 n jO;refine⟨vs++[z],by simp[hl],λj u hu=> ?_⟩;rw[adb,List.getElem?_append] at hu;split at hu;·exact hv j u hu
  ·rename_i A;rw[aac,hl] at A hu
   obtain rfl:j=n:=by
    rcases Nat.lt_or_ge (j-n) 1 with C|C;·omega
    ·simp[ahg (l:=[Value.int .u16 z]) (by simpa using C)] at hu
   rw[alc] at hu;rw[hz];simpa using hu
theorem jH:(prog.info? 137).map (λi=>(i.zero,i.size,i.bytes))=some (some (.int .u16 0),1,2):=jK
structure QK(LO At:Nat)(w W:World)(cs:Array Value):Prop where
 Zs:Below LO w W
 bk:Z8 W At TAt cs
 u:pX cs
 lo:LO<=w.heap.size/\LO<=At
section
variable {LO At:Nat} {w W W':World} {cs:Array Value}
theorem QK.bl(h:QK LO At w W cs)(hb:Below W.heap.size W W'):QK LO At w W' cs:=⟨h.Zs.trans (hb.mono (aO h.lo.1 h.Zs.size)),h.bk.below hb h.bk.lt,h.u,h.lo⟩
theorem QK.set(h:QK LO At w W cs)(i:Nat)(z:Int):QK LO At w (W.setCell ⟨At,i,none⟩ (.int .u16 z)) (cs.setIfInBounds i (.int .u16 z)):=⟨h.Zs.setCell (p:=⟨At,_,none⟩) h.lo.2 _,h.bk.set i _,h.u.set i z,h.lo⟩
theorem QK.at(h:QK LO At w W cs){i:Nat}(hi:i<4096):(∃z:Int,W.cell? ⟨At,i,none⟩=some (.int .u16 z))/\W.frozen? ⟨At,i,none⟩=false:=by
 obtain⟨z,hz⟩:=h.u.2 i hi;exact⟨⟨z,(h.bk.cell i).trans hz⟩,h.bk.frozen i⟩
theorem QK.drew(h:QK LO At w W cs):QK LO At w W.drew cs:=⟨h.Zs.drew,h.bk,h.u,h.lo⟩
end
theorem X3{LO At nB t:Nat}{w:World}{z:Int}{cs:Array Value}(W:World)(h:QK LO At w W cs)(hn:Z8 W nB 137 #[.int .u16 z])(ht:t<4096):
 Calls prog 184 #[.int .i64 t,.pointer (some ⟨At,0,none⟩),.pointer (some ⟨nB,0,none⟩)] W λe W'=>e=.returned (.tuple #[])/\∃cs',QK LO At w W' cs'/\(∀B A C,B≠At->Z8 W B A C->Z8 W' B A C)/\W.heap.size=W'.heap.size:=by
 obtain⟨⟨a,ha⟩,hf⟩:=h.at ht;have hb:=cell1 hn;have T:=jZ t;have t1:(t:Int)<4096:=jO;have D:=aT (h.set t (bits .and .u16 a z));have I:Hid (∀B A C,B≠At->Z8 W B A C->Z8 (W.setCell ⟨At,t,none⟩ (.int .u16 (bits .and .u16 a z))) B A C):=λB A C J hk=>hk.other J _ _
 clear h hn;go_enter func184,ntmps184;go_region;go_wp2_with fail;go_end0;exact⟨rfl,_,D.out.drew,I.out,jS⟩
theorem zeroAt:Tryz.zeroCells306=Array.replicate 4096 (.int .u16 0):=jK
theorem pX.zero:pX Tryz.zeroCells306:=by
 rw[zeroAt];exact⟨auc,λj A=>⟨0,by rw[Array.getElem?_replicate,aH A]⟩⟩
theorem A6{N c n:Nat}{ad:Option Addr}{out:List ZL}(h:XN out n)(w:World)(hm:JB N w ad out)(hN:N<=w.heap.size):
 Calls prog 114 #[.slice ad n c] w λe w'=>∃(v:Value) (vs:List Int),e=.returned v/\w'.ownsRow w.heap.size 137 1 v n (vs.map (Value.int .u16))/\vs.length=n/\Below w.heap.size w w':=by
 have H:=aT h;have HM:=aT hm;have HFo:=aT (PA h (c:=c) w hm hN);have hp:=h.pos;have hmx:=h.max;have nz:((n:Int) == 0)=false:=by rw[af];omega
 have HU:=aT pX.zero;clear h hm;go_enter func114,ntmps114;go_wp2_with fail;refine HFo.out.mono ?_;rintro e w1 ⟨rfl,hb⟩;have HS:Hid (QK w.heap.size w1.heap.size w (w1.alloc (.cells Tryz.zeroCells306 TAt)) Tryz.zeroCells306):=⟨hb.alloc hb.size _,Z8.new w1 _ _,HU.out,aP _,hb.size⟩;clear hb HFo;go_upto_region 6 with fail;generalize w1.alloc (.cells Tryz.zeroCells306 TAt)=w2 at*;generalize Tryz.zeroCells306=zs at*;generalize w1.heap.size=At at*;go_loopg [23] (n+1) (λgg iv wr=>∃(k:Nat) (cs:Array Value),k<=n/\n-k<gg/\iv=.int .i64 (k:Int)/\Hid (QK w.heap.size At w wr cs));case atStart=>exact⟨0,zs,abb _,jO,rfl,HS⟩
 case round=>
  obtain⟨k,cs,hk,VM,rfl,HS⟩:=hrel;have k0:=jZ k;by_cases hlt:k<n
  ·have Zc:(k:Int)<(n:Int):=by omega
   have ak7:(k:Int)<4096:=jO;have iw:=jW k;obtain⟨⟨z,hz⟩,hf⟩:=HS.out.at (i:=k) jO;have QN:=aT (HS.out.set k 65535);clear HS;go_wp2_with fail;go_roundg (n-k);case measure=>omega
   case rel=>exact⟨k+1,_,jO,jO,by go_num,QN⟩
  ·obtain rfl:k=n:=by omega
   have Zc:¬(k:Int)<(k:Int):=jO;obtain⟨⟨z,hz⟩,hf⟩:=HS.out.at (i:=0) jO;have QN:=aT (HS.out.set 0 0);clear HS;go_upto_region 12 with fail;clear hz hf;generalize wr.setCell ⟨At,0,none⟩ (.int .u16 0)=w3 at*;go_loopg [32] (k+1) (λgg iv wr=>∃(m:Nat) (cs:Array Value),m<=k/\k-m<gg/\iv=.int .i64 (m:Int)/\Hid (QK w.heap.size At w wr cs));case atStart=>exact⟨0,_,abb _,jO,rfl,QN⟩
   case round=>
    obtain⟨m,cs,zx,mm,rfl,HS⟩:=hrel;have m0:=jZ m;by_cases Pd:m<k
    ·have Ja:(m:Int)<(k:Int):=by omega
     have ak7:(m:Int)<4096:=jO;have iw:=jW m;obtain⟨x,hx⟩:∃x,out[m]? =some x:=⟨_,aM (by rw[H.out.len];exact Pd)⟩;obtain⟨g,off,rfl,Va,c0,c1,c2,c3⟩:=HM.out m x hx;have y0:=ZZ HS.out.Zs hN Va c0;have y1:=ZZ HS.out.Zs hN Va c1;have y2:=ZZ HS.out.Zs hN Va c2;have y3:=ZZ HS.out.Zs hN Va c3;have hc:=H.out.code hx;obtain⟨_,_,hj,D⟩:=H.out.ok m x hx;have U:x.code≠0x06->m+1<k:=λh6=>by
      by_cases e:m=k-1;·exact absurd (H.out.last x (by rw[<-e];exact hx)) h6
      ·omega
     have HX:=aT (And.intro hj (And.intro D U));have vF:=H.out.fit x (ag hx);obtain⟨xc,Y,xf,xk⟩:=x;obtain⟨_,ft,ff,fk⟩:=vF;dsimp only at y0 y1 y2 y3 hc ft ff fk;have HA:=aT (Z8.new wr XG #[.int .u16 xc,.int .u8 Y,.int .u8 xf,.int .u32 xk]);have fZ:=aT (HS.out.bl ((aG wr.heap.size wr).alloc (aP _) (.cells #[.int .u16 xc,.int .u8 Y,.int .u8 xf,.int .u32 xk] XG)));have IM:=aT (V8 hc (wr.alloc (.cells #[.int .u16 xc,.int .u8 Y,.int .u8 xf,.int .u32 xk] XG)));clear c0 c1 c2 c3 hx HS hj D U;go_upto_region 14 with fail;generalize wr.alloc (.cells #[.int .u16 xc,.int .u8 Y,.int .u8 xf,.int .u32 xk] XG)=wa at*;generalize wr.heap.size=B1 at*;clear y0 y1 y2 y3;have z0:=HA.out.cell 0;simp only[ak,aL] at z0;go_wp2_with fail;refine IM.out.mono ?_;rintro e w4 ⟨rfl,hb⟩;have QM:=aT (HA.out.below hb HA.out.lt);have xK:=aT (fZ.out.bl hb);clear z0 IM hb HA fZ;obtain⟨⟨z,hz⟩,hf⟩:=xK.out.at (i:=m) jO;have A:=aT (Z8.new w4 137 #[.int .u16 z]);have C:=aT (QM.out.alloc (.cells #[.int .u16 z] 137));have J:=aT (xK.out.bl ((aG w4.heap.size w4).alloc (aP _) (.cells #[.int .u16 z] 137)));have hnA:w4.heap.size≠At:=λe=>by have:=xK.out.bk.lt;omega
     have hBA:B1≠At:=tD QM.out xK.out.bk jD;clear QM xK;go_upto_region 16 with fail;clear hz hf;generalize w4.alloc (.cells #[.int .u16 z] 137)=w5 at*;generalize w4.heap.size=nB at*;have z0:=C.out.cell 0;have z1:=C.out.cell 1;have z2:=C.out.cell 2;have z3:=C.out.cell 3;simp only[ak,aL,aF] at z0 z1 z2 z3;have n0:=cell1 A.out;have ir:∀(fn:Fn) (first cap:Array Value) (w:World),(Instr.makeFunc fn first cap).run prog w=.ok (.func fn first cap) w:=λ_ _ _ _=>rfl
     obtain⟨hj,D,U⟩:=HX.out;try dsimp only at hj
     try dsimp only at D
     try dsimp only at U
     clear HX;rcases hc with rfl|rfl|rfl|rfl|rfl|rfl|rfl|rfl
     ·have uj:=U jD;have Z:=aT (X3 (t:=m+1) w5 J.out A.out jO);rw[avd,azb] at Z;clear hj D U A J C;go_wp2_with fail;refine Z.out.mono ?_;rintro e w6 ⟨rfl,cs6,h6,_,_⟩;have HS6:=aT h6;clear h6 Z n0 z0 z1 z2 z3;go_wp2_with fail;go_roundg (k-m);case measure=>omega
      case rel=>exact⟨m+1,_,jO,jO,by go_num,HS6⟩
     ·have uj:=U jD;have Z:=aT (X3 (t:=m+1) w5 J.out A.out jO);rw[avd,azb] at Z;clear hj D U A J C;go_wp2_with fail;refine Z.out.mono ?_;rintro e w6 ⟨rfl,cs6,h6,_,_⟩;have HS6:=aT h6;clear h6 Z n0 z0 z1 z2 z3;go_wp2_with fail;go_roundg (k-m);case measure=>omega
      case rel=>exact⟨m+1,_,jO,jO,by go_num,HS6⟩
     ·have uj:=hj rfl;have w1:IntKind.i64.wrap (xk:Int)=(xk:Int):=aJ _ jO;have w2:IntKind.i64.wrap ((m:Int)+1+(xk:Int))=((m+1+xk:Nat):Int):=by rw[aJ _ jO];omega
      have Z:=aT (X3 (t:=m+1+xk) w5 J.out A.out jO);obtain⟨T,hT⟩:=jX (m+1+xk);rw[hT] at Z w2;clear hj D U A J C hT;go_wp2_with fail;refine Z.out.mono ?_;rintro e w6 ⟨rfl,cs6,h6,_,_⟩;have HS6:=aT h6;clear h6 Z n0 z0 z1 z2 z3;go_wp2_with fail;go_roundg (k-m);case measure=>omega
      case rel=>exact⟨m+1,_,jO,jO,by go_num,HS6⟩
     ·clear hj D U A C;go_wp2_with fail;go_roundg (k-m);case measure=>omega
      case rel=>exact⟨m+1,_,jO,jO,by go_num,J⟩
     ·obtain⟨b1,b2⟩:=D rfl;have w1:IntKind.i64.wrap (Y:Int)=(Y:Int):=aJ _ jO;have w1b:IntKind.i64.wrap (xf:Int)=(xf:Int):=aJ _ jO;have w2:IntKind.i64.wrap ((m:Int)+1+(Y:Int))=((m+1+Y:Nat):Int):=by rw[aJ _ jO];omega
      have w3:IntKind.i64.wrap ((m:Int)+1+(xf:Int))=((m+1+xf:Nat):Int):=by rw[aJ _ jO];omega
      have Z:=aT (X3 (t:=m+1+Y) w5 J.out A.out jO);obtain⟨T,hT⟩:=jX (m+1+Y);obtain⟨F,hF⟩:=jX (m+1+xf);have hF4:F<4096:=jO;rw[hT] at Z w2;rw[hF] at w3;clear hj D U J hT hF;go_wp2_with fail;refine Z.out.mono ?_;rintro e w6 ⟨rfl,cs6,h6,I,_⟩;have GJ:=aT (I _ _ _ hBA C.out);have Eu:=aT (X3 (t:=F) w6 h6 (I _ _ _ hnA A.out) hF4);clear h6 I Z n0 z0 z1 z2 z3 C A;have z2:=GJ.out.cell 2;simp only[ak,aL,aF] at z2;go_wp2_with fail;refine Eu.out.mono ?_;rintro e w7 ⟨rfl,cs7,h7,_,_⟩;have L5:=aT h7;clear h7 Eu z2;go_wp2_with fail;go_roundg (k-m);case measure=>omega
      case rel=>exact⟨m+1,_,jO,jO,by go_num,L5⟩
     ·obtain⟨b1,b2⟩:=D rfl;have w1:IntKind.i64.wrap (Y:Int)=(Y:Int):=aJ _ jO;have w1b:IntKind.i64.wrap (xf:Int)=(xf:Int):=aJ _ jO;have w2:IntKind.i64.wrap ((m:Int)+1+(Y:Int))=((m+1+Y:Nat):Int):=by rw[aJ _ jO];omega
      have w3:IntKind.i64.wrap ((m:Int)+1+(xf:Int))=((m+1+xf:Nat):Int):=by rw[aJ _ jO];omega
      have Z:=aT (X3 (t:=m+1+Y) w5 J.out A.out jO);obtain⟨T,hT⟩:=jX (m+1+Y);obtain⟨F,hF⟩:=jX (m+1+xf);have hF4:F<4096:=jO;rw[hT] at Z w2;rw[hF] at w3;clear hj D U J hT hF;go_wp2_with fail;refine Z.out.mono ?_;rintro e w6 ⟨rfl,cs6,h6,I,_⟩;have GJ:=aT (I _ _ _ hBA C.out);have Eu:=aT (X3 (t:=F) w6 h6 (I _ _ _ hnA A.out) hF4);clear h6 I Z n0 z0 z1 z2 z3 C A;have z2:=GJ.out.cell 2;simp only[ak,aL,aF] at z2;go_wp2_with fail;refine Eu.out.mono ?_;rintro e w7 ⟨rfl,cs7,h7,_,_⟩;have L5:=aT h7;clear h7 Eu z2;go_wp2_with fail;go_roundg (k-m);case measure=>omega
      case rel=>exact⟨m+1,_,jO,jO,by go_num,L5⟩
     ·obtain⟨b1,b2⟩:=D rfl;have w1:IntKind.i64.wrap (Y:Int)=(Y:Int):=aJ _ jO;have w1b:IntKind.i64.wrap (xf:Int)=(xf:Int):=aJ _ jO;have w2:IntKind.i64.wrap ((m:Int)+1+(Y:Int))=((m+1+Y:Nat):Int):=by rw[aJ _ jO];omega
      have w3:IntKind.i64.wrap ((m:Int)+1+(xf:Int))=((m+1+xf:Nat):Int):=by rw[aJ _ jO];omega
      have Z:=aT (X3 (t:=m+1+Y) w5 J.out A.out jO);obtain⟨T,hT⟩:=jX (m+1+Y);obtain⟨F,hF⟩:=jX (m+1+xf);have hF4:F<4096:=jO;rw[hT] at Z w2;rw[hF] at w3;clear hj D U J hT hF;go_wp2_with fail;refine Z.out.mono ?_;rintro e w6 ⟨rfl,cs6,h6,I,_⟩;have GJ:=aT (I _ _ _ hBA C.out);have Eu:=aT (X3 (t:=F) w6 h6 (I _ _ _ hnA A.out) hF4);clear h6 I Z n0 z0 z1 z2 z3 C A;have z2:=GJ.out.cell 2;simp only[ak,aL,aF] at z2;go_wp2_with fail;refine Eu.out.mono ?_;rintro e w7 ⟨rfl,cs7,h7,_,_⟩;have L5:=aT h7;clear h7 Eu z2;go_wp2_with fail;go_roundg (k-m);case measure=>omega
      case rel=>exact⟨m+1,_,jO,jO,by go_num,L5⟩
     ·obtain⟨b1,b2⟩:=D rfl;have w1:IntKind.i64.wrap (Y:Int)=(Y:Int):=aJ _ jO;have w1b:IntKind.i64.wrap (xf:Int)=(xf:Int):=aJ _ jO;have w2:IntKind.i64.wrap ((m:Int)+1+(Y:Int))=((m+1+Y:Nat):Int):=by rw[aJ _ jO];omega
      have w3:IntKind.i64.wrap ((m:Int)+1+(xf:Int))=((m+1+xf:Nat):Int):=by rw[aJ _ jO];omega
      have Z:=aT (X3 (t:=m+1+Y) w5 J.out A.out jO);obtain⟨T,hT⟩:=jX (m+1+Y);obtain⟨F,hF⟩:=jX (m+1+xf);have hF4:F<4096:=jO;rw[hT] at Z w2;rw[hF] at w3;clear hj D U J hT hF;go_wp2_with fail;refine Z.out.mono ?_;rintro e w6 ⟨rfl,cs6,h6,I,_⟩;have GJ:=aT (I _ _ _ hBA C.out);have Eu:=aT (X3 (t:=F) w6 h6 (I _ _ _ hnA A.out) hF4);clear h6 I Z n0 z0 z1 z2 z3 C A;have z2:=GJ.out.cell 2;simp only[ak,aL,aF] at z2;go_wp2_with fail;refine Eu.out.mono ?_;rintro e w7 ⟨rfl,cs7,h7,_,_⟩;have L5:=aT h7;clear h7 Eu z2;go_wp2_with fail;go_roundg (k-m);case measure=>omega
      case rel=>exact⟨m+1,_,jO,jO,by go_num,L5⟩
    ·obtain rfl:m=k:=by omega
     have Ja:¬(m:Int)<(m:Int):=jO;have dR:prog.arrayLen TAt=4096:=jK;have Jz:(m:Int)<=4096:=jO;obtain⟨vs,hvl,hvs⟩:=pX.list HS.out.u _ hmx;obtain⟨i0,hi,hz0,hz1,hz2⟩:=ZQ jH;have NL:w.heap.size<=wr.heap.size:=HS.out.Zs.size;have I9:∀(j:Nat) (u:Value),(vs.map (Value.int .u16))[j]? =some u->wr.cell? ((⟨At,0,none⟩:Addr).add j)=some u:=λj u hu=>by
      have e:((⟨At,0,none⟩:Addr).add j)=⟨At,j,none⟩:=by simp[Addr.add];exact λh=>h.symm
      rw[e];exact(HS.out.bk.cell j).trans (hvs j u hu)
     have hll:(vs.map (Value.int .u16)).length=m*1:=by simp[hvl]
     go_wp2_with (at_builtin;refine aea _ rfl _ _ 228 rfl w.heap.size 137 i0 (.int .u16 0) 1 2 underlying228 hi hz0 hz1 hz2 rfl jD _ 0 [] rfl (Yg _ _ _ _) ⟨At,0,none⟩ m 4096 (vs.map (Value.int .u16)) rfl ?c1 ?c2 ?c3 ?c4 ?c5 ?c6 ?_;(case c1=>exact hll);(case c2=>exact I9);(case c3=>intro u hu;obtain⟨z,_,rfl⟩:=ah.1 hu;rfl);(case c4=>unfold maxLen;omega);(case c5=>omega);(case c6=>exact NL);intro v' w6 hown' hgrow _;rw[adf,ahe] at hown')
     go_ret;exact⟨_,rfl,vs,hown',hvl,HS.out.Zs.grown hgrow NL (λk e=>by have e':(none:Option Nat)=some k:=e;cases e')⟩
end Go.Proofs.YtclgigmgbebhgaaGreatDoor
