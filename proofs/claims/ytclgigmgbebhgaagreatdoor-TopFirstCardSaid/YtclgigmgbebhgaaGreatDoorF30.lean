/- TopFirst: part 30: TopChk3. -/
import Derived.Test.YtclgigmgbebhgaaGreatDoorF26
set_option linter.unusedVariables false
set_option linter.unusedSimpArgs false
set_option maxRecDepth 100000
set_option maxHeartbeats 16000000
namespace Go.Proofs.YtclgigmgbebhgaaGreatDoor
open Tryz
open Go Go.Proofs Go.RowKit
abbrev TAt:Nat:=306
def pd(cs:Array Value):Prop:=cs.size=4096/\∀j,j<4096->∃z:Int,cs[j]? =some (.int .u16 z)
theorem pd.set{cs:Array Value}(h:pd cs)(i:Nat)(z:Int):pd (cs.setIfInBounds i (.int .u16 z)):=by
 refine⟨by simpa using h.1,λj C=> ?_⟩;rw[Array.getElem?_setIfInBounds];by_cases e:i=j;·subst e;rw[aF rfl,aF (by rw[h.1];exact C)];exact⟨z,rfl⟩
 ·rw[aN e];exact h.2 j C
theorem pd.list{cs:Array Value}(h:pd cs):∀n:Nat,n<=4096->∃vs:List Int,vs.length=n/\∀(j:Nat) (u:Value),(vs.map (Value.int .u16))[j]? =some u->cs[j]? =some u
 |0,_=>⟨[],rfl,λj u hu=>by simp at hu⟩
 |n+1,hn=>by
  obtain⟨vs,hl,hv⟩:=pd.list h n jO;obtain⟨z,hz⟩:=h.2 n jO;refine⟨vs++[z],by simp[hl],λj u hu=> ?_⟩;rw[ada,List.getElem?_append] at hu;split at hu;·exact hv j u hu
  ·rename_i C;rw[aab,hl] at C hu
   obtain rfl:j=n:=by
    rcases Nat.lt_or_ge (j-n) 1 with D|D;·omega
    ·simp[ahg (l:=[Value.int .u16 z]) (by simpa using D)] at hu
   rw[alc] at hu;rw[hz];simpa using hu
theorem jx:(prog.info? 137).map (λi=>(i.zero,i.size,i.bytes))=some (some (.int .u16 0),1,2):=jK
structure Qu(LO At:Nat)(w W:World)(cs:Array Value):Prop where
 Zr:Below LO w W
 bk:Z7 W At TAt cs
 u:pd cs
 lo:LO<=w.heap.size/\LO<=At
section
variable {LO At:Nat} {w W W':World} {cs:Array Value}
theorem Qu.bl(h:Qu LO At w W cs)(hb:Below W.heap.size W W'):Qu LO At w W' cs:=⟨h.Zr.trans (hb.mono (aO h.lo.1 h.Zr.size)),h.bk.below hb h.bk.lt,h.u,h.lo⟩
theorem Qu.set(h:Qu LO At w W cs)(i:Nat)(z:Int):Qu LO At w (W.setCell ⟨At,i,none⟩ (.int .u16 z)) (cs.setIfInBounds i (.int .u16 z)):=⟨h.Zr.setCell (p:=⟨At,_,none⟩) h.lo.2 _,h.bk.set i _,h.u.set i z,h.lo⟩
theorem Qu.at(h:Qu LO At w W cs){i:Nat}(hi:i<4096):(∃z:Int,W.cell? ⟨At,i,none⟩=some (.int .u16 z))/\W.frozen? ⟨At,i,none⟩=false:=by
 obtain⟨z,hz⟩:=h.u.2 i hi;exact⟨⟨z,(h.bk.cell i).trans hz⟩,h.bk.frozen i⟩
theorem Qu.drew(h:Qu LO At w W cs):Qu LO At w W.drew cs:=⟨h.Zr.drew,h.bk,h.u,h.lo⟩
end
theorem XZ{LO At nB t:Nat}{w:World}{z:Int}{cs:Array Value}(W:World)(h:Qu LO At w W cs)(hn:Z7 W nB 137 #[.int .u16 z])(ht:t<4096):
 Calls prog 184 #[.int .i64 t,.pointer (some ⟨At,0,none⟩),.pointer (some ⟨nB,0,none⟩)] W λe W'=>e=.returned (.tuple #[])/\∃cs',Qu LO At w W' cs'/\(∀B C D,B≠At->Z7 W B C D->Z7 W' B C D)/\W.heap.size=W'.heap.size:=by
 obtain⟨⟨a,ha⟩,hf⟩:=h.at ht;have hb:=cell1 hn;have U:=jZ t;have t1:(t:Int)<4096:=jO;have T:=aT (h.set t (bits .and .u16 a z));have J:Hid (∀B C D,B≠At->Z7 W B C D->Z7 (W.setCell ⟨At,t,none⟩ (.int .u16 (bits .and .u16 a z))) B C D):=λB C D I hk=>hk.other I _ _
 clear h hn;go_enter func184,ntmps184;go_region;go_wp2_with fail;go_end0;exact⟨rfl,_,T.out.drew,J.out,jS⟩
theorem zeroAt:Tryz.zeroCells306=Array.replicate 4096 (.int .u16 0):=jK
theorem pd.zero:pd Tryz.zeroCells306:=by
 rw[zeroAt];exact⟨aue,λj C=>⟨0,by rw[Array.getElem?_replicate,aF C]⟩⟩
theorem Ap{N c n:Nat}{ad:Option Addr}{out:List ZN}(h:XP out n)(w:World)(hm:I4 N w ad out)(hN:N<=w.heap.size):
 Calls prog 114 #[.slice ad n c] w λe w'=>∃(v:Value) (vs:List Int),e=.returned v/\w'.ownsRow w.heap.size 137 1 v n (vs.map (Value.int .u16))/\vs.length=n/\Below w.heap.size w w':=by
 have H:=aT h;have HM:=aT hm;have HFo:=aT (Pk h (c:=c) w hm hN);have hp:=h.pos;have hmx:=h.max;have nz:((n:Int) == 0)=false:=by rw[af];omega
 have HU:=aT pd.zero;clear h hm;go_enter func114,ntmps114;go_wp2_with fail;refine HFo.out.mono ?_;rintro e w1 ⟨rfl,hb⟩;have HS:Hid (Qu w.heap.size w1.heap.size w (w1.alloc (.cells Tryz.zeroCells306 TAt)) Tryz.zeroCells306):=⟨hb.alloc hb.size _,Z7.new w1 _ _,HU.out,aR _,hb.size⟩;clear hb HFo;go_upto_region 6 with fail;generalize w1.alloc (.cells Tryz.zeroCells306 TAt)=w2 at*;generalize Tryz.zeroCells306=zs at*;generalize w1.heap.size=At at*;go_loopg [23] (n+1) (λgg iv wr=>∃(k:Nat) (cs:Array Value),k<=n/\n-k<gg/\iv=.int .i64 (k:Int)/\Hid (Qu w.heap.size At w wr cs));case atStart=>exact⟨0,zs,abd _,jO,rfl,HS⟩
 case round=>
  obtain⟨k,cs,hk,Vs,rfl,HS⟩:=hrel;have k0:=jZ k;by_cases hlt:k<n
  ·have Zd:(k:Int)<(n:Int):=by omega
   have am9:(k:Int)<4096:=jO;have iw:=jW k;obtain⟨⟨z,hz⟩,hf⟩:=HS.out.at (i:=k) jO;have Qw:=aT (HS.out.set k 65535);clear HS;go_wp2_with fail;go_roundg (n-k);case measure=>omega
   case rel=>exact⟨k+1,_,jO,jO,by go_num,Qw⟩
  ·obtain rfl:k=n:=by omega
   have Zd:¬(k:Int)<(k:Int):=jO;obtain⟨⟨z,hz⟩,hf⟩:=HS.out.at (i:=0) jO;have Qw:=aT (HS.out.set 0 0);clear HS;go_upto_region 12 with fail;clear hz hf;generalize wr.setCell ⟨At,0,none⟩ (.int .u16 0)=w3 at*;go_loopg [32] (k+1) (λgg iv wr=>∃(m:Nat) (cs:Array Value),m<=k/\k-m<gg/\iv=.int .i64 (m:Int)/\Hid (Qu w.heap.size At w wr cs));case atStart=>exact⟨0,_,abd _,jO,rfl,Qw⟩
   case round=>
    obtain⟨m,cs,zk,mj,rfl,HS⟩:=hrel;have m0:=jZ m;by_cases Ro:m<k
    ·have Ir:(m:Int)<(k:Int):=by omega
     have am9:(m:Int)<4096:=jO;have iw:=jW m;obtain⟨x,hx⟩:∃x,out[m]? =some x:=⟨_,aL (by rw[H.out.len];exact Ro)⟩;obtain⟨g,off,rfl,UW,c0,c1,c2,c3⟩:=HM.out m x hx;have y0:=ZY HS.out.Zr hN UW c0;have y1:=ZY HS.out.Zr hN UW c1;have y2:=ZY HS.out.Zr hN UW c2;have y3:=ZY HS.out.Zr hN UW c3;have hc:=H.out.code hx;obtain⟨_,_,hj,D⟩:=H.out.ok m x hx;have Y:x.code≠0x06->m+1<k:=λh6=>by
      by_cases e:m=k-1;·exact absurd (H.out.last x (by rw[<-e];exact hx)) h6
      ·omega
     have HX:=aT (And.intro hj (And.intro D Y));have uX:=H.out.fit x (ag hx);obtain⟨xc,Z,xf,xk⟩:=x;obtain⟨_,ft,ff,fk⟩:=uX;dsimp only at y0 y1 y2 y3 hc ft ff fk;have HA:=aT (Z7.new wr XD #[.int .u16 xc,.int .u8 Z,.int .u8 xf,.int .u32 xk]);have fP:=aT (HS.out.bl ((aG wr.heap.size wr).alloc (aR _) (.cells #[.int .u16 xc,.int .u8 Z,.int .u8 xf,.int .u32 xk] XD)));have Hw:=aT (V1 hc (wr.alloc (.cells #[.int .u16 xc,.int .u8 Z,.int .u8 xf,.int .u32 xk] XD)));clear c0 c1 c2 c3 hx HS hj D Y;go_upto_region 14 with fail;generalize wr.alloc (.cells #[.int .u16 xc,.int .u8 Z,.int .u8 xf,.int .u32 xk] XD)=wa at*;generalize wr.heap.size=B1 at*;clear y0 y1 y2 y3;have z0:=HA.out.cell 0;simp only[au,aM] at z0;go_wp2_with fail;refine Hw.out.mono ?_;rintro e w4 ⟨rfl,hb⟩;have Uj:=aT (HA.out.below hb HA.out.lt);have xn:=aT (fP.out.bl hb);clear z0 Hw hb HA fP;obtain⟨⟨z,hz⟩,hf⟩:=xn.out.at (i:=m) jO;have C:=aT (Z7.new w4 137 #[.int .u16 z]);have I:=aT (Uj.out.alloc (.cells #[.int .u16 z] 137));have J:=aT (xn.out.bl ((aG w4.heap.size w4).alloc (aR _) (.cells #[.int .u16 z] 137)));have hnA:w4.heap.size≠At:=λe=>by have:=xn.out.bk.lt;omega
     have hBA:B1≠At:=sH Uj.out xn.out.bk jD;clear Uj xn;go_upto_region 16 with fail;clear hz hf;generalize w4.alloc (.cells #[.int .u16 z] 137)=w5 at*;generalize w4.heap.size=nB at*;have z0:=I.out.cell 0;have z1:=I.out.cell 1;have z2:=I.out.cell 2;have z3:=I.out.cell 3;simp only[au,aM,aH] at z0 z1 z2 z3;have n0:=cell1 C.out;have gZ:∀(fn:Fn) (first cap:Array Value) (w:World),(Instr.makeFunc fn first cap).run prog w=.ok (.func fn first cap) w:=λ_ _ _ _=>rfl
     obtain⟨hj,D,Y⟩:=HX.out;try dsimp only at hj
     try dsimp only at D
     try dsimp only at Y
     clear HX;rcases hc with rfl|rfl|rfl|rfl|rfl|rfl|rfl|rfl
     ·have tJ:=Y jD;have HG:=aT (XZ (t:=m+1) w5 J.out C.out jO);rw[ave,aza] at HG;clear hj D Y C J I;go_wp2_with fail;refine HG.out.mono ?_;rintro e w6 ⟨rfl,cs6,h6,_,_⟩;have HS6:=aT h6;clear h6 HG n0 z0 z1 z2 z3;go_wp2_with fail;go_roundg (k-m);case measure=>omega
      case rel=>exact⟨m+1,_,jO,jO,by go_num,HS6⟩
     ·have tJ:=Y jD;have HG:=aT (XZ (t:=m+1) w5 J.out C.out jO);rw[ave,aza] at HG;clear hj D Y C J I;go_wp2_with fail;refine HG.out.mono ?_;rintro e w6 ⟨rfl,cs6,h6,_,_⟩;have HS6:=aT h6;clear h6 HG n0 z0 z1 z2 z3;go_wp2_with fail;go_roundg (k-m);case measure=>omega
      case rel=>exact⟨m+1,_,jO,jO,by go_num,HS6⟩
     ·have tJ:=hj rfl;have w1:IntKind.i64.wrap (xk:Int)=(xk:Int):=aJ _ jO;have w2:IntKind.i64.wrap ((m:Int)+1+(xk:Int))=((m+1+xk:Nat):Int):=by rw[aJ _ jO];omega
      have HG:=aT (XZ (t:=m+1+xk) w5 J.out C.out jO);obtain⟨T,hT⟩:=jX (m+1+xk);rw[hT] at HG w2;clear hj D Y C J I hT;go_wp2_with fail;refine HG.out.mono ?_;rintro e w6 ⟨rfl,cs6,h6,_,_⟩;have HS6:=aT h6;clear h6 HG n0 z0 z1 z2 z3;go_wp2_with fail;go_roundg (k-m);case measure=>omega
      case rel=>exact⟨m+1,_,jO,jO,by go_num,HS6⟩
     ·clear hj D Y C I;go_wp2_with fail;go_roundg (k-m);case measure=>omega
      case rel=>exact⟨m+1,_,jO,jO,by go_num,J⟩
     ·obtain⟨b1,b2⟩:=D rfl;have w1:IntKind.i64.wrap (Z:Int)=(Z:Int):=aJ _ jO;have w1b:IntKind.i64.wrap (xf:Int)=(xf:Int):=aJ _ jO;have w2:IntKind.i64.wrap ((m:Int)+1+(Z:Int))=((m+1+Z:Nat):Int):=by rw[aJ _ jO];omega
      have w3:IntKind.i64.wrap ((m:Int)+1+(xf:Int))=((m+1+xf:Nat):Int):=by rw[aJ _ jO];omega
      have HG:=aT (XZ (t:=m+1+Z) w5 J.out C.out jO);obtain⟨T,hT⟩:=jX (m+1+Z);obtain⟨F,hF⟩:=jX (m+1+xf);have hF4:F<4096:=jO;rw[hT] at HG w2;rw[hF] at w3;clear hj D Y J hT hF;go_wp2_with fail;refine HG.out.mono ?_;rintro e w6 ⟨rfl,cs6,h6,U,_⟩;have Gc:=aT (U _ _ _ hBA I.out);have DZ:=aT (XZ (t:=F) w6 h6 (U _ _ _ hnA C.out) hF4);clear h6 U HG n0 z0 z1 z2 z3 I C;have z2:=Gc.out.cell 2;simp only[au,aM,aH] at z2;go_wp2_with fail;refine DZ.out.mono ?_;rintro e w7 ⟨rfl,cs7,h7,_,_⟩;have LA:=aT h7;clear h7 DZ z2;go_wp2_with fail;go_roundg (k-m);case measure=>omega
      case rel=>exact⟨m+1,_,jO,jO,by go_num,LA⟩
     ·obtain⟨b1,b2⟩:=D rfl;have w1:IntKind.i64.wrap (Z:Int)=(Z:Int):=aJ _ jO;have w1b:IntKind.i64.wrap (xf:Int)=(xf:Int):=aJ _ jO;have w2:IntKind.i64.wrap ((m:Int)+1+(Z:Int))=((m+1+Z:Nat):Int):=by rw[aJ _ jO];omega
      have w3:IntKind.i64.wrap ((m:Int)+1+(xf:Int))=((m+1+xf:Nat):Int):=by rw[aJ _ jO];omega
      have HG:=aT (XZ (t:=m+1+Z) w5 J.out C.out jO);obtain⟨T,hT⟩:=jX (m+1+Z);obtain⟨F,hF⟩:=jX (m+1+xf);have hF4:F<4096:=jO;rw[hT] at HG w2;rw[hF] at w3;clear hj D Y J hT hF;go_wp2_with fail;refine HG.out.mono ?_;rintro e w6 ⟨rfl,cs6,h6,U,_⟩;have Gc:=aT (U _ _ _ hBA I.out);have DZ:=aT (XZ (t:=F) w6 h6 (U _ _ _ hnA C.out) hF4);clear h6 U HG n0 z0 z1 z2 z3 I C;have z2:=Gc.out.cell 2;simp only[au,aM,aH] at z2;go_wp2_with fail;refine DZ.out.mono ?_;rintro e w7 ⟨rfl,cs7,h7,_,_⟩;have LA:=aT h7;clear h7 DZ z2;go_wp2_with fail;go_roundg (k-m);case measure=>omega
      case rel=>exact⟨m+1,_,jO,jO,by go_num,LA⟩
     ·obtain⟨b1,b2⟩:=D rfl;have w1:IntKind.i64.wrap (Z:Int)=(Z:Int):=aJ _ jO;have w1b:IntKind.i64.wrap (xf:Int)=(xf:Int):=aJ _ jO;have w2:IntKind.i64.wrap ((m:Int)+1+(Z:Int))=((m+1+Z:Nat):Int):=by rw[aJ _ jO];omega
      have w3:IntKind.i64.wrap ((m:Int)+1+(xf:Int))=((m+1+xf:Nat):Int):=by rw[aJ _ jO];omega
      have HG:=aT (XZ (t:=m+1+Z) w5 J.out C.out jO);obtain⟨T,hT⟩:=jX (m+1+Z);obtain⟨F,hF⟩:=jX (m+1+xf);have hF4:F<4096:=jO;rw[hT] at HG w2;rw[hF] at w3;clear hj D Y J hT hF;go_wp2_with fail;refine HG.out.mono ?_;rintro e w6 ⟨rfl,cs6,h6,U,_⟩;have Gc:=aT (U _ _ _ hBA I.out);have DZ:=aT (XZ (t:=F) w6 h6 (U _ _ _ hnA C.out) hF4);clear h6 U HG n0 z0 z1 z2 z3 I C;have z2:=Gc.out.cell 2;simp only[au,aM,aH] at z2;go_wp2_with fail;refine DZ.out.mono ?_;rintro e w7 ⟨rfl,cs7,h7,_,_⟩;have LA:=aT h7;clear h7 DZ z2;go_wp2_with fail;go_roundg (k-m);case measure=>omega
      case rel=>exact⟨m+1,_,jO,jO,by go_num,LA⟩
     ·obtain⟨b1,b2⟩:=D rfl;have w1:IntKind.i64.wrap (Z:Int)=(Z:Int):=aJ _ jO;have w1b:IntKind.i64.wrap (xf:Int)=(xf:Int):=aJ _ jO;have w2:IntKind.i64.wrap ((m:Int)+1+(Z:Int))=((m+1+Z:Nat):Int):=by rw[aJ _ jO];omega
      have w3:IntKind.i64.wrap ((m:Int)+1+(xf:Int))=((m+1+xf:Nat):Int):=by rw[aJ _ jO];omega
      have HG:=aT (XZ (t:=m+1+Z) w5 J.out C.out jO);obtain⟨T,hT⟩:=jX (m+1+Z);obtain⟨F,hF⟩:=jX (m+1+xf);have hF4:F<4096:=jO;rw[hT] at HG w2;rw[hF] at w3;clear hj D Y J hT hF;go_wp2_with fail;refine HG.out.mono ?_;rintro e w6 ⟨rfl,cs6,h6,U,_⟩;have Gc:=aT (U _ _ _ hBA I.out);have DZ:=aT (XZ (t:=F) w6 h6 (U _ _ _ hnA C.out) hF4);clear h6 U HG n0 z0 z1 z2 z3 I C;have z2:=Gc.out.cell 2;simp only[au,aM,aH] at z2;go_wp2_with fail;refine DZ.out.mono ?_;rintro e w7 ⟨rfl,cs7,h7,_,_⟩;have LA:=aT h7;clear h7 DZ z2;go_wp2_with fail;go_roundg (k-m);case measure=>omega
      case rel=>exact⟨m+1,_,jO,jO,by go_num,LA⟩
    ·obtain rfl:m=k:=by omega
     have Ir:¬(m:Int)<(m:Int):=jO;have dw:prog.arrayLen TAt=4096:=jK;have I2:(m:Int)<=4096:=jO;obtain⟨vs,hvl,hvs⟩:=pd.list HS.out.u _ hmx;obtain⟨i0,hi,hz0,hz1,hz2⟩:=ZP jx;have Jg:w.heap.size<=wr.heap.size:=HS.out.Zr.size;have Ny:∀(j:Nat) (u:Value),(vs.map (Value.int .u16))[j]? =some u->wr.cell? ((⟨At,0,none⟩:Addr).add j)=some u:=λj u hu=>by
      have e:((⟨At,0,none⟩:Addr).add j)=⟨At,j,none⟩:=by simp[Addr.add];exact λh=>h.symm
      rw[e];exact(HS.out.bk.cell j).trans (hvs j u hu)
     have hll:(vs.map (Value.int .u16)).length=m*1:=by simp[hvl]
     go_wp2_with (at_builtin;refine aea _ rfl _ _ 228 rfl w.heap.size 137 i0 (.int .u16 0) 1 2 underlying228 hi hz0 hz1 hz2 rfl jD _ 0 [] rfl (Ya _ _ _ _) ⟨At,0,none⟩ m 4096 (vs.map (Value.int .u16)) rfl ?c1 ?c2 ?c3 ?c4 ?c5 ?c6 ?_;(case c1=>exact hll);(case c2=>exact Ny);(case c3=>intro u hu;obtain⟨z,_,rfl⟩:=ah.1 hu;rfl);(case c4=>unfold maxLen;omega);(case c5=>omega);(case c6=>exact Jg);intro v' w6 hown' hgrow _;rw[ade,ahe] at hown')
     go_ret;exact⟨_,rfl,vs,hown',hvl,HS.out.Zr.grown hgrow Jg (λk e=>by have e':(none:Option Nat)=some k:=e;cases e')⟩
end Go.Proofs.YtclgigmgbebhgaaGreatDoor
