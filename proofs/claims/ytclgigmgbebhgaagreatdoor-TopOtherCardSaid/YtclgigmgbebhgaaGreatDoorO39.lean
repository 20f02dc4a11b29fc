/- TopOther: part 39: CondText TopVal1 TopVal2 SysSeen. -/
import Derived.ArgAppend
import Derived.Test.YtclgigmgbebhgaaGreatDoorO38
set_option linter.unusedVariables false
set_option linter.unusedSimpArgs false
set_option maxRecDepth 100000
set_option maxHeartbeats 16000000
namespace Go.Proofs.YtclgigmgbebhgaaGreatDoor.Zh
open Tryz
open Go Go.Proofs Go.RowKit Go.Shelf
variable {xs:List Value} {w:World}
theorem CJ:Builder.Extra prog Tryz.LY where
 sizeBuilder:=jK
 liesBuilder:=jK
 t5:=underlying5
 a5:=isAgg5
 z5:=sizeOf5
 v5:=zeroValue5
 infoByte:=jK
 cellsByte:=jK
 sizeByte:=jK
 neB5:=jD
theorem MV(bk c:Nat)(xs:List ByteArray)(C:ByteArray)(w:World)(A:∀(j:Nat) x,xs[j]? =some x->w.cell? ⟨bk,0+j,none⟩=some (.string x))(I:bk<w.heap.size)(hN:xs.length<=140737488355328)(D:xs.length<=c)
 (hlen:(Lib.join (xs.map (·.data.toList)) C.data.toList).length<=140737488355328):
 Calls prog 133 #[.slice (some ⟨bk,0,none⟩) xs.length c,.string C] w λe w'=>e=.returned (.string ⟨(Lib.join (xs.map (·.data.toList)) C.data.toList).toArray⟩)/\Below w.heap.size w w':=
 Any.strings_Join Tryz.x6 CJ bk 0 c xs C w A I hN D hlen
theorem FH:(prog.info? 9).map (λi=>(i.zero,i.size,i.bytes))=some (some (.string ⟨#[]⟩),1,16):=jK
theorem MU{W W':World}{B e size n:Nat}{v:Value} (h:W.ownsRow B e size v n xs)(hb:Below W.heap.size W W'):W'.ownsRow B e size v n xs:=by
 refine⟨h.1,?_⟩;rcases h.2 with D|⟨g,cap,A,hv,I,C,rest⟩;·exact .inl D
 ·exact .inr ⟨g,cap,A,hv,I,(hb.block g (aaa.1 C).1).trans C,rest⟩
theorem iq {B n:Nat}{t:TypeId}(xs:List Value)(hn:xs.length=n)(A:B<=w.heap.size)(C:0<n)(hlen:n<=1000):(w.alloc (.cells xs.toArray t)).ownsRow B t 1 (.slice (some ⟨w.heap.size,0,none⟩) n n) n xs:=by
 subst hn;exact⟨jS,.inr ⟨w.heap.size,xs.length,xs.toArray,rfl,A,ard w _,aR _,by unfold maxLen;omega,jS,jS⟩⟩
theorem MT(w:World)(xs:List Value)(t:TypeId):∀j u,xs[j]? =some u->(w.alloc (.cells xs.toArray t)).cell? ((⟨w.heap.size,0,none⟩:Addr).add j)=some u:=by
 intro j u hu;have:=(Z7.new w t xs.toArray).cell j;rw[Addr.add_lit,aca,this,ak,hu]
theorem GV {B t n g c:Nat} (h:w.ownsRow B t 1 (.slice (some ⟨g,0,none⟩) n c) n xs):g<w.heap.size/\n<=c:=by
 rcases h.2 with⟨h,_⟩|⟨_,_,_,h,_,A,hc,_⟩
 ·cases h
 ·cases h;exact⟨(aaa.1 A).1,hc⟩
theorem FE(a k m v:Nat)(ha:a<=5)(hk:k<7)(hm:m<18446744073709551616)(hv:v<18446744073709551616)(h0:k=6\/m=0)(w:World)(hp:Xb w):
 Calls prog 131 #[.agg #[.int .i64 a,.int .i64 ((k:Int)+1),.int .u64 m,.int .u64 v]] w λe w'=>e=.returned (.string (Xa a ((k:Int)+1) m v))/\Below w.heap.size w w':=by
 obtain⟨K,hKk⟩:∃K:Int,(k:Int)+1=K:=⟨_,rfl⟩;rw[hKk];have hR:Xr (a:Int) K (m:Int)=true:=adb ⟨jO,jO,jO,jO,jO⟩;have HR:=aT (λW=>XQ (a:Int) K (m:Int) (v:Int) W);rw[hR] at HR;have hA:=Z7.new w 68 #[.int .i64 a,.int .i64 K,.int .u64 m,.int .u64 v];have hb:=(aH w.heap.size w).alloc (aR _) (.cells #[.int .i64 a,.int .i64 K,.int .u64 m,.int .u64 v] 68);have c0:=hA.cell 0;have c1:=hA.cell 1;have c2:=hA.cell 2;have c3:=hA.cell 3;simp only[ak,aL,aF] at c0 c1 c2 c3;have HA:=aT hA;have HB:=aT hb;have HP:=aT hp;have HM:=aT hm;have HV:=aT hv;have HM0:=aT h0;have HK:=aT hKk;clear hA hb hp hm hv h0 hR;go_enter func131,ntmps131;go_wp2_with fail;refine(HR _).mono ?_;rintro e w2 ⟨rfl,hb2⟩;have J:=oZ HA hb2;have XA:=ao3 HB hb2;have Gt:=aT (HP.below XA);clear hb2 HA HB HP HR c0 c1 c2 c3;go_upto_region 3 with fail;have c0:=J.cell 0;have c1:=J.cell 1;simp only[ak,aL,aF] at c0 c1;have wk:IntKind.i64.wrap (K-1)=(k:Int):=by rw[aJ _ jO];omega
 have wk2:IntKind.i64.wrap (k:Int)=(k:Int):=aJ _ jO;have k0:=jZ k;have k7:(k:Int)<7:=jO;have aD5:¬9223372036854775807<1+(YE a).size:=by rw[NQ a ha];decide
 have hIt:=aT (λW=>FI a jO W);refine auc ?_;refine akd (S:=λw'=>(w'.cell? ⟨w.heap.size,0,none⟩=some (.int .i64 a)/\w'.cell? ⟨w.heap.size,1,none⟩=some (.int .i64 K))/\Below w2.heap.size w2 w') jK (by first|exact⟨⟨c0,c1⟩,(aH _ w2).drew⟩|go_keep) (λhHeld=> ?_);refine jT 0 ⟨some 7,.fieldAddr 68 (.tmp 1) 0,0,"cond.go:65",#[],none⟩ ?_;try simp only[Act.put,aS,aP,aQ]
 refine jT 1 ⟨some 8,.load 3 (.tmp 7),3,"cond.go:65",#[⟨0,.data⟩],none⟩ ?_;try simp only[Act.put,aS,aP,aQ]
 refine jT 5 ⟨some 12,.fieldAddr 68 (.tmp 1) 1,0,"cond.go:65",#[],none⟩ ?_;try simp only[Act.put,aS,aP,aQ]
 refine jT 6 ⟨some 13,.load 3 (.tmp 12),3,"cond.go:65",#[⟨5,.data⟩],none⟩ ?_;try simp only[Act.put,aS,aP,aQ]
 refine jT 7 ⟨some 14,.binOp .sub 3 (.tmp 13) (.const (.int .i64 1)) 3,3,"cond.go:65",#[⟨6,.data⟩],none⟩ ?_;try simp only[Act.put,aS,aP,aQ]
 refine aaf (rs:=[2]) jK jS ?_;refine ag (o:=⟨some 9,.call {callee:=.value (.func 210),args:=#[.tmp 8],argTypes:=#[3]},9,"cond.go:65",#[⟨1,.data⟩],none⟩) rfl (λK' hK=> ?_) aab;go_simp;refine(hIt _).mono ?_;rintro e wx ⟨rfl,Y⟩;refine hK _ _ (⟨⟨JT Y hHeld.1.1,JT Y hHeld.1.2⟩,hHeld.2.trans (Y.mono hHeld.2.size)⟩) (λhHeld=> ?_);clear hK K';try simp only[Act.put,aS,aP,aQ]
 refine awe (i:=3) (oi:=⟨some 10,.binOp .add 9 (.const (.string {data:=#[97]})) (.tmp 9) 9,9,"cond.go:65",#[⟨2,.data⟩],none⟩) (v:=(.string (⟨#[97]⟩++YE a))) rfl jK jK jK (λ_ _ _ h=>h) (Or.inl ⟨jR,?hy3⟩) jA ?an4
 case hy3=>
  intro w hSw;try dsimp only at hSw
  try obtain⟨hSw,aK5⟩:=hSw
  try go_split_ands
  go_simp;try with_reducible rfl
 try simp only[Act.put,aS,aP,aQ]
 clear Y;refine aaf (rs:=[4]) jK jS ?_;refine ag (o:=⟨some 11,.call {callee:=.value (.func 33),args:=#[],argTypes:=#[]},105,"cond.go:65",#[⟨2,.chain⟩],none⟩) rfl (λK' hK=> ?_) aab;go_simp;refine(oV _).mono ?_;rintro e wy ⟨g,rfl,hg,Y⟩;have hop:=ac9 hg k hk;rw[HK.out] at hop;refine hK _ _ (⟨⟨JT Y hHeld.1.1,JT Y hHeld.1.2⟩,hHeld.2.trans (Y.mono hHeld.2.size)⟩) (λhHeld=> ?_);clear hK K';try simp only[Act.put,aS,aP,aQ]
 refine Px (S':=λw'=>((w'.cell? ⟨w.heap.size,0,none⟩=some (.int .i64 a)/\w'.cell? ⟨w.heap.size,1,none⟩=some (.int .i64 K))/\Below w2.heap.size w2 w')/\w'.cell? ⟨g,k*2,none⟩=some (.string (X8 K))) (λ_ h=>h.1) _ _ _ _ ?_;have C:(λw':World=>((w'.cell? ⟨w.heap.size,0,none⟩=some (.int .i64 a)/\w'.cell? ⟨w.heap.size,1,none⟩=some (.int .i64 K))/\Below w2.heap.size w2 w')/\w'.cell? ⟨g,k*2,none⟩=some (.string (X8 K))) wy:=⟨hHeld,hop.1⟩;clear hHeld Y hop hg;refine jT 8 ⟨some 15,.indexAddr 105 (.tmp 11) (.tmp 14),0,"cond.go:65",#[⟨4,.data⟩,⟨7,.data⟩],none⟩ ?_;try simp only[Act.put,aS,aP,aQ]
 refine jT 9 ⟨some 16,.fieldAddr 104 (.tmp 15) 0,0,"cond.go:65",#[⟨8,.data⟩],none⟩ ?_;try simp only[Act.put,aS,aP,aQ]
 refine jT 10 ⟨some 17,.load 9 (.tmp 16),9,"cond.go:65",#[⟨9,.data⟩],none⟩ ?_;try simp only[Act.put,aS,aP,aQ]
 refine aaf (rs:=[11]) jK jS ?_;refine ag (o:=⟨some 18,.buildSlice 195 2 #[(0,.tmp 10),(1,.tmp 17)],195,"cond.go:65",#[⟨3,.data⟩,⟨10,.data⟩],none⟩) rfl (λK' hK=> ?_) aab;go_simp;refine hK _ _ ⟨⟨⟨JT ((aH _ wy).alloc (aR _) _) C.1.1.1,JT ((aH _ wy).alloc (aR _) _) C.1.1.2⟩,C.1.2.alloc C.1.2.size _⟩,JT ((aH _ wy).alloc (aR _) _) C.2⟩ (λoC=> ?_);clear hK K';try simp only[Act.put,aS,aP,aQ]
 refine jT 12 ⟨some 3,.assign (.tmp 18),195,"cond.go:65",#[⟨11,.data⟩,⟨4,.chain⟩,⟨0,.phase⟩,⟨1,.phase⟩,⟨2,.phase⟩,⟨3,.phase⟩,⟨4,.phase⟩,⟨5,.phase⟩,⟨6,.phase⟩,⟨7,.phase⟩,⟨8,.phase⟩,⟨9,.phase⟩,⟨10,.phase⟩,⟨11,.phase⟩],none⟩ ?_;try simp only[Act.put,aS,aP,aQ]
 refine ama jK ?_ _;refine apf ?_;have I:=aT oC.1.2;have hO3:((wy.alloc (.cells #[.string (⟨#[97]⟩++YE a),.string (X8 K)] 9)).ownsRow w2.heap.size 9 1 (.slice (some ⟨wy.heap.size,0,none⟩) 2 2) 2 [.string (⟨#[97]⟩++YE a),.string (X8 K)]):=iq (n:=2) [.string (⟨#[97]⟩++YE a),.string (X8 K)] rfl C.1.2.size jD jD;have tS:=aT hO3;clear oC C c0 c1 hIt aD5 wk wk2 hO3;generalize wy.alloc (.cells #[.string (⟨#[97]⟩++YE a),.string (X8 K)] 9)=W3 at*;generalize wy.heap.size=N at*;obtain⟨i0,hi,hz0,hz1,hz2⟩:=info_parts FH;have c1:=(J.below I J.lt).cell 1;simp only[ak,aL,aF] at c1;by_cases h7:K=7
 ·subst h7;have c2:=(J.below I J.lt).cell 2;simp only[ak,aL,aF] at c2;have hd:=aT (Uk m HM W3 (Gt.below I));clear hKk;go_wp2_with fail;refine hd.mono ?_;rintro e w4 ⟨rfl,hb4⟩;have HX5:=aT ((I.trans (hb4.mono I.size)).alloc (I.trans (hb4.mono I.size)).size (.cells #[.string (YE m),.string ⟨#[61,61]⟩] 9));have HO5:=aT ((MU tS hb4).alloc (.cells #[.string (YE m),.string ⟨#[61,61]⟩] 9));clear hb4 hd I tS c1 c2
  go_wp2_with (at_builtin;refine adg _ rfl _ _ 195 rfl w2.heap.size 9 i0 (.string ⟨#[]⟩) 1 16 underlying195 hi hz0 hz1 hz2 rfl jD _ 2 _ rfl HO5 ⟨w4.heap.size,0,none⟩ 2 2 [.string (YE m),.string ⟨#[61,61]⟩] rfl rfl ?ma2 ?ma3 ?ma4 ?ma5 ?ma6 ?_;(case ma2=>exact MT _ _ _);(case ma3=>simp[Value.oneCell']);(case ma4=>unfold maxLen;omega);(case ma5=>omega);(case ma6=>exact HX5.size);intro v' w6 A D _;obtain⟨g6,c6,rfl⟩:=ownsRow_succ A;have NG:=aT (HX5.grown D HX5.size (λk e=>(HO5.lt k e).1));have c3:=(J.below NG J.lt).cell 3;simp only[ak,aL,aF] at c3)
  have dR:Hid (w6.ownsRow w2.heap.size 9 1 (.slice (some ⟨g6,0,none⟩) 4 c6) 4 [.string (⟨#[97]⟩++YE a),.string (X8 7),.string (YE m),.string ⟨#[61,61]⟩]):=A;clear A D HX5 HO5;have hd:=aT (Uk v HV w6 (Gt.below NG));go_wp2_with fail;refine hd.mono ?_;rintro e w7 ⟨rfl,U⟩;have T:=aT ((NG.trans (U.mono NG.size)).alloc (NG.trans (U.mono NG.size)).size (.cells #[.string (YE v)] 9));have Im:=aT ((MU dR U).alloc (.cells #[.string (YE v)] 9));clear U c3 hd NG dR
  go_wp2_with (at_builtin;refine adg _ rfl _ _ 195 rfl w2.heap.size 9 i0 (.string ⟨#[]⟩) 1 16 underlying195 hi hz0 hz1 hz2 rfl jD _ 4 _ rfl Im ⟨w7.heap.size,0,none⟩ 1 1 [.string (YE v)] rfl rfl ?mb2 ?mb3 ?mb4 ?mb5 ?mb6 ?_;(case mb2=>exact MT _ _ _);(case mb3=>simp[Value.oneCell']);(case mb4=>unfold maxLen;omega);(case mb5=>omega);(case mb6=>exact T.size);intro v' w9 A D _;obtain⟨g9,c9,rfl⟩:=ownsRow_succ A)
  have HX9:=aT (T.grown D T.size (λk e=>(Im.lt k e).1));obtain⟨kG,mH⟩:=GV A;have hcw:WN a 7 m v=[⟨#[97]⟩++YE a,X8 7,YE m,⟨#[61,61]⟩,YE v]:=by unfold WN;rw[aG rfl]
  have hjo:=MV g9 c9 [⟨#[97]⟩++YE a,X8 7,YE m,⟨#[61,61]⟩,YE v] ⟨#[32]⟩ w9 (λj x hx=>by
   have hj:=(au.1 hx).1;rw[aca,A.cellAt j (by simp at hj;omega)];show(List.map Value.string [⟨#[97]⟩++YE a,X8 7,YE m,⟨#[61,61]⟩,YE v])[j]? =_;rw[ada,hx];rfl) kG (by show 5<=_;decide) mH (by have:=MZ a 7 m v ha HM HV;unfold Xa at this;rw[hcw] at this;have h2:((Lib.join (List.map (λx:ByteArray=>x.data.toList) [⟨#[97]⟩++YE a,X8 7,YE m,⟨#[61,61]⟩,YE v]) [32]).toArray).size<=60:=this;rw[aib] at h2;exact aO h2 jD)
  have Z:Calls prog 133 #[.slice (some ⟨g9,0,none⟩) 5 c9,.string ⟨#[32]⟩] w9 λe w'=>e=.returned (.string (Xa a 7 m v))/\Below w9.heap.size w9 w':=by unfold Xa;rw[hcw];exact hjo
  have HJ:=aT Z;clear hjo Z hcw A D Im T;go_wp2_with fail;refine HJ.mono ?_;rintro e wf ⟨rfl,hbf⟩;go_wp2;go_ret;exact⟨rfl,XA.trans ((HX9.trans (hbf.mono HX9.size)).mono XA.size)⟩
 ·have hq7:(K == 7)=false:=by simpa using h7
  go_upto_region 6 with fail;clear c1;have c3:=(J.below I J.lt).cell 3;simp only[ak,aL,aF] at c3;have hd:=aT (Uk v HV W3 (Gt.below I));go_wp2_with fail;refine hd.mono ?_;rintro e w7 ⟨rfl,U⟩;have T:=aT ((I.trans (U.mono I.size)).alloc (I.trans (U.mono I.size)).size (.cells #[.string (YE v)] 9));have Im:=aT ((MU tS U).alloc (.cells #[.string (YE v)] 9));clear U c3 hd I tS
  go_wp2_with (at_builtin;refine adg _ rfl _ _ 195 rfl w2.heap.size 9 i0 (.string ⟨#[]⟩) 1 16 underlying195 hi hz0 hz1 hz2 rfl jD _ 2 _ rfl Im ⟨w7.heap.size,0,none⟩ 1 1 [.string (YE v)] rfl rfl ?mc2 ?mc3 ?mc4 ?mc5 ?mc6 ?_;(case mc2=>exact MT _ _ _);(case mc3=>simp[Value.oneCell']);(case mc4=>unfold maxLen;omega);(case mc5=>omega);(case mc6=>exact T.size);intro v' w9 A D _;obtain⟨g9,c9,rfl⟩:=ownsRow_succ A)
  have HX9:=aT (T.grown D T.size (λk e=>(Im.lt k e).1));obtain⟨kG,mH⟩:=GV A;have hcw:WN a K m v=[⟨#[97]⟩++YE a,X8 K,YE v]:=by unfold WN;rw[aN h7]
  have hjo:=MV g9 c9 [⟨#[97]⟩++YE a,X8 K,YE v] ⟨#[32]⟩ w9 (λj x hx=>by
   have hj:=(au.1 hx).1;rw[aca,A.cellAt j (by simp at hj;omega)];show(List.map Value.string [⟨#[97]⟩++YE a,X8 K,YE v])[j]? =_;rw[ada,hx];rfl) kG (by show 3<=_;decide) mH (by have:=MZ a K m v ha HM HV;unfold Xa at this;rw[hcw] at this;have h2:((Lib.join (List.map (λx:ByteArray=>x.data.toList) [⟨#[97]⟩++YE a,X8 K,YE v]) [32]).toArray).size<=60:=this;rw[aib] at h2;exact aO h2 jD)
  have Z:Calls prog 133 #[.slice (some ⟨g9,0,none⟩) 3 c9,.string ⟨#[32]⟩] w9 λe w'=>e=.returned (.string (Xa a K m v))/\Below w9.heap.size w9 w':=by unfold Xa;rw[hcw];exact hjo
  have HJ:=aT Z;clear hjo Z hcw A D Im T;go_wp2_with fail;refine HJ.mono ?_;rintro e wf ⟨rfl,hbf⟩;go_wp2;go_ret;exact⟨rfl,XA.trans ((HX9.trans (hbf.mono HX9.size)).mono XA.size)⟩
end Go.Proofs.YtclgigmgbebhgaaGreatDoor.Zh
namespace Go.Proofs.YtclgigmgbebhgaaGreatDoor
open Tryz
open Go Go.Proofs Go.RowKit Go.Maps Go.WideMaps Go.ChangeMaps Go.Sort Go.Shelf
def GU(c:Z5):ByteArray:=Zh.Xa c.a (c.o:Int) c.m c.v
def Sr(c:Z5):List UInt8:=(GU c).data.toList
theorem CI(c:Z5):encStr (Sr c)=.string (GU c):=rfl
theorem CH:∀(x:List UInt8) (C:List (List UInt8)) (A:List UInt8),x≠[]->Lib.join (x::C) A≠[]
 |x,[],A,h=>by simpa [Lib.join] using h
 |x,y::r,A,h=>by
  intro e;have:Lib.join (x::y::r) A=x++(A++Lib.join (y::r) A):=by simp[Lib.join]
  rw[this] at e;exact h (List.append_eq_nil_iff.1 e).1
theorem GS{C:Nat}:∀A:List (List UInt8),(∀z∈A,z.length<=C)->(Lib.join A [59]).length<=A.length*(C+1)
 |[],_=>by simp[Lib.join]
 |[x],h=>by
  have:=h x jS;have e:Lib.join [x] [59]=x:=by simp[Lib.join]
  rw[e,aj,acg];omega
 |x::y::r,h=>by
  have D:=GS (y::r) (λz hz=>h z (afd _ hz));have I:=h x jS;have e:Lib.join (x::y::r) [59]=x++59::Lib.join (y::r) [59]:=by simp[Lib.join]
  rw[e,ay,aj,aj,Nat.succ_mul];omega
theorem im(c:Z5):Sr c≠[]:=by
 have h:∀ws:List (List UInt8),∀d:List UInt8,Lib.join (((97:UInt8)::d)::ws) [32]≠[]:=λws d=>CH _ _ _ jS
 have e:∀a:ByteArray,((⟨#[97]⟩:ByteArray)++a).data.toList=(97:UInt8)::a.data.toList:=λa=>by rw[ByteArray.data_append,Array.toList_append];rfl
 unfold Sr GU Zh.Xa Zh.WN;split;·rw[aec,e];exact h _ _
 ·rw[aec,e];exact h _ _
theorem oA{c:Z5}(h:c.right):(Sr c).length<=60:=by
 have:=Zh.MZ c.a (c.o:Int) c.m c.v h.1 h.2.2.2.1 h.2.2.2.2;unfold Sr GU;rw[ang];exact this
theorem oz{c:Z5}(h:c.right)(w:World)(hp:Zh.Xb w):Calls prog 131 #[.agg #[.int .i64 c.a,.int .i64 c.o,.int .u64 c.m,.int .u64 c.v]] w λe w'=>e=.returned (.string (GU c))/\Below w.heap.size w w':=by
 obtain⟨C,J,D,A,I⟩:=h;have:=Zh.FE c.a (c.o-1) c.m c.v C jO A I (D.imp (λe=>jO) id) w hp;rw[show((c.o-1:Nat):Int)+1=(c.o:Int) from jO] at this;exact this
theorem CG{α:Type}[Inhabited α][DecidableEq α](d:Array α):Lib.keeps d 0=true:=Lib.keeps_lt_one d 0 jD
theorem LW(zs:List (List UInt8)):(Lib.compact zs).length<=zs.length:=by
 unfold Lib.compact Lib.compactUpTo;rw[aad];refine aO (ate _ _) ?_;rw[afc];exact aR _
theorem JK{zs:List (List UInt8)}{x:List UInt8}(h:x∈Lib.compact zs):x∈zs:=by
 unfold Lib.compact Lib.compactUpTo at h;obtain⟨j,A,rfl⟩:=ai.1 h;have hl:=aia.1 (Rx A);have e:zs.toArray[j]! =zs[j]:=by rw[azc _ j (by simpa using hl)];simp
 rw[e];exact List.getElem_mem hl
theorem zM{zs:List (List UInt8)}(h:zs≠[]):Lib.compact zs≠[]:=by
 intro e;unfold Lib.compact Lib.compactUpTo at e;have A:=List.map_eq_nil_iff.1 e;have hl:0<zs.length:=ayc.2 h;have:0∈(List.range zs.length).filter (Lib.keeps zs.toArray):=aqa.2 ⟨aia.2 hl,CG _⟩;rw[A] at this;cases this
def il(cs:List Z5)(w:World)(e:Ending)(w':World):Prop:=∃s:ByteArray,e=.returned (.string s)/\(s.size=0↔cs=[])/\s.size<=100000/\Below w.heap.size w w'
theorem oy{cs:List Z5}{K:Nat}(J:cs.length=K)(hl:K<=1000)(hr:∀c∈cs,c.right){zs:List (List UInt8)}(hz:zs.Perm (cs.map Sr)):(Lib.join (Lib.compact zs) [59]).length<=61000/\(Lib.join (Lib.compact zs) [59]=[]↔cs=[]):=by
 have D:∀z∈zs,∃c∈cs,Sr c=z:=λz h=>by obtain⟨c,hc,e⟩:=ai.1 (hz.mem_iff.1 h);exact⟨c,hc,e⟩
 have hlen:zs.length=K:=by rw[hz.length_eq,aad,J]
 refine⟨?_,?_,?_⟩;·refine aO (GS (C:=60) _ (λz h=> ?_)) (aO (aue 61 (aO (LW zs) (by omega:zs.length<=1000))) jD);obtain⟨c,hc,rfl⟩:=D z (JK h);exact oA (hr c hc)
 ·intro e;cases hcs:cs with
  |nil=>rfl
  |cons c r=>
   have I:zs≠[]:=λh=>by rw[h,hcs] at hz;exact absurd hz.length_eq jS
   have hc:=zM I;cases A:Lib.compact zs with
   |nil=>exact absurd A hc
   |cons x y=>
    obtain⟨d,_,rfl⟩:=D x (JK (by rw[A];simp));rw[A] at e;exact absurd e (CH _ _ _ (im d))
 ·rintro rfl
  have:zs=[]:=by have:=hz.length_eq;simpa using this
  rw[this];rfl
theorem FH:(prog.info? 9).map (λi=>(i.zero,i.size,i.bytes))=some (some (.string ⟨#[]⟩),1,16):=jK
structure GR(lo:Nat)(cs:List Z5)(w W:World)(v:Value)(m:Nat):Prop where
 Zs:Below lo w W
 row:W.ownsRow lo 9 1 v m (((cs.take m).map Sr).map encStr)
 lo:lo<=W.heap.size
theorem GR.bl{lo:Nat}{cs:List Z5}{w W W':World}{v:Value}{m:Nat}(h:GR lo cs w W v m)(hb:Below W.heap.size W W'):GR lo cs w W' v m:=⟨h.Zs.trans (hb.mono h.lo),ZE h.row hb,aO h.lo hb.size⟩
theorem ij{N K:Nat}{ua:Option Addr}{uc:Nat}{cs:List Z5}(hK:cs.length=K)(hl:K<=1000)(hr:∀c∈cs,c.right)(w:World)(hp:Zh.Xb w)(h:YX N w (.slice ua K uc) cs)(hN:N<=w.heap.size):
 Calls prog 81 #[.slice ua K uc] w (il cs w):=by
 have HC:Hid (∀(k:Nat) (c:Z5),cs[k]? =some c->∃Z off,ua=some ⟨Z,off,none⟩/\Z<N/\w.cell? ⟨Z,off+k*4,none⟩=some (.int .i64 c.a)/\w.cell? ⟨Z,off+k*4+1,none⟩=some (.int .i64 c.o)/\w.cell? ⟨Z,off+k*4+2,none⟩=some (.int .u64 c.m)/\w.cell? ⟨Z,off+k*4+3,none⟩=some (.int .u64 c.v)):=by obtain⟨a,c,e,h⟩:=h;cases e;exact h
 have HK:=aT hK;have HR:=aT hr;have HP:=aT hp;obtain⟨i0,XX,SC,Vo,TD⟩:=ZP FH;have Ch:Hid (GR w.heap.size cs w w (.slice none 0 0) 0):=⟨aH _ _,Yg _ _ _ _,aR _⟩;clear h hK hr hp;go_enter func81,ntmps81;go_upto_region 3 with fail;go_loopg [3,8] (K+1) (λgg v iv wr=>∃m:Nat,m<=K/\K-m<gg/\iv=.int .i64 (m:Int)/\Hid (GR w.heap.size cs w wr v m));case atStart=>exact⟨0,abc _,jO,rfl,Ch⟩
 case round=>
  obtain⟨m,zi,VP,rfl,HA⟩:=hrel;clear Ch;have m0:=jZ m;by_cases hlt:m<K
  ·have Y8:(m:Int)<(K:Int):=by omega
   have iw:=jW m;obtain⟨c,hc⟩:∃c,cs[m]? =some c:=⟨_,aM (by rw[HK.out];exact hlt)⟩;obtain⟨Z,off,rfl,U7,y0,y1,y2,y3⟩:=HC m c hc;have ce:∀j v,w.cell? ⟨Z,j,none⟩=some v->wr.cell? ⟨Z,j,none⟩=some v:=λj v hv=>(HA.Zs.cell (p:=⟨Z,j,none⟩) (adf U7 hN)).trans hv
   have y0:=ce _ _ y0;have y1:=ce _ _ y1;have y2:=ce _ _ y2;have y3:=ce _ _ y3;have wD:Hid ((cs.take (m+1)).map Sr=(cs.take m).map Sr++[Sr c]):=by show _=_;rw[afb,hc,acf];rfl
   have HTx:=aT (λW (hb:Below w.heap.size w W)=>oz (HR c (af hc)) W (HP.below hb));obtain⟨tx,htx⟩:∃t,GU c=t:=⟨_,rfl⟩;have HTX:=aT htx;rw[htx] at HTx;have Ls:=aT (HA.bl (Yl wr (.cells #[.int .i64 c.a,.int .i64 c.o,.int .u64 c.m,.int .u64 c.v] TC)));have HX1:=aT (Z7.new wr TC #[.int .i64 c.a,.int .i64 c.o,.int .u64 c.m,.int .u64 c.v]);obtain⟨ca,co,cm,cv⟩:=c;dsimp only at y0 y1 y2 y3 HTx Ls HX1;clear ce hc htx HA;go_upto_region 5 with fail;generalize wr.alloc (.cells #[.int .i64 ca,.int .i64 co,.int .u64 cm,.int .u64 cv] TC)=w5 at*;generalize wr.heap.size=T5 at*;clear y0 y1 y2 y3;obtain⟨⟨z0,z1,z2,z3⟩,_⟩:=Z8 HX1
   go_wp2_with (first
    |(go_at_call 131;refine(HTx _ Ls.Zs).mono ?_;rintro e C ⟨rfl,hb6⟩;have T:=aT ((Ls.bl hb6).bl (Yl C (.cells #[.string tx] 9)));have aD6:=T.lo;clear hb6)
    |(at_builtin;refine adg _ rfl _ _ 195 rfl w.heap.size 9 i0 (.string ⟨#[]⟩) 1 16 underlying195 XX SC Vo TD rfl jD _ m _ rfl T.row ⟨C.heap.size,0,none⟩ 1 1 [.string tx] rfl ?c1 ?c2 ?c3 ?c4 ?c5 ?c6 ?_;(case c1=>rfl);(case c2=>exact Y1 rfl);(case c3=>simp[Value.oneCell']);(case c4=>unfold maxLen;omega);(case c5=>omega);(case c6=>exact aD6);intro v' w7 Y D _))
   have HA7:Hid (GR w.heap.size cs w w7 v' (m+1)):=by refine⟨T.Zs.grown D T.lo (λk e=>(T.row.lt k e).1),?_,aO T.lo D.size⟩;rw[wD.out,acf,aec,apb,CI,HTX.out];exact Y
   clear Y D;go_wp2_with fail;go_roundg (K-m);case measure=>omega
   case rel=>exact⟨m+1,jO,jO,by go_num,HA7⟩
  ·obtain rfl:m=K:=by omega
   have Y8:¬(m:Int)<(m:Int):=jO;have I:=HA.row;rw[abd (by rw[HK.out];exact aR _)] at I;rcases I.2 with⟨rfl,hz⟩|⟨gb,cap,cur,rfl,U,hgb,r1,r2,r3,r4⟩
   ·subst hz;have Fv:Hid (cs=[]):=akc HK;have cS:=λW=>AnyM.slices_Sort_string_none Tryz.sortStr none 0 W
    have cC:=λW=>Any.slices_Compact_string_empty Tryz.xZ none 0 W
    have cJ:=λW=>Any.strings_Join_none Tryz.x6 Zh.CJ none 0 ⟨#[59]⟩ W
    have HS:=aT cS;have dW:=aT cC;have HJ:=aT cJ;clear I cS cC cJ
    go_wp2_with (first
     |(go_at_call 132;refine(HS _).mono ?_;rintro e C ⟨rfl,rfl⟩)
     |(go_at_call 134;refine(dW _).mono ?_;rintro e C ⟨rfl,rfl⟩)
     |(go_at_call 133;refine(HJ _).mono ?_;rintro e C ⟨rfl,rfl⟩))
    go_ret;exact⟨_,rfl,(by rw[Fv.out];exact⟨λ_=>rfl,λ_=>rfl⟩),jD,HA.Zs⟩
   ·obtain⟨ss,yJ⟩:=jX (cs.map Sr);have yE:ss.length=m:=by rw[<-yJ,aad,HK.out]
    rw[yJ] at r4;have hH:Holds encStr wr gb 0 ss.toArray:=holds_of_block hgb (by rw[yE];simpa using r4);have JB:gb<wr.heap.size:=(aaa.1 hgb).1;have HS:=aT (AnyM.slices_Sort_string Tryz.sortStr gb 0 cap ss wr hH JB jO);rw[yE] at HS;have hpz:(ss.mergeSort λx y=>decide (x<=y)).Perm ss:=List.mergeSort_perm _ _;obtain⟨zs,hzs⟩:=jX ((ss.mergeSort λx y=>decide (x<=y)));rw[hzs] at HS hpz;have hzl:zs.length=m:=by rw[hpz.length_eq,yE]
    have HKZ:=aT (oy (zs:=zs) HK hl HR (by rw[yJ];exact hpz));have cn:Hid (∀n os,Holds encStr (grow (putRow encStr (Sort.ahead wr n) gb 0 zs.toArray) os) gb 0 zs.toArray/\Below w.heap.size w (grow (putRow encStr (Sort.ahead wr n) gb 0 zs.toArray) os)/\gb<(grow (putRow encStr (Sort.ahead wr n) gb 0 zs.toArray) os).heap.size):=λn os=>by have g1:=grownBy_sorted (w:=wr) (g:=gb) (n:=n) (os:=os) zs.toArray;refine⟨holds_grow _ _ _ _ _ _ (by simpa using JB) (holds_putRow _ _ _ _ ss.toArray _ (holds_ahead _ _ _ _ _ _ hH) (by simp[hzl,yE])),HA.Zs.grown g1 HA.lo (λk e=>by cases e;exact U),adf JB g1.size⟩
    clear hH I r4 yJ hzs hpz hgb r3;have IG:=LW zs;obtain⟨A,hcz⟩:=jX (Lib.compact zs);rw[hcz] at HKZ IG;have HCZ:=aT hcz;clear hcz;go_wp2_with fail;refine HS.mono ?_;rintro e C ⟨rfl,n6,os6,rfl⟩;obtain⟨hH6,hB6,km⟩:=cn n6 os6;generalize grow (putRow encStr (Sort.ahead wr n6) gb 0 zs.toArray) os6=C at*;have fC:=aT hH6;have dW:=aT (Any.slices_Compact_string Tryz.xZ gb 0 cap zs C hH6 jO jO);rw[hzl,HCZ.out] at dW;have yY:=aT hB6;clear hH6 hB6;go_wp2_with fail;refine dW.mono ?_;rintro e w7 ⟨rfl,q7,rfl⟩;have hH7:Holds encStr (putRow encStr (Sort.ahead C q7) gb 0 (A++List.replicate (m-A.length) []).toArray) gb 0 (A++List.replicate (m-A.length) []).toArray:=holds_putRow _ _ _ _ zs.toArray _ (holds_ahead _ _ _ _ _ _ fC) (by simp;omega);have hB7:Below w.heap.size w (putRow encStr (Sort.ahead C q7) gb 0 (A++List.replicate (m-A.length) []).toArray):=by have g1:=grownBy_sorted (w:=C) (g:=gb) (n:=q7) (os:=#[]) (A++List.replicate (m-A.length) []).toArray;rw[grow_empty] at g1;exact yY.grown g1 yY.size (λk e=>by cases e;exact U)
    have hg7:gb<(putRow encStr (Sort.ahead C q7) gb 0 (A++List.replicate (m-A.length) []).toArray).heap.size:=by have g1:=grownBy_sorted (w:=C) (g:=gb) (n:=q7) (os:=#[]) (A++List.replicate (m-A.length) []).toArray;rw[grow_empty] at g1;exact adf km g1.size
    have J:∀(j:Nat) x,(A.map (λl:List UInt8=>(⟨l.toArray⟩:ByteArray)))[j]? =some x->(putRow encStr (Sort.ahead C q7) gb 0 (A++List.replicate (m-A.length) []).toArray).cell? ⟨gb,0+j,none⟩=some (.string x):=λj x hx=>by rw[ada] at hx;obtain⟨l,hl,rfl⟩:=Option.map_eq_some_iff.1 hx;have hj:=(au.1 hl).1;have h:=(hH7 j (by simp;omega)).1;rw[h,azc _ j (by simp;omega)];simp only[List.getElem_toArray];rw[List.getElem_append_left hj,(au.1 hl).2]
    generalize putRow encStr (Sort.ahead C q7) gb 0 (A++List.replicate (m-A.length) []).toArray=w7 at*;have Jw:(A.map (λl:List UInt8=>(⟨l.toArray⟩:ByteArray))).map (·.data.toList)=A:=by rw[akb];exact List.map_id'' (λl=>jS) _
    have HJ:=aT (Zh.MV gb cap (A.map (λl:List UInt8=>(⟨l.toArray⟩:ByteArray))) ⟨#[59]⟩ w7 J hg7 (by rw[aad];omega) (by rw[aad];omega) (by rw[Jw];exact aO HKZ.1 jD));rw[Jw,aad] at HJ;have Ov:=aT hB7;clear hH7 hB7 hg7 J Jw;go_wp2_with fail;refine HJ.mono ?_;rintro e w8 ⟨rfl,hb8⟩;go_wp2_with fail;go_ret;refine⟨_,rfl,?_,?_,Ov.trans (hb8.mono Ov.size)⟩
    ·rw[<-HKZ.out.2];constructor;·intro e;exact akc e
     ·intro e;show(Lib.join A [59]).length=0;rw[e];try rfl
    ·exact aO HKZ.1 jD
end Go.Proofs.YtclgigmgbebhgaaGreatDoor
namespace Go.Proofs.YtclgigmgbebhgaaGreatDoor
open Tryz
open Go Go.Proofs Go.RowKit Go.Maps Go.WideMaps Go.ChangeMaps
variable {s:ByteArray} {ks:List ByteArray} {q N K BR:Nat}
def VF(c:Z5):Bool:=decide (c.o=7/\(c.v &&& c.m)≠c.v)
theorem ox(c:Z5)(hm:c.m<Yf)(hv:c.v<Yf)(w:World):Calls prog 80 #[.agg #[.int .i64 c.a,.int .i64 c.o,.int .u64 c.m,.int .u64 c.v]] w λe w'=>e=.returned (.bool (VF c))/\Below w.heap.size w w':=by
 have hk:=MK hv hm;unfold VF;obtain⟨a,o,m,v⟩:=c;dsimp only at*;have I:=aT (Yl w (.cells #[.int .i64 a,.int .i64 o,.int .u64 m,.int .u64 v] TC));have U:=aT (Z7.new w TC #[.int .i64 a,.int .i64 o,.int .u64 m,.int .u64 v]);go_enter func80,ntmps80;go_upto_region 1 with fail;generalize w.alloc (.cells #[.int .i64 a,.int .i64 o,.int .u64 m,.int .u64 v] TC)=w1 at*;obtain⟨⟨z0,z1,z2,z3⟩,_⟩:=Z8 U;by_cases T:o=7
 ·subst T;by_cases A:bits .andNot .u64 (v:Int) (m:Int)=0
  ·have C:=aT (hk.1 A);have J:(bits .andNot .u64 (v:Int) (m:Int) != 0)=false:=by simpa using A
   have D:(bits .andNot .u64 (v:Int) (m:Int) == 0)=true:=by simpa using A
   clear hk A;go_wp2_with fail;go_ret;exact⟨by simp[C.out],I⟩
  ·have C:Hid ((v &&& m)≠v):=λe=>A (hk.2 e)
   have J:(bits .andNot .u64 (v:Int) (m:Int) != 0)=true:=by simpa using A
   have D:(bits .andNot .u64 (v:Int) (m:Int) == 0)=false:=by simpa using A
   clear hk A;go_wp2_with fail;go_ret;exact⟨by simp[C.out],I⟩
 ·have Y:=aT T
  have Z:((o:Int) == 7)=false:=by rw[ae];omega
  clear hk T;go_wp2_with fail;go_ret;exact⟨by simp[Y.out],I⟩
def ig(b:Bool)(w:World)(e:Ending)(w':World):Prop:=∃z:Int,e=.returned (.int .i64 z)/\decide (0<=z)=b/\Below w.heap.size w w'
theorem ou{α:Type}{p:α->Bool}{l:List α} {x:α}(h:(l.take q).any p=false)(hx:l[q]? =some x)(hp:p x=false):(l.take (q+1)).any p=false:=by
 rw[afb,hx,List.any_append,h];simp[hp]
theorem ia{α:Type}{p:α->Bool}{l:List α} {x:α}(hx:l[q]? =some x)(hp:p x=true):l.any p=true:=alg.2 ⟨x,af hx,hp⟩
theorem CF {ua:Option Addr}{uc:Nat}{cs:List Z5}(hK:cs.length=K)(hl:K<=1000000)(hr:∀c∈cs,c.m<Yf/\c.v<Yf)(w:World)(h:YX N w (.slice ua K uc) cs)(hN:N<=w.heap.size):
 Calls prog 130 #[.slice ua K uc,.func (.func 80) #[] #[]] w (ig (cs.any VF) w):=by
 have HC:Hid (∀(k:Nat) (c:Z5),cs[k]? =some c->∃D off,ua=some ⟨D,off,none⟩/\D<N/\w.cell? ⟨D,off+k*4,none⟩=some (.int .i64 c.a)/\w.cell? ⟨D,off+k*4+1,none⟩=some (.int .i64 c.o)/\w.cell? ⟨D,off+k*4+2,none⟩=some (.int .u64 c.m)/\w.cell? ⟨D,off+k*4+3,none⟩=some (.int .u64 c.v)):=by obtain⟨a,c,e,h⟩:=h;cases e;exact h
 have HK:=aT hK;have HR:=aT hr;clear h hK hr;go_enter func130,ntmps130;go_upto_region 2 with fail;go_loopg [5,8] (K+1) (λgg _ iv wr=>∃q:Nat,q<=K/\K-q<gg/\iv=.int .i64 (q:Int)/\Hid ((cs.take q).any VF=false)/\Hid (Below w.heap.size w wr));case atStart=>exact⟨0,abc _,jO,rfl,(by show _=_;rfl),aH _ _⟩
 case round=>
  obtain⟨q,hqL,VP,rfl,HT,Y⟩:=hrel;have q0:=jZ q;by_cases hq:q<K
  ·have kW:(q:Int)<(K:Int):=by omega
   obtain⟨c,hc⟩:∃c,cs[q]? =some c:=⟨_,aM (by rw[HK.out];exact hq)⟩;obtain⟨D,off,rfl,D3,y0,y1,y2,y3⟩:=HC q c hc;have aD7:D<w.heap.size:=adf D3 hN;have U:∀j v,w.cell? ⟨D,j,none⟩=some v->wr.cell? ⟨D,j,none⟩=some v:=λj v hv=>(Y.cell (p:=⟨D,j,none⟩) aD7).trans hv
   have y0:=U _ _ y0;have y1:=U _ _ y1;have y2:=U _ _ y2;have y3:=U _ _ y3;have I:=HR c (af hc);have J:=aT (ox c I.1 I.2 wr);cases A:VF c with
   |false=>
    have Uu:=aT (ou HT hc A);rw[A] at J;clear U hc A I;go_wp2_with fail;refine J.mono ?_;rintro e w1 ⟨rfl,C⟩;have T:=aT (Y.trans (C.mono Y.size));clear C y0 y1 y2 y3;go_wp2;go_roundg (K-q);case measure=>omega
    case rel=>exact⟨q+1,jO,jO,by go_num,Uu,T⟩
   |true=>
    have HF:=aT (ia hc A);rw[A] at J;clear U hc A I;go_wp2_with fail;refine J.mono ?_;rintro e w1 ⟨rfl,C⟩;have T:=aT (Y.trans (C.mono Y.size));clear C y0 y1 y2 y3;go_wp2;go_ret;exact⟨_,rfl,by rw[HF.out];exact adb q0,T⟩
  ·obtain rfl:K=q:=by omega
   have kW:¬(K:Int)<(K:Int):=jO;have Z:Hid (cs.any VF=false):=by have h:=HT.out;rwa [abd (by rw[HK.out];exact aR _)] at h
   go_wp2;go_ret;exact⟨_,rfl,by rw[Z.out];decide,Y⟩
theorem CE {ua:Option Addr}{uc:Nat}{cs:List Z5}(I:cs.length=K)(hl:K<=1000000)(hr:∀c∈cs,c.m<Yf/\c.v<Yf)(w:World)(h:YX N w (.slice ua K uc) cs)(hN:N<=w.heap.size):
 Calls prog 79 #[.slice ua K uc,.func (.func 80) #[] #[]] w λe w'=>e=.returned (.bool (cs.any VF))/\Below w.heap.size w w':=by
 have D:=aT (CF (uc:=uc) I hl hr w h hN);generalize cs.any VF=b at*;clear h hN hr I;go_enter func79,ntmps79;go_wp2_with fail;refine D.mono ?_;rintro e T ⟨z,rfl,hz,A⟩;have C:=aT A;have J:Hid (decide ((0:Int)<=z)=b):=hz;clear A D hz;go_wp2;go_ret;exact⟨GD J,C⟩
theorem SJ {nm:ByteArray}{k n:Int}{ua:Option Addr}{uc:Nat}{cs:List Z5}(I:cs.length=K)(hl:K<=1000000)(hr:∀c∈cs,c.m<Yf/\c.v<Yf)(w:World)(h:YX N w (.slice ua K uc) cs)(hN:N<=w.heap.size)(J:Z7 w BR TR #[.string nm,.int .i64 k,.int .i64 n,.slice ua K uc]):
 Calls prog 78 #[.pointer (some ⟨BR,0,none⟩)] w λe w'=>e=.returned (.bool (!cs.any VF))/\Below w.heap.size w w':=by
 have D:=aT (CE (uc:=uc) I hl hr w h hN);generalize cs.any VF=b at*;obtain⟨⟨U,T,Z,Y⟩,_⟩:=Z8 J;clear h hN hr I J;go_enter func78,ntmps78;go_wp2_with fail;refine D.mono ?_;rintro e w1 ⟨rfl,A⟩;have C:=aT A;clear A D U T Z Y;go_wp2_with fail;go_ret;exact⟨rfl,C⟩
theorem zL{BT:Nat}{nm:ByteArray}{k n:Int}{u:Value}(J:Option Addr)(Y:Nat)(l:List Z4.Z2)(w:World)(D:l.length<=1000000)(hR:Z4.X2 w (.slice J l.length Y) l)(hT:Z4.Zt l)(I:Z7 w BT 41 #[.slice J l.length Y])(hB:Z7 w BR TR #[.string nm,.int .i64 k,.int .i64 n,u]):
 Calls prog 77 #[.pointer (some ⟨BT,0,none⟩),.pointer (some ⟨BR,0,none⟩)] w λe w'=>e=.returned (.bool (decide (0<=Z4.firstIdx (Z4.RI nm) l)))/\Below w.heap.size w w':=by
 have T:=aT (Kt nm (.slice J l.length Y) l w D hR hT);obtain⟨y,hy⟩:=jX (YO l nm);rw[hy] at T;unfold Z4.Z2.val at T;generalize Z4.firstIdx (Z4.RI nm) l=fi at*;generalize l.length=ll at*;have t0:=I.e0;obtain⟨⟨z0,z1,z2,z3⟩,_⟩:=Z8 hB;clear hy hR hT I hB;go_enter func77,ntmps77;go_wp2_with fail;refine T.mono ?_;rintro e w1 ⟨kk,b,rfl,C,A⟩;have Z:=aT C;have U:=aT (A.alloc A.size (.cells #[.string y.name,.int .i64 y.n0,.int .i64 y.n1,.int .i64 y.n2,.int .i64 y.n3,.int .i64 y.n4,.int .i64 y.Yv,.int .i64 y.sub] 40));clear C A t0 z0 z1 z2 z3;go_wp2_with fail;go_ret;refine⟨?_,U⟩;have:b=decide (0<=fi):=by rw[aoc,Z.out,aed]
 rw[this];rfl
def Ca(s:ByteArray)(ks:List ByteArray):Bool:=ks.any λt=>decide (t=s)
theorem NK:Ca s ks=true↔s∈ks:=by
 unfold Ca;rw[alg];exact⟨λ⟨t,A,C⟩=>by rw[<-ala C];exact A,λh=>⟨s,h,adb rfl⟩⟩
def uk(ks:List ByteArray):List (Value×Value):=ks.map λs=>(.string s,.bool true)
theorem ad6:∀W,(zeroValue 4).run prog W=.ok (.bool false) W:=λ_=>jK
theorem CD{W:World}{B:Nat} (h:ZB W B (uk ks))(hd:ks.Pairwise (·≠·))(hs:∀s∈ks,s.size<=1000000) (hz:s.size<=1000000):(Instr.lookup 182 (.map (some B)) (.string s) false).run prog W=.ok (.bool (Ca s ks)) W:=by
 have hk:∀p∈uk ks,∃l,keyOf prog 9 p.1=some l:=λp hp=>by obtain⟨x,hx,rfl⟩:=ai.1 hp;exact Ou x (hs x hx)
 by_cases hm:s∈ks;·rw[NK.2 hm];exact Xu underlying182 Ty h hk (Ou s hz) (ai.2 ⟨s,hm,rfl⟩) (aeg.2 (hd.imp (λA e=>A (ara e))))
 ·rw[show Ca s ks=false by rw[<-Bool.not_eq_true,NK];exact hm]
  exact Ud underlying182 Ty ad6 h hk (Ou s hz) (λp hp e=>by obtain⟨x,hx,rfl⟩:=ai.1 hp;exact hm (by rw[<-ara e];exact hx))
theorem zK{PM B BR BO:Nat}{nm own:ByteArray}{k n:Int}{u:Value}{ks:List ByteArray}(w:World)(I:ZB w B (uk ks))(hd:ks.Pairwise (·≠·))(hs:∀s∈ks,s.size<=1000000)(hn:nm.size<=1000)(ho:own.size<=1000000)(A:Z7 w PM 182 #[.map (some B)])(U:Z7 w BR TR #[.string nm,.int .i64 k,.int .i64 n,u])(T:Z7 w BO 9 #[.string own]):
 Calls prog 82 #[.pointer (some ⟨PM,0,none⟩),.pointer (some ⟨BR,0,none⟩),.pointer (some ⟨BO,0,none⟩)] w λe w'=>e=.returned (.bool (!Ca (nm++⟨#[58]⟩) ks && !Ca own ks))/\Below w.heap.size w w':=by
 have J:(nm++(⟨#[58]⟩:ByteArray)).size<=1000000:=by rw[axc];show nm.size+1<=_;omega
 have C:=CD I hd hs J;have D:=CD I hd hs ho;have m0:=A.e0;have Y:=T.e0;obtain⟨⟨z0,z1,Z,z3⟩,_⟩:=Z8 U;generalize Ca (nm++(⟨#[58]⟩:ByteArray)) ks=b1 at*;generalize Ca own ks=b2 at*;clear I hd hs ho A U T;cases b1 with
 |true=>
  go_enter func82,ntmps82
  go_wp2_with (rw[C])
  go_ret;exact⟨rfl,aH _ _⟩
 |false=>
  go_enter func82,ntmps82
  go_wp2_with (first|rw[C]|rw[D])
  go_ret;exact⟨by cases b2<;>rfl,aH _ _⟩
end Go.Proofs.YtclgigmgbebhgaaGreatDoor
namespace Go.Proofs.YtclgigmgbebhgaaGreatDoor.Z4
open Tryz
open Go Go.Proofs Go.RowKit
variable {a:Nat} {W W' w:World}
def xN(l:List Z2)(i:Nat)(p:Int×Int):Prop:=
 ∃k,k<i/\((∃a:Nat,a<5/\0<=(l[k]!).num a/\p=((a:Int),(l[k]!).num a))\/(0<(l[k]!).Yv/\p=(5+(l[k]!).Yv,(l[k]!).sub)))
def dQ(y:Z2)(a:Nat)(p:Int×Int):Prop:=∃a':Nat,a'<a/\a'<5/\0<=y.num a'/\p=((a':Int),y.num a')
def YL(l:List Z2)(i:Nat)(y:Z2)(a:Nat)(S:List (Int×Int)):Prop:=∀p,p∈S↔xN l i p\/dQ y a p
theorem CC(S:List (Int×Int))(p q:Int×Int):q∈JR S p↔q∈S\/q=p:=by
 unfold JR;split
 ·rename_i h;constructor;·exact .inl
  ·rintro(A|rfl);·exact A
   ·exact h
 ·simp
theorem YL.num{l:List Z2}{i:Nat}{y:Z2}{S:List (Int×Int)}(h:YL l i y a S)(ha:a<5)(D:0<=y.num a):((a:Int),y.num a)∈S↔∃k,k<i/\(l[k]!).num a=y.num a:=by
 rw[h];constructor
 ·rintro(⟨k,hk,⟨b,hb,C,A⟩|⟨C,A⟩⟩|⟨b,hb,_,_,A⟩);·simp only[asb] at A;obtain rfl:a=b:=jO;exact⟨k,hk,A.2.symm⟩
  ·simp only[asb] at A;omega
  ·simp only[asb] at A;omega
 ·rintro⟨k,hk,C⟩;exact .inl ⟨k,hk,.inl ⟨a,ha,by rw[C];exact D,by rw[C]⟩⟩
theorem YL.Yv{l:List Z2}{i:Nat}{y:Z2}{S:List (Int×Int)}(h:YL l i y a S)(I:0<y.Yv):(5+y.Yv,y.sub)∈S↔∃k,k<i/\(l[k]!).Yv=y.Yv/\(l[k]!).sub=y.sub:=by
 rw[h];constructor
 ·rintro(⟨k,hk,⟨b,hb,C,A⟩|⟨C,A⟩⟩|⟨b,hb,D,_,A⟩);·simp only[asb] at A;omega
  ·simp only[asb] at A;exact⟨k,hk,jO,jO⟩
  ·simp only[asb] at A;omega
 ·rintro⟨k,hk,C,A⟩;exact .inl ⟨k,hk,.inr ⟨jO,by rw[C,A]⟩⟩
theorem YL.skip{l:List Z2}{i:Nat}{y:Z2}{S:List (Int×Int)}(h:YL l i y a S)(J:y.num a= -1):YL l i y (a+1) S:=by
 intro p;rw[h];constructor
 ·rintro(h|⟨b,I,D,C,A⟩);·exact .inl h
  ·exact .inr ⟨b,jO,D,C,A⟩
 ·rintro(h|⟨b,I,D,C,A⟩);·exact .inl h
  ·refine .inr ⟨b,?_,D,C,A⟩;by_cases e:b=a;·subst e;omega
   ·omega
theorem YL.add{l:List Z2}{i:Nat}{y:Z2}{S:List (Int×Int)}(h:YL l i y a S)(ha:a<5)(J:0<=y.num a):YL l i y (a+1) (JR S ((a:Int),y.num a)):=by
 intro p;rw[CC,h];constructor
 ·rintro((h|⟨b,I,D,C,A⟩)|rfl);·exact .inl h
  ·exact .inr ⟨b,jO,D,C,A⟩
  ·exact .inr ⟨a,jO,ha,J,rfl⟩
 ·rintro(h|⟨b,I,D,C,A⟩);·exact .inl (.inl h)
  ·by_cases e:b=a;·subst e;exact .inr A
   ·exact .inl (.inr ⟨b,jO,D,C,A⟩)
theorem JJ(l:List Z2)(i:Nat)(p:Int×Int):xN l (i+1) p↔xN l i p\/dQ l[i]! 5 p\/(0<(l[i]!).Yv/\p=(5+(l[i]!).Yv,(l[i]!).sub)):=by
 constructor
 ·rintro⟨k,hk,h⟩;by_cases e:k=i
  ·subst e;rcases h with⟨a,C,A,D⟩|h;·exact .inr (.inl ⟨a,C,C,A,D⟩)
   ·exact .inr (.inr h)
  ·exact .inl ⟨k,jO,h⟩
 ·rintro(⟨k,hk,h⟩|⟨a,C,A,D,I⟩|h);·exact⟨k,jO,h⟩
  ·exact⟨i,jO,.inl ⟨a,A,D,I⟩⟩
  ·exact⟨i,jO,.inr h⟩
def Seen(l:List Z2)(i:Nat)(S:List (Int×Int)):Prop:=∀p,p∈S↔xN l i p
theorem Seen.start{l:List Z2}{i:Nat}{S:List (Int×Int)}(h:Seen l i S)(y:Z2):YL l i y 0 S:=by
 intro p;rw[h];constructor;·exact .inl
 ·rintro(h|⟨b,A,_⟩);·exact h
  ·omega
theorem YL.done{l:List Z2}{i:Nat}{y:Z2}{S:List (Int×Int)}(h:YL l i y 5 S)(hy:l[i]! =y)(A:¬0<y.Yv):Seen l (i+1) S:=by
 intro p;rw[h,JJ,hy];constructor
 ·rintro(h|h);·exact .inl h
  ·exact .inr (.inl h)
 ·rintro(h|h|h);·exact .inl h
  ·exact .inr h
  ·exact absurd h.1 A
theorem YL.hZ{l:List Z2}{i:Nat}{y:Z2}{S:List (Int×Int)}(h:YL l i y 5 S)(hy:l[i]! =y)(A:0<y.Yv):Seen l (i+1) (JR S (5+y.Yv,y.sub)):=by
 intro p;rw[CC,h,JJ,hy];constructor
 ·rintro((h|h)|h);·exact .inl h
  ·exact .inr (.inl h)
  ·exact .inr (.inr ⟨A,h⟩)
 ·rintro(h|h|h);·exact .inl (.inl h)
  ·exact .inl (.inr h)
  ·exact .inr h.2
theorem Seen.nil(l:List Z2):Seen l 0 []:=by
 intro p;constructor;·intro h;simp at h
 ·rintro⟨k,hk,_⟩;omega
structure CB(B:Nat)(W W':World):Prop where
 os:W'.os=W.os
 tape:W'.tape=W.tape
 output:W'.output=W.output
 size:W.heap.size<=W'.heap.size
 block:∀b,b<W.heap.size->b≠B->W'.heap[b]? =W.heap[b]?
theorem CB.blk{B:Nat} (h:CB B W W'){b:Nat}{t:TypeId}{cs:Array Value}(hb:Z7 W b t cs)(A:b≠B):Z7 W' b t cs:=(h.block b hb.lt A).trans hb
theorem CB.below{B n:Nat} (h:CB B W W')(hb:Below n w W)(hn:n<=B)(hs:n<=W.heap.size):Below n w W':=
 ⟨by rw[h.os,hb.os],by rw[h.tape,hb.tape],by rw[h.output,hb.output],aO hb.size h.size,λb A=>(h.block b jO jO).trans (hb.block b A)⟩
theorem FP.kept{B:Nat}{S:List (Int×Int)}{p:Int×Int}{w':World}{e:Ending}(h:FP B S p w e w'):e=.returned (.bool (decide (p∈S)))/\XT w' B (JR S p)/\CB B w w':=
 ⟨h.1,h.2.1,⟨h.2.2.2.1.symm,h.2.2.2.2.1.symm,h.2.2.2.2.2.1.symm,h.2.2.1,h.2.2.2.2.2.2⟩⟩
end Go.Proofs.YtclgigmgbebhgaaGreatDoor.Z4
