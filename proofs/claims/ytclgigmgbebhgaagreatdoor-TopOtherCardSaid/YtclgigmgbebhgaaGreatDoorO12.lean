/- TopOther: part 12: AbiRows AbiFn. -/
import Derived.Shelf.Abstract
import Derived.Shelf.RegionOpen
import Derived.LoopNIn
import Derived.LoopIn
import Derived.Test.YtclgigmgbebhgaaGreatDoorProg
import Derived.Laws.BitsAllLaws
import Derived.WalkSpells
import Derived.Test.YtclgigmgbebhgaaGreatDoorO01
set_option linter.unusedVariables false
set_option linter.unusedSimpArgs false
set_option maxRecDepth 100000
set_option maxHeartbeats 16000000
namespace Go.Proofs.YtclgigmgbebhgaaGreatDoor
open Tryz
open Go Go.Proofs Go.RowKit Go.Shelf
attribute [local go_sem] atd
structure YS where
 n:Int
 name:ByteArray
 token:Int
 bit:Bool
 bits:Int
abbrev YS.Nf(x:YS):Array Value:=#[.int .i64 x.n,.agg #[.string x.name,.int .u32 x.token,.bool x.bit,.int .i64 x.bits]]
def r0:YS:=⟨0,⟨#[120,56,54,95,54,52]⟩,3221225534,false,64⟩
def r1:YS:=⟨1,⟨#[120,51,50]⟩,3221225534,true,64⟩
def r2:YS:=⟨2,⟨#[105,51,56,54]⟩,1073741827,false,32⟩
def r3:YS:=⟨3,⟨#[97,114,109,54,52]⟩,3221225655,false,64⟩
def r4:YS:=⟨4,⟨#[114,105,115,99,118,54,52]⟩,3221225715,false,64⟩
def Ge:List YS:=[r0,r1,r2,r3,r4]
theorem rq(F:Fence)(n:Nat)(hf:F.fn 164)(hro:F.round=none)(hn:1<=n)(w:World):
 SeqStopsK F n prog 164 #[] YS.Nf (λ_ _=>True) (λxs=>xs=Ge) (λpre=>pre <+: Ge) 5 w:=λl J Jx W hW U hJx Z h0=>by
 refine aAa func164 rfl hf ?_ hro;simp only[ntmps164,aib,aj,acg,Nat.reduceAdd,Nat.reduceSub,ald,ale,anf,amc,age,ahc]
 gi_wp2_with (first|(refine Pg W 283 ?old ?cells ?c3 ?c4 ?c5 ?c6 ?c7 ?c8 ?c9;(case c3=>rfl);(case c4=>rfl);(case c5=>rfl);(case c6=>kernel_rfl);(case c7=>kernel_rfl);(case c8=>kernel_rfl))|(refine OJ W.heap.size 283 ?cs (0,0) _ ?c3 ?c4 underlying283 ?c5 ?c6 ?c7;(case c3=>exact heap_alloc_last _ _);(case c4=>rfl);(case c5=>rfl);(case c6=>kernel_rfl);simp only[aS,aQ,aP]))
 have i0:∀w,(Instr.index 283 (.agg #[.string ⟨#[120,56,54,95,54,52]⟩,.int .u32 3221225534,.bool false,.int .i64 64,.string ⟨#[120,51,50]⟩,.int .u32 3221225534,.bool true,.int .i64 64,.string ⟨#[105,51,56,54]⟩,.int .u32 1073741827,.bool false,.int .i64 32,.string ⟨#[97,114,109,54,52]⟩,.int .u32 3221225655,.bool false,.int .i64 64,.string ⟨#[114,105,115,99,118,54,52]⟩,.int .u32 3221225715,.bool false,.int .i64 64]) (.int .i64 0)).run prog w=.ok (.agg #[.string ⟨#[120,56,54,95,54,52]⟩,.int .u32 3221225534,.bool false,.int .i64 64]) w:=λ_=>by as_aux_lemma=>kernel_rfl
 have i1:∀w,(Instr.index 283 (.agg #[.string ⟨#[120,56,54,95,54,52]⟩,.int .u32 3221225534,.bool false,.int .i64 64,.string ⟨#[120,51,50]⟩,.int .u32 3221225534,.bool true,.int .i64 64,.string ⟨#[105,51,56,54]⟩,.int .u32 1073741827,.bool false,.int .i64 32,.string ⟨#[97,114,109,54,52]⟩,.int .u32 3221225655,.bool false,.int .i64 64,.string ⟨#[114,105,115,99,118,54,52]⟩,.int .u32 3221225715,.bool false,.int .i64 64]) (.int .i64 1)).run prog w=.ok (.agg #[.string ⟨#[120,51,50]⟩,.int .u32 3221225534,.bool true,.int .i64 64]) w:=λ_=>by as_aux_lemma=>kernel_rfl
 have i2:∀w,(Instr.index 283 (.agg #[.string ⟨#[120,56,54,95,54,52]⟩,.int .u32 3221225534,.bool false,.int .i64 64,.string ⟨#[120,51,50]⟩,.int .u32 3221225534,.bool true,.int .i64 64,.string ⟨#[105,51,56,54]⟩,.int .u32 1073741827,.bool false,.int .i64 32,.string ⟨#[97,114,109,54,52]⟩,.int .u32 3221225655,.bool false,.int .i64 64,.string ⟨#[114,105,115,99,118,54,52]⟩,.int .u32 3221225715,.bool false,.int .i64 64]) (.int .i64 2)).run prog w=.ok (.agg #[.string ⟨#[105,51,56,54]⟩,.int .u32 1073741827,.bool false,.int .i64 32]) w:=λ_=>by as_aux_lemma=>kernel_rfl
 have i3:∀w,(Instr.index 283 (.agg #[.string ⟨#[120,56,54,95,54,52]⟩,.int .u32 3221225534,.bool false,.int .i64 64,.string ⟨#[120,51,50]⟩,.int .u32 3221225534,.bool true,.int .i64 64,.string ⟨#[105,51,56,54]⟩,.int .u32 1073741827,.bool false,.int .i64 32,.string ⟨#[97,114,109,54,52]⟩,.int .u32 3221225655,.bool false,.int .i64 64,.string ⟨#[114,105,115,99,118,54,52]⟩,.int .u32 3221225715,.bool false,.int .i64 64]) (.int .i64 3)).run prog w=.ok (.agg #[.string ⟨#[97,114,109,54,52]⟩,.int .u32 3221225655,.bool false,.int .i64 64]) w:=λ_=>by as_aux_lemma=>kernel_rfl
 have i4:∀w,(Instr.index 283 (.agg #[.string ⟨#[120,56,54,95,54,52]⟩,.int .u32 3221225534,.bool false,.int .i64 64,.string ⟨#[120,51,50]⟩,.int .u32 3221225534,.bool true,.int .i64 64,.string ⟨#[105,51,56,54]⟩,.int .u32 1073741827,.bool false,.int .i64 32,.string ⟨#[97,114,109,54,52]⟩,.int .u32 3221225655,.bool false,.int .i64 64,.string ⟨#[114,105,115,99,118,54,52]⟩,.int .u32 3221225715,.bool false,.int .i64 64]) (.int .i64 4)).run prog w=.ok (.agg #[.string ⟨#[114,105,115,99,118,54,52]⟩,.int .u32 3221225715,.bool false,.int .i64 64]) w:=λ_=>by as_aux_lemma=>kernel_rfl
 have Y:J [] (W.alloc (.cells #[.string ⟨#[120,56,54,95,54,52]⟩,.int .u32 3221225534,.bool false,.int .i64 64,.string ⟨#[120,51,50]⟩,.int .u32 3221225534,.bool true,.int .i64 64,.string ⟨#[105,51,56,54]⟩,.int .u32 1073741827,.bool false,.int .i64 32,.string ⟨#[97,114,109,54,52]⟩,.int .u32 3221225655,.bool false,.int .i64 64,.string ⟨#[114,105,115,99,118,54,52]⟩,.int .u32 3221225715,.bool false,.int .i64 64] 283)):=U _ _ _ none h0 (aea W _ none) (λr e=>by cases e)
 gi_loopw [12] (λi wr=>(i=.int .i64 0/\J [] wr)\/(i=.int .i64 1/\J [r0] wr)\/(i=.int .i64 2/\J [r0,r1] wr)\/(i=.int .i64 3/\J [r0,r1,r2] wr)\/(i=.int .i64 4/\J [r0,r1,r2,r3] wr)\/(i=.int .i64 5/\J [r0,r1,r2,r3,r4] wr)) (λi _=>5-(intOf i).toNat)
 case atStart=>exact .inl ⟨rfl,Y⟩
 case round=>
  clear Y h0;rcases hrel with⟨rfl,C⟩|⟨rfl,C⟩|⟨rfl,C⟩|⟨rfl,C⟩|⟨rfl,C⟩|⟨rfl,C⟩
  ·have D:J [] (wr.alloc (.cells #[.string ⟨#[120,56,54,95,54,52]⟩,.int .u32 3221225534,.bool false,.int .i64 64] 142)):=U _ _ _ none C (aea wr _ none) (λr e=>by cases e);obtain⟨fn,tmps,assign,body,hy,T⟩:=Z [] r0 _ D jD;simp only[YS.Nf,r0] at hy
   gi_wp2
   refine T.mono ?_;rintro e W3 (⟨rfl,I,_⟩|⟨rfl,A⟩)
   ·gi_wp2
    go_roundw
    case rel=>exact .inr (.inl ⟨rfl,I⟩)
    case measure=>simp[intOf]
   ·gi_wp2
    refine aag (aog rfl _ _ _) rfl ?_;exact⟨⟨_,rfl⟩,.inr ⟨_,⟨[r1,r2,r3,r4],rfl⟩,A⟩⟩
  ·have D:J [r0] (wr.alloc (.cells #[.string ⟨#[120,51,50]⟩,.int .u32 3221225534,.bool true,.int .i64 64] 142)):=U _ _ _ none C (aea wr _ none) (λr e=>by cases e);obtain⟨fn,tmps,assign,body,hy,T⟩:=Z [r0] r1 _ D jD;simp only[YS.Nf,r1] at hy
   gi_wp2
   refine T.mono ?_;rintro e W3 (⟨rfl,I,_⟩|⟨rfl,A⟩)
   ·gi_wp2
    go_roundw
    case rel=>exact .inr (.inr (.inl ⟨rfl,I⟩))
    case measure=>simp[intOf]
   ·gi_wp2
    refine aag (aog rfl _ _ _) rfl ?_;exact⟨⟨_,rfl⟩,.inr ⟨_,⟨[r2,r3,r4],rfl⟩,A⟩⟩
  ·have D:J [r0,r1] (wr.alloc (.cells #[.string ⟨#[105,51,56,54]⟩,.int .u32 1073741827,.bool false,.int .i64 32] 142)):=U _ _ _ none C (aea wr _ none) (λr e=>by cases e);obtain⟨fn,tmps,assign,body,hy,T⟩:=Z [r0,r1] r2 _ D jD;simp only[YS.Nf,r2] at hy
   gi_wp2
   refine T.mono ?_;rintro e W3 (⟨rfl,I,_⟩|⟨rfl,A⟩)
   ·gi_wp2
    go_roundw
    case rel=>exact .inr (.inr (.inr (.inl ⟨rfl,I⟩)))
    case measure=>simp[intOf]
   ·gi_wp2
    refine aag (aog rfl _ _ _) rfl ?_;exact⟨⟨_,rfl⟩,.inr ⟨_,⟨[r3,r4],rfl⟩,A⟩⟩
  ·have D:J [r0,r1,r2] (wr.alloc (.cells #[.string ⟨#[97,114,109,54,52]⟩,.int .u32 3221225655,.bool false,.int .i64 64] 142)):=U _ _ _ none C (aea wr _ none) (λr e=>by cases e);obtain⟨fn,tmps,assign,body,hy,T⟩:=Z [r0,r1,r2] r3 _ D jD;simp only[YS.Nf,r3] at hy
   gi_wp2
   refine T.mono ?_;rintro e W3 (⟨rfl,I,_⟩|⟨rfl,A⟩)
   ·gi_wp2
    go_roundw
    case rel=>exact .inr (.inr (.inr (.inr (.inl ⟨rfl,I⟩))))
    case measure=>simp[intOf]
   ·gi_wp2
    refine aag (aog rfl _ _ _) rfl ?_;exact⟨⟨_,rfl⟩,.inr ⟨_,⟨[r4],rfl⟩,A⟩⟩
  ·have D:J [r0,r1,r2,r3] (wr.alloc (.cells #[.string ⟨#[114,105,115,99,118,54,52]⟩,.int .u32 3221225715,.bool false,.int .i64 64] 142)):=U _ _ _ none C (aea wr _ none) (λr e=>by cases e);obtain⟨fn,tmps,assign,body,hy,T⟩:=Z [r0,r1,r2,r3] r4 _ D jD;simp only[YS.Nf,r4] at hy
   gi_wp2
   refine T.mono ?_;rintro e W3 (⟨rfl,I,_⟩|⟨rfl,A⟩)
   ·gi_wp2
    go_roundw
    case rel=>exact .inr (.inr (.inr (.inr (.inr ⟨rfl,I⟩))))
    case measure=>simp[intOf]
   ·gi_wp2
    refine aag (aog rfl _ _ _) rfl ?_;exact⟨⟨_,rfl⟩,.inr ⟨_,⟨[],rfl⟩,A⟩⟩
  ·gi_wp2
   go_end0;exact⟨⟨_,rfl⟩,.inl ⟨_,rfl,C⟩⟩
theorem ky(F:Fence)(n:Nat)(hf:F.fn 100)(A:F.round=none)(w:World):
 CallsIn F n prog 100 #[] w λe w'=>e=.returned (.func (.func 164) #[] #[])/\w=w':=by
 refine aAa func100 rfl hf ?_ A;simp only[ntmps100,aib,acg,Nat.reduceSub,ald,ale,anf,amc,age]
 gi_wp2
 go_ret;exact⟨rfl,rfl⟩
theorem yG(m:Int)(A:0<=m)(C:m<1073741824):bits .or .u32 m 1073741824=m+1073741824:=by
 rw[u32_or m 1073741824 A jO jO jO];have h:=nat_join30' 1073741824 m.toNat jD jO;rw[show(1073741824:Int).toNat=1073741824 from rfl,h];omega
def Kq(a m:Int):Int:=if a=1 then m+1073741824 else m
theorem vS(a m:Int)(C:0<=m)(A:m<1073741824)(w:World):
 Calls prog 40 #[.int .i64 a,.int .u32 m] w λe w'=>e=.returned (.int .u32 (Kq a m))/\w=w':=by
 by_cases ha:a=1;·go_enter func40,ntmps40;go_wp2;go_ret;exact⟨OL (by rw[yG m C A];unfold Kq;rw[aG ha]),rfl⟩
 ·go_enter func40,ntmps40;go_wp2;go_ret;exact⟨OL (by unfold Kq;rw[aN ha]),rfl⟩
end Go.Proofs.YtclgigmgbebhgaaGreatDoor
