/- TopFirst: part 12: AbiRows AbiFn. -/
import Derived.Shelf.Abstract
import Derived.Shelf.RegionOpen
import Derived.LoopNIn
import Derived.LoopIn
import Derived.Test.YtclgigmgbebhgaaGreatDoorProg
import Derived.Laws.BitsAllLaws
import Derived.WalkSpells
import Derived.Test.YtclgigmgbebhgaaGreatDoorF01
set_option linter.unusedVariables false
set_option linter.unusedSimpArgs false
set_option maxRecDepth 100000
set_option maxHeartbeats 16000000
namespace Go.Proofs.YtclgigmgbebhgaaGreatDoor
open Tryz
open Go Go.Proofs Go.RowKit Go.Shelf
attribute [local go_sem] atb
structure YP where
 n:Int
 name:ByteArray
 token:Int
 bit:Bool
 bits:Int
abbrev YP.M5(x:YP):Array Value:=#[.int .i64 x.n,.agg #[.string x.name,.int .u32 x.token,.bool x.bit,.int .i64 x.bits]]
def r0:YP:=⟨0,⟨#[120,56,54,95,54,52]⟩,3221225534,false,64⟩
def r1:YP:=⟨1,⟨#[120,51,50]⟩,3221225534,true,64⟩
def r2:YP:=⟨2,⟨#[105,51,56,54]⟩,1073741827,false,32⟩
def r3:YP:=⟨3,⟨#[97,114,109,54,52]⟩,3221225655,false,64⟩
def r4:YP:=⟨4,⟨#[114,105,115,99,118,54,52]⟩,3221225715,false,64⟩
def Ga:List YP:=[r0,r1,r2,r3,r4]
theorem qV(F:Fence)(n:Nat)(hf:F.fn 164)(hro:F.round=none)(hn:1<=n)(w:World):
 SeqStopsK F n prog 164 #[] YP.M5 (λ_ _=>True) (λxs=>xs=Ga) (λpre=>pre <+: Ga) 5 w:=λl J Jx W hW Y hJx hY h0=>by
 refine aAc func164 rfl hf ?_ hro;simp only[ntmps164,aic,ai,acg,Nat.reduceAdd,Nat.reduceSub,ale,alf,anc,amb,ahe,ahb]
 gi_wp2_with (first|(refine O4 W 283 ?old ?cells ?c3 ?c4 ?c5 ?c6 ?c7 ?c8 ?c9;(case c3=>rfl);(case c4=>rfl);(case c5=>rfl);(case c6=>kernel_rfl);(case c7=>kernel_rfl);(case c8=>kernel_rfl))|(refine Ox W.heap.size 283 ?cs (0,0) _ ?c3 ?c4 underlying283 ?c5 ?c6 ?c7;(case c3=>exact heap_alloc_last _ _);(case c4=>rfl);(case c5=>rfl);(case c6=>kernel_rfl);simp only[aS,aQ,aP]))
 have i0:∀w,(Instr.index 283 (.agg #[.string ⟨#[120,56,54,95,54,52]⟩,.int .u32 3221225534,.bool false,.int .i64 64,.string ⟨#[120,51,50]⟩,.int .u32 3221225534,.bool true,.int .i64 64,.string ⟨#[105,51,56,54]⟩,.int .u32 1073741827,.bool false,.int .i64 32,.string ⟨#[97,114,109,54,52]⟩,.int .u32 3221225655,.bool false,.int .i64 64,.string ⟨#[114,105,115,99,118,54,52]⟩,.int .u32 3221225715,.bool false,.int .i64 64]) (.int .i64 0)).run prog w=.ok (.agg #[.string ⟨#[120,56,54,95,54,52]⟩,.int .u32 3221225534,.bool false,.int .i64 64]) w:=λ_=>by as_aux_lemma=>kernel_rfl
 have i1:∀w,(Instr.index 283 (.agg #[.string ⟨#[120,56,54,95,54,52]⟩,.int .u32 3221225534,.bool false,.int .i64 64,.string ⟨#[120,51,50]⟩,.int .u32 3221225534,.bool true,.int .i64 64,.string ⟨#[105,51,56,54]⟩,.int .u32 1073741827,.bool false,.int .i64 32,.string ⟨#[97,114,109,54,52]⟩,.int .u32 3221225655,.bool false,.int .i64 64,.string ⟨#[114,105,115,99,118,54,52]⟩,.int .u32 3221225715,.bool false,.int .i64 64]) (.int .i64 1)).run prog w=.ok (.agg #[.string ⟨#[120,51,50]⟩,.int .u32 3221225534,.bool true,.int .i64 64]) w:=λ_=>by as_aux_lemma=>kernel_rfl
 have i2:∀w,(Instr.index 283 (.agg #[.string ⟨#[120,56,54,95,54,52]⟩,.int .u32 3221225534,.bool false,.int .i64 64,.string ⟨#[120,51,50]⟩,.int .u32 3221225534,.bool true,.int .i64 64,.string ⟨#[105,51,56,54]⟩,.int .u32 1073741827,.bool false,.int .i64 32,.string ⟨#[97,114,109,54,52]⟩,.int .u32 3221225655,.bool false,.int .i64 64,.string ⟨#[114,105,115,99,118,54,52]⟩,.int .u32 3221225715,.bool false,.int .i64 64]) (.int .i64 2)).run prog w=.ok (.agg #[.string ⟨#[105,51,56,54]⟩,.int .u32 1073741827,.bool false,.int .i64 32]) w:=λ_=>by as_aux_lemma=>kernel_rfl
 have i3:∀w,(Instr.index 283 (.agg #[.string ⟨#[120,56,54,95,54,52]⟩,.int .u32 3221225534,.bool false,.int .i64 64,.string ⟨#[120,51,50]⟩,.int .u32 3221225534,.bool true,.int .i64 64,.string ⟨#[105,51,56,54]⟩,.int .u32 1073741827,.bool false,.int .i64 32,.string ⟨#[97,114,109,54,52]⟩,.int .u32 3221225655,.bool false,.int .i64 64,.string ⟨#[114,105,115,99,118,54,52]⟩,.int .u32 3221225715,.bool false,.int .i64 64]) (.int .i64 3)).run prog w=.ok (.agg #[.string ⟨#[97,114,109,54,52]⟩,.int .u32 3221225655,.bool false,.int .i64 64]) w:=λ_=>by as_aux_lemma=>kernel_rfl
 have i4:∀w,(Instr.index 283 (.agg #[.string ⟨#[120,56,54,95,54,52]⟩,.int .u32 3221225534,.bool false,.int .i64 64,.string ⟨#[120,51,50]⟩,.int .u32 3221225534,.bool true,.int .i64 64,.string ⟨#[105,51,56,54]⟩,.int .u32 1073741827,.bool false,.int .i64 32,.string ⟨#[97,114,109,54,52]⟩,.int .u32 3221225655,.bool false,.int .i64 64,.string ⟨#[114,105,115,99,118,54,52]⟩,.int .u32 3221225715,.bool false,.int .i64 64]) (.int .i64 4)).run prog w=.ok (.agg #[.string ⟨#[114,105,115,99,118,54,52]⟩,.int .u32 3221225715,.bool false,.int .i64 64]) w:=λ_=>by as_aux_lemma=>kernel_rfl
 have Z:J [] (W.alloc (.cells #[.string ⟨#[120,56,54,95,54,52]⟩,.int .u32 3221225534,.bool false,.int .i64 64,.string ⟨#[120,51,50]⟩,.int .u32 3221225534,.bool true,.int .i64 64,.string ⟨#[105,51,56,54]⟩,.int .u32 1073741827,.bool false,.int .i64 32,.string ⟨#[97,114,109,54,52]⟩,.int .u32 3221225655,.bool false,.int .i64 64,.string ⟨#[114,105,115,99,118,54,52]⟩,.int .u32 3221225715,.bool false,.int .i64 64] 283)):=Y _ _ _ none h0 (aeb W _ none) (λr e=>by cases e)
 gi_loopw [12] (λi wr=>(i=.int .i64 0/\J [] wr)\/(i=.int .i64 1/\J [r0] wr)\/(i=.int .i64 2/\J [r0,r1] wr)\/(i=.int .i64 3/\J [r0,r1,r2] wr)\/(i=.int .i64 4/\J [r0,r1,r2,r3] wr)\/(i=.int .i64 5/\J [r0,r1,r2,r3,r4] wr)) (λi _=>5-(intOf i).toNat)
 case atStart=>exact .inl ⟨rfl,Z⟩
 case round=>
  clear Z h0;rcases hrel with⟨rfl,D⟩|⟨rfl,D⟩|⟨rfl,D⟩|⟨rfl,D⟩|⟨rfl,D⟩|⟨rfl,D⟩
  ·have I:J [] (wr.alloc (.cells #[.string ⟨#[120,56,54,95,54,52]⟩,.int .u32 3221225534,.bool false,.int .i64 64] 142)):=Y _ _ _ none D (aeb wr _ none) (λr e=>by cases e);obtain⟨fn,tmps,assign,body,hy,U⟩:=hY [] r0 _ I jD;simp only[YP.M5,r0] at hy
   gi_wp2
   refine U.mono ?_;rintro e W3 (⟨rfl,T,_⟩|⟨rfl,C⟩)
   ·gi_wp2
    go_roundw
    case rel=>exact .inr (.inl ⟨rfl,T⟩)
    case measure=>simp[intOf]
   ·gi_wp2
    refine aaf (aof rfl _ _ _) rfl ?_;exact⟨⟨_,rfl⟩,.inr ⟨_,⟨[r1,r2,r3,r4],rfl⟩,C⟩⟩
  ·have I:J [r0] (wr.alloc (.cells #[.string ⟨#[120,51,50]⟩,.int .u32 3221225534,.bool true,.int .i64 64] 142)):=Y _ _ _ none D (aeb wr _ none) (λr e=>by cases e);obtain⟨fn,tmps,assign,body,hy,U⟩:=hY [r0] r1 _ I jD;simp only[YP.M5,r1] at hy
   gi_wp2
   refine U.mono ?_;rintro e W3 (⟨rfl,T,_⟩|⟨rfl,C⟩)
   ·gi_wp2
    go_roundw
    case rel=>exact .inr (.inr (.inl ⟨rfl,T⟩))
    case measure=>simp[intOf]
   ·gi_wp2
    refine aaf (aof rfl _ _ _) rfl ?_;exact⟨⟨_,rfl⟩,.inr ⟨_,⟨[r2,r3,r4],rfl⟩,C⟩⟩
  ·have I:J [r0,r1] (wr.alloc (.cells #[.string ⟨#[105,51,56,54]⟩,.int .u32 1073741827,.bool false,.int .i64 32] 142)):=Y _ _ _ none D (aeb wr _ none) (λr e=>by cases e);obtain⟨fn,tmps,assign,body,hy,U⟩:=hY [r0,r1] r2 _ I jD;simp only[YP.M5,r2] at hy
   gi_wp2
   refine U.mono ?_;rintro e W3 (⟨rfl,T,_⟩|⟨rfl,C⟩)
   ·gi_wp2
    go_roundw
    case rel=>exact .inr (.inr (.inr (.inl ⟨rfl,T⟩)))
    case measure=>simp[intOf]
   ·gi_wp2
    refine aaf (aof rfl _ _ _) rfl ?_;exact⟨⟨_,rfl⟩,.inr ⟨_,⟨[r3,r4],rfl⟩,C⟩⟩
  ·have I:J [r0,r1,r2] (wr.alloc (.cells #[.string ⟨#[97,114,109,54,52]⟩,.int .u32 3221225655,.bool false,.int .i64 64] 142)):=Y _ _ _ none D (aeb wr _ none) (λr e=>by cases e);obtain⟨fn,tmps,assign,body,hy,U⟩:=hY [r0,r1,r2] r3 _ I jD;simp only[YP.M5,r3] at hy
   gi_wp2
   refine U.mono ?_;rintro e W3 (⟨rfl,T,_⟩|⟨rfl,C⟩)
   ·gi_wp2
    go_roundw
    case rel=>exact .inr (.inr (.inr (.inr (.inl ⟨rfl,T⟩))))
    case measure=>simp[intOf]
   ·gi_wp2
    refine aaf (aof rfl _ _ _) rfl ?_;exact⟨⟨_,rfl⟩,.inr ⟨_,⟨[r4],rfl⟩,C⟩⟩
  ·have I:J [r0,r1,r2,r3] (wr.alloc (.cells #[.string ⟨#[114,105,115,99,118,54,52]⟩,.int .u32 3221225715,.bool false,.int .i64 64] 142)):=Y _ _ _ none D (aeb wr _ none) (λr e=>by cases e);obtain⟨fn,tmps,assign,body,hy,U⟩:=hY [r0,r1,r2,r3] r4 _ I jD;simp only[YP.M5,r4] at hy
   gi_wp2
   refine U.mono ?_;rintro e W3 (⟨rfl,T,_⟩|⟨rfl,C⟩)
   ·gi_wp2
    go_roundw
    case rel=>exact .inr (.inr (.inr (.inr (.inr ⟨rfl,T⟩))))
    case measure=>simp[intOf]
   ·gi_wp2
    refine aaf (aof rfl _ _ _) rfl ?_;exact⟨⟨_,rfl⟩,.inr ⟨_,⟨[],rfl⟩,C⟩⟩
  ·gi_wp2
   go_end0;exact⟨⟨_,rfl⟩,.inl ⟨_,rfl,D⟩⟩
theorem kL(F:Fence)(n:Nat)(hf:F.fn 100)(C:F.round=none)(w:World):
 CallsIn F n prog 100 #[] w λe w'=>e=.returned (.func (.func 164) #[] #[])/\w=w':=by
 refine aAc func100 rfl hf ?_ C;simp only[ntmps100,aic,acg,Nat.reduceSub,ale,alf,anc,amb,ahe]
 gi_wp2
 go_ret;exact⟨rfl,rfl⟩
theorem yG(m:Int)(C:0<=m)(D:m<1073741824):bits .or .u32 m 1073741824=m+1073741824:=by
 rw[u32_or m 1073741824 C jO jO jO];have h:=nat_join30' 1073741824 m.toNat jD jO;rw[show(1073741824:Int).toNat=1073741824 from rfl,h];omega
def Kg(a m:Int):Int:=if a=1 then m+1073741824 else m
theorem vK(a m:Int)(D:0<=m)(C:m<1073741824)(w:World):
 Calls prog 40 #[.int .i64 a,.int .u32 m] w λe w'=>e=.returned (.int .u32 (Kg a m))/\w=w':=by
 by_cases ha:a=1;·go_enter func40,ntmps40;go_wp2;go_ret;exact⟨Oy (by rw[yG m D C];unfold Kg;rw[aF ha]),rfl⟩
 ·go_enter func40,ntmps40;go_wp2;go_ret;exact⟨Oy (by unfold Kg;rw[aN ha]),rfl⟩
end Go.Proofs.YtclgigmgbebhgaaGreatDoor
