/- TopAsks: part 1: Blk TopAsmP TopGenP TopGenQ TopGenR TopGenS TopGenT TopGenU TopGenV MapG In TopMk TopMk2 TopOp TopLit TopNormP. -/
import Derived.RangeFuncBox
import Derived.RangeFuncNested
import Derived.WalkKit
import Derived.Maps.Keyed
import Derived.Maps.Own
import Derived.RangeFuncBound
import Derived.RangeFuncCalls
import Derived.RangeFuncLeaves
import Derived.OwnWalkIn
import Derived.TacticsInMore
import Derived.Deep.WholeRow
import Derived.Test.YtclgigmgbebhgaaGreatDoorChecked
import Derived.Lib.Hide
import Derived.Laws.OwnMore
import Derived.Deep.RegionHeld3
import Derived.Deep.Cut
import Derived.Deep.DeepCutAuto
import Derived.Deep.LoopGhost
import Derived.Deep.RegionHeldLaw
import Derived.Maps.OwnOps
import Derived.Carry
import Derived.OrdersHeld
import Derived.WalkLawsBesides
set_option linter.unusedVariables false
set_option linter.unusedSimpArgs false
set_option maxRecDepth 100000
set_option maxHeartbeats 16000000
namespace Go.Proofs.YtclgigmgbebhgaaGreatDoor
open Go Go.Proofs
theorem jO{P:Prop}(h:P:=by omega):P:=h
theorem jD{P:Prop}(h:P:=by decide):P:=h
theorem jK{P:Prop}(h:P:=by kernel_rfl):P:=h
theorem jR{P:Prop}(h:P:=by rfl):P:=h
theorem jS{P:Prop}(h:P:=by simp):P:=h
theorem jA{P:Prop}(h:P:=by assumption):P:=h
theorem jX{α:Type}(a:α):∃b,a=b:=⟨a,rfl⟩
theorem jW(i:Nat)(h:(i:Int)+1≤9223372036854775807:=by omega):IntKind.i64.wrap ((i:Int)+1)=(i:Int)+1:=IntWalk.i64_in _ ⟨by omega,h⟩
theorem jZ(i:Nat):(0:Int)≤(i:Int):=by omega
section
variable {P:Program} {ops:Array Oper} {Q:Exit→Act→World→Prop} {md:Region.Mode} {S:World→Prop}
theorem jT(i:Nat)(oi:Oper){v:Value}{fuel:Nat}{listed:Array Bool}{a:Act}{w:World}(h:wpAnyH P md ops Q S fuel (listed.setIfInBounds i true) (a.put oi.dst v) w)(hi:ops[i]? =some oi:=by rfl)(hb:(Region.noSelect ops&&(Region.free md ops listed i&&(Region.ready md ops listed).contains i))=true:=by kernel_rfl)(hw:Region.wanted oi (yielded ops a.tmps)=true:=by rfl)
 (hy:∀w,S w→(execOp a.eval oi).run P w=.ok (.value v) w:=by
   intro w hSw
   try dsimp only at hSw
   try obtain⟨hSw,hSw2⟩:=hSw
   try go_split_ands
   go_simp
   try with_reducible rfl) (hQ:∀c a w,Q (.panic c) (a.put oi.dst v) w→Q (.panic c) a w:=by exact fun _ _ _ h=>h) (hS:S w:=by assumption):wpAnyH P md ops Q S (fuel+1) listed a w:=by
 simp only[Bool.and_eq_true] at hb
 exact wpAnyH_take hi hb.1 hb.2.1 hb.2.2 hQ (Or.inl ⟨hw,hy⟩) hS h
theorem jU(i:Nat)(oi:Oper){fuel:Nat}{listed:Array Bool}{a:Act}{w:World}(h:wpAnyH P md ops Q S fuel (listed.setIfInBounds i true) (a.put oi.dst undef) w)(hi:ops[i]? =some oi:=by rfl)(hb:(Region.noSelect ops&&(Region.free md ops listed i&&(Region.ready md ops listed).contains i))=true:=by kernel_rfl)(hw:Region.wanted oi (yielded ops a.tmps)=false:=by rfl)(hQ:∀c a w,Q (.panic c) (a.put oi.dst undef) w→Q (.panic c) a w:=by exact fun _ _ _ h=>h)(hS:S w:=by assumption):wpAnyH P md ops Q S (fuel+1) listed a w:=by
 simp only[Bool.and_eq_true] at hb
 exact wpAnyH_take hi hb.1 hb.2.1 hb.2.2 hQ (Or.inr ⟨hw,rfl⟩) hS h
end
end Go.Proofs.YtclgigmgbebhgaaGreatDoor
namespace Go.Proofs.YtclgigmgbebhgaaGreatDoor
open Go Go.Proofs Go.RowKit
abbrev aT:=@Lib.hid
abbrev aS:=@List.setIfInBounds_toArray
abbrev aR:=@List.set_cons_succ
abbrev aQ:=@List.set_cons_zero
abbrev aP:=@Nat.le_refl
abbrev aO:=@Nat.le_trans
abbrev aN:=@if_neg
abbrev aM:=@List.getElem?_eq_getElem
abbrev aL:=@List.getElem?_cons_zero
abbrev aJ:=@IntWalk.i64_in
abbrev aH:=@if_pos
abbrev aG:=@Below.refl
abbrev aF:=@List.getElem?_cons_succ
abbrev ay:=@List.length_append
abbrev ax:=@congrArg
abbrev au:=@Option.some.inj
abbrev aq:=@List.getElem?_eq_some_iff
abbrev ak:=@List.getElem?_toArray
abbrev aj:=@List.length_cons
abbrev ai:=@World.size_alloc
abbrev ah:=@List.mem_map
abbrev ag:=@List.mem_of_getElem?
abbrev af:=@beq_eq_false_iff_ne
abbrev ae:=@AllReadyH.cons
abbrev aaa:=@List.mem_singleton
abbrev aab:=@Array.getElem?_eq_some_iff
abbrev aac:=@List.length_map
abbrev aad:=@AllReadyH.nil
abbrev aae:=@List.getElem?_append_right
abbrev aaf:=@bodyPost_ret
abbrev aag:=@wpAnyH_ready
abbrev aba:=@List.append_assoc
abbrev abb:=@Nat.zero_le
abbrev abc:=@List.getElem?_append_left
abbrev abd:=@List.take_of_length_le
abbrev abe:=@List.mem_append
abbrev abf:=@List.mem_cons
abbrev abg:=@List.length_take
abbrev aca:=@List.flatMap_append
abbrev acb:=@List.flatMap_cons
abbrev acd:=@Nat.le_of_lt
abbrev ace:=@decide_eq_true
abbrev acf:=@Nat.lt_of_lt_of_le
abbrev acg:=@List.length_nil
abbrev ada:=@List.getElem?_map
abbrev adb:=@List.map_append
abbrev ade:=@List.append_nil
abbrev adf:=@Nat.zero_add
abbrev adg:=@decide_eq_true_eq
abbrev aea:=@wpList_append_own
abbrev aeb:=@World.grownBy_alloc
abbrev aec:=@Nat.add_zero
abbrev aed:=@List.map_cons
abbrev aee:=@decide_eq_false
abbrev aef:=@List.getD_eq_getElem?_getD
abbrev aeg:=@Bool.and_eq_true
abbrev afa:=@List.pairwise_map
abbrev afb:=@List.take_add_one
abbrev afc:=@List.pairwise_append
abbrev afd:=@Below.heap_setCell
abbrev afe:=@List.length_range
abbrev aff:=@List.mem_cons_of_mem
abbrev afg:=@World.block_lt_of_cell?
abbrev aga:=@Array.getElem?_toList
abbrev agb:=@List.ext_getElem?
abbrev agc:=@wp_region_held_drew
abbrev agd:=@List.mem_cons_self
abbrev age:=@List.pairwise_cons
abbrev agf:=@World.cell?_setCell_other
abbrev aha:=@ByteArray.toList_eq
abbrev ahb:=@List.cons_append
abbrev ahc:=@beq_iff_eq
abbrev ahd:=@List.mem_iff_getElem
abbrev ahe:=@List.nil_append
abbrev ahf:=@of_decide_eq_true
abbrev ahg:=@List.getElem?_eq_none
abbrev aia:=@List.length_drop
abbrev aib:=@List.mem_range
abbrev aic:=@List.size_toArray
abbrev aid:=@MapKept.run_getObj_map
abbrev aie:=@Array.getElem?_setIfInBounds_ne
abbrev aif:=@List.getElem?_take
abbrev aja:=@Array.getD_eq_getD_getElem?
abbrev ajb:=@callsIn_wide
abbrev ajc:=@Hid.out
abbrev ajd:=@KeepsOthers.setCell
abbrev aje:=@List.all_eq_true
abbrev ajf:=@List.sum_cons
abbrev ajg:=@List.append_cancel_left
abbrev aka:=@Option.some.injEq
abbrev akb:=@List.map_map
abbrev akc:=@wpAnyH_done
abbrev akd:=@run_underlying
abbrev ake:=@Nat.not_lt_zero
abbrev akf:=@List.not_mem_nil
abbrev akg:=@List.any_eq_true
abbrev ala:=@Array.getElem?_modify
abbrev alb:=@List.length_eq_zero_iff
abbrev alc:=@Nat.sub_self
abbrev ald:=@List.mem_of_mem_take
abbrev ale:=@Bool.eq_iff_iff
abbrev alf:=@Array.replicate_succ
abbrev alg:=@Array.replicate_zero
abbrev ama:=@Nat.mod_eq_of_lt
abbrev amb:=@List.pairwise_iff_getElem
abbrev amc:=@List.append_toArray
abbrev amd:=@wp_region_noPanic
abbrev ame:=@NoPanic.normal
abbrev amf:=@List.range_succ
abbrev amg:=@Nat.lt_succ_self
abbrev ana:=@Ne.symm
abbrev anb:=@List.find?_cons_of_neg
abbrev anc:=@List.drop_of_length_le
abbrev ane:=@World.ownsRow_nil
abbrev anf:=@List.push_toArray
abbrev ang:=@Array.length_toList
abbrev aoa:=@List.getElem?_range
abbrev aob:=@Array.getElem?_eq_getElem
abbrev aoc:=@List.take_append_drop
abbrev aod:=@List.length_singleton
abbrev aoe:=@List.getLast?_eq_some_getLast
abbrev aof:=@List.eq_nil_of_length_eq_zero
abbrev aog:=@List.filter_cons
abbrev apa:=@results_none
abbrev apb:=@run_makeMap
abbrev apc:=@List.mem_of_mem_drop
abbrev apd:=@List.dropLast_concat_getLast
abbrev ape:=@List.pairwise_singleton
abbrev apf:=@decide_eq_false_iff_not
abbrev apg:=@List.mem_filter
abbrev aqa:=@List.dropWhile_cons
abbrev aqb:=@List.find?_cons_of_pos
abbrev aqc:=@Nat.mul_one
abbrev aqd:=@Int.tdiv_eq_ediv_of_nonneg
abbrev aqe:=@List.mem_flatMap
abbrev aqf:=@Nat.succ_ne_zero
abbrev aqg:=@Value.string.inj
abbrev ara:=@of_decide_eq_false
abbrev arb:=@Nat.add_mul
abbrev arc:=@World.alloc_heap_new
abbrev ard:=@List.map_nil
abbrev arf:=@List.getLast?_append
abbrev asa:=@Prod.mk.injEq
abbrev asb:=@Nat.lt_irrefl
abbrev asc:=@List.map_congr_left
abbrev ase:=@List.flatMap_nil
abbrev asf:=@WalkArith.wf_i64
abbrev asg:=@Bool.or_eq_true
abbrev ata:=@UInt8.lt_iff_toNat_lt
abbrev atb:=@Oper.semAt_some
abbrev atc:=@List.length_filter_le
abbrev atd:=@IntKind.wrap_u8
abbrev ate:=@Array.size_modify
abbrev atf:=@List.nodup_append
abbrev atg:=@Int.toNat_natCast
abbrev aua:=@List.drop_eq_getElem_cons
abbrev aub:=@Nat.mul_le_mul_right
abbrev auc:=@Array.size_replicate
abbrev aud:=@List.drop_zero
abbrev aue:=@IntWalk.u64_in
abbrev auf:=@or_false
abbrev aug:=@List.mem_reverse
abbrev ava:=@List.length_reverse
abbrev avb:=@World.putObj_heap_other
abbrev avc:=@Option.map_some
abbrev avd:=@Int.natCast_add
abbrev ave:=@Nat.mod_lt
abbrev avf:=@List.getElem?_drop
abbrev avg:=@MapKept.run_setObj_map
abbrev awa:=@List.dropWhile_sublist
abbrev awb:=@wpAnyH_take
abbrev awc:=@List.find?_append
abbrev awd:=@Result.andThen_ok
abbrev awe:=@List.reverse_cons
abbrev awf:=@IntWalk.u32_in
abbrev awg:=@List.Perm.refl
abbrev axa:=@ByteArray.size_append
abbrev axb:=@Nat.succ_le_succ
abbrev axc:=@IntKind.wrap_u32
abbrev axd:=@List.reverse_reverse
abbrev axe:=@List.getLast_mem
abbrev axf:=@decide_eq_decide
abbrev axg:=@run_takeDeferred
abbrev aya:=@Nat.add_assoc
abbrev ayb:=@List.length_pos_iff
abbrev ayc:=@callsIn_of_wp_marks
abbrev ayd:=@List.nodup_cons
abbrev aye:=@Obj.cells.injEq
abbrev ayf:=@List.filter_append
abbrev ayg:=@List.find?_eq_none
abbrev aza:=@Nat.lt_or_gt_of_ne
abbrev azb:=@Int.cast_ofNat_Int
abbrev azc:=@Nat.lt_of_le_of_lt
abbrev azd:=@getElem!_pos
abbrev aze:=@BitVec.toNat_ofNat
abbrev azf:=@bne_iff_ne
abbrev azg:=@DataW.trod_int
abbrev aAa:=@Nat.le_succ
abbrev aAb:=@OwnFrom.and
abbrev aAc:=@callsIn_of_wp
end Go.Proofs.YtclgigmgbebhgaaGreatDoor
namespace Go.Proofs.YtclgigmgbebhgaaGreatDoor
open Tryz
open Go Go.Proofs Go.RowKit
variable {z:List Value} {a g h j:Value} {W W':World}
def Z8(W:World)(B:Nat)(t:TypeId)(cs:Array Value):Prop:=W.heap[B]? =some (.cells cs t (0,0))
theorem Z8.lt {B:Nat}{t:TypeId}{cs:Array Value}(h:Z8 W B t cs):B<W.heap.size:=(aab.1 h).1
theorem Z8.cell {B:Nat}{t:TypeId}{cs:Array Value}(h:Z8 W B t cs)(j:Nat):W.cell? ⟨B,j,none⟩=cs[j]? :=by simp[World.cell?,show W.heap[B]? =_ from h]
theorem Z8.frozen {B:Nat}{t:TypeId}{cs:Array Value}(h:Z8 W B t cs)(j:Nat):W.frozen? ⟨B,j,none⟩=false:=by simp[World.frozen?,show W.heap[B]? =_ from h]
theorem Z8.new(W:World)(t:TypeId)(cs:Array Value):Z8 (W.alloc (.cells cs t)) W.heap.size t cs:=arc W _
theorem Z8.kept {row:Option Nat}{B:Nat}{t:TypeId}{cs:Array Value}(h:Z8 W B t cs)(C:W.grownBy W' row)(A:some B≠row):Z8 W' B t cs:=(C.block B h.lt A).trans h
theorem Z8.alloc {B:Nat}{t:TypeId}{cs:Array Value}(h:Z8 W B t cs)(o:Obj):Z8 (W.alloc o) B t cs:=h.kept (aeb W o none) jS
theorem Z8.below{n B:Nat} {t:TypeId}{cs:Array Value}(h:Z8 W B t cs)(hb:Below n W W')(A:B<n):Z8 W' B t cs:=(hb.block B A).trans h
theorem Z8.set {B:Nat}{t:TypeId}{cs:Array Value}(j:Nat)(v:Value)(h:Z8 W B t cs):Z8 (W.setCell ⟨B,j,none⟩ v) B t (cs.setIfInBounds j v):=by
 obtain⟨A,hk⟩:=aab.1 h;show(W.heap.modify B _)[B]? =_;rw[aob (by rw[ate];exact A),Array.getElem_modify_self,hk];rfl
theorem Z8.other {B B':Nat}{t:TypeId}{cs:Array Value}(h:Z8 W B t cs)(A:B≠B')(j:Nat)(u:Value):Z8 (W.setCell ⟨B',j,none⟩ u) B t cs:=(afd W ⟨B',j,none⟩ u B A).trans h
theorem Z8.put {B l:Nat}{t:TypeId}{cs:Array Value}(h:Z8 W B t cs)(o:Obj)(A:B≠l):Z8 (W.putObj l o) B t cs:=by
 show(W.heap.setIfInBounds l o)[B]? =_;rw[aie (ana A)];exact h
theorem Rh{β:Type}(B:Nat)(t:TypeId)(f:β->Array Value):Own (λs W=>Z8 W B t (f s)):=λs X Y row hs C A=>
 hs.kept C (λD=>by obtain⟨o,ho,hc⟩:=A B D.symm;rw[show X.heap[B]? =_ from hs] at ho;cases ho;cases hc)
theorem Z8.q2 {B:Nat}{t:TypeId}{b:Value} (A:Z8 W B t (List.toArray (a::b::z))):W.cell? ⟨B,0,none⟩=some a/\W.cell? ⟨B,1,none⟩=some b:=by simp[A.cell]
theorem Z8.q3 {B:Nat}{t:TypeId}{b c:Value} (A:Z8 W B t (List.toArray (a::b::c::z))):W.cell? ⟨B,0,none⟩=some a/\W.cell? ⟨B,1,none⟩=some b/\W.cell? ⟨B,2,none⟩=some c:=by simp[A.cell]
theorem Z8.q4 {B:Nat}{t:TypeId}{b c d:Value} (A:Z8 W B t (List.toArray (a::b::c::d::z))):W.cell? ⟨B,0,none⟩=some a/\W.cell? ⟨B,1,none⟩=some b/\W.cell? ⟨B,2,none⟩=some c/\W.cell? ⟨B,3,none⟩=some d:=by simp[A.cell]
theorem Z8.q5 {B:Nat}{t:TypeId}{b c d e:Value} (A:Z8 W B t (List.toArray (a::b::c::d::e::z))):W.cell? ⟨B,0,none⟩=some a/\W.cell? ⟨B,1,none⟩=some b/\W.cell? ⟨B,2,none⟩=some c/\W.cell? ⟨B,3,none⟩=some d/\W.cell? ⟨B,4,none⟩=some e:=by simp[A.cell]
theorem Z8.q6 {B:Nat}{t:TypeId}{b c d e f:Value} (A:Z8 W B t (List.toArray (a::b::c::d::e::f::z))):W.cell? ⟨B,0,none⟩=some a/\W.cell? ⟨B,1,none⟩=some b/\W.cell? ⟨B,2,none⟩=some c/\W.cell? ⟨B,3,none⟩=some d/\W.cell? ⟨B,4,none⟩=some e/\W.cell? ⟨B,5,none⟩=some f:=by simp[A.cell]
theorem Z8.q7 {B:Nat}{t:TypeId}{b c d e f:Value} (A:Z8 W B t (List.toArray (a::b::c::d::e::f::g::z))):W.cell? ⟨B,0,none⟩=some a/\W.cell? ⟨B,1,none⟩=some b/\W.cell? ⟨B,2,none⟩=some c/\W.cell? ⟨B,3,none⟩=some d/\W.cell? ⟨B,4,none⟩=some e/\W.cell? ⟨B,5,none⟩=some f/\W.cell? ⟨B,6,none⟩=some g:=by simp[A.cell]
theorem Z8.q8 {B:Nat}{t:TypeId}{b c d e f:Value} (A:Z8 W B t (List.toArray (a::b::c::d::e::f::g::h::z))):W.cell? ⟨B,0,none⟩=some a/\W.cell? ⟨B,1,none⟩=some b/\W.cell? ⟨B,2,none⟩=some c/\W.cell? ⟨B,3,none⟩=some d/\W.cell? ⟨B,4,none⟩=some e/\W.cell? ⟨B,5,none⟩=some f/\W.cell? ⟨B,6,none⟩=some g/\W.cell? ⟨B,7,none⟩=some h:=by simp[A.cell]
theorem Z8.q9 {B:Nat}{t:TypeId}{b c d e f i:Value} (A:Z8 W B t (List.toArray (a::b::c::d::e::f::g::h::i::z))):W.cell? ⟨B,0,none⟩=some a/\W.cell? ⟨B,1,none⟩=some b/\W.cell? ⟨B,2,none⟩=some c/\W.cell? ⟨B,3,none⟩=some d/\W.cell? ⟨B,4,none⟩=some e/\W.cell? ⟨B,5,none⟩=some f/\W.cell? ⟨B,6,none⟩=some g/\W.cell? ⟨B,7,none⟩=some h/\W.cell? ⟨B,8,none⟩=some i:=by simp[A.cell]
theorem Z8.q10 {B:Nat}{t:TypeId}{b c d e f i:Value} (A:Z8 W B t (List.toArray (a::b::c::d::e::f::g::h::i::j::z))):W.cell? ⟨B,0,none⟩=some a/\W.cell? ⟨B,1,none⟩=some b/\W.cell? ⟨B,2,none⟩=some c/\W.cell? ⟨B,3,none⟩=some d/\W.cell? ⟨B,4,none⟩=some e/\W.cell? ⟨B,5,none⟩=some f/\W.cell? ⟨B,6,none⟩=some g/\W.cell? ⟨B,7,none⟩=some h/\W.cell? ⟨B,8,none⟩=some i/\W.cell? ⟨B,9,none⟩=some j:=by simp[A.cell]
theorem Z8.q11 {B:Nat}{t:TypeId}{b c d e f i k:Value} (A:Z8 W B t (List.toArray (a::b::c::d::e::f::g::h::i::j::k::z))):W.cell? ⟨B,0,none⟩=some a/\W.cell? ⟨B,1,none⟩=some b/\W.cell? ⟨B,2,none⟩=some c/\W.cell? ⟨B,3,none⟩=some d/\W.cell? ⟨B,4,none⟩=some e/\W.cell? ⟨B,5,none⟩=some f/\W.cell? ⟨B,6,none⟩=some g/\W.cell? ⟨B,7,none⟩=some h/\W.cell? ⟨B,8,none⟩=some i/\W.cell? ⟨B,9,none⟩=some j/\W.cell? ⟨B,10,none⟩=some k:=by simp[A.cell]
theorem Z8.e0 {B:Nat}{t:TypeId}(A:Z8 W B t (List.toArray (a::z))):W.cell? ⟨B,0,none⟩=some a:=by simp[A.cell]
theorem Z8.e1 {B:Nat}{t:TypeId}{b:Value} (A:Z8 W B t (List.toArray (a::b::z))):W.cell? ⟨B,1,none⟩=some b:=by simp[A.cell]
theorem Z8.e2 {B:Nat}{t:TypeId}{b c:Value} (A:Z8 W B t (List.toArray (a::b::c::z))):W.cell? ⟨B,2,none⟩=some c:=by simp[A.cell]
theorem Z8.e3 {B:Nat}{t:TypeId}{b c d:Value} (A:Z8 W B t (List.toArray (a::b::c::d::z))):W.cell? ⟨B,3,none⟩=some d:=by simp[A.cell]
theorem Z8.e4 {B:Nat}{t:TypeId}{b c d e:Value} (A:Z8 W B t (List.toArray (a::b::c::d::e::z))):W.cell? ⟨B,4,none⟩=some e:=by simp[A.cell]
theorem Z8.e5 {B:Nat}{t:TypeId}{b c d e f:Value} (A:Z8 W B t (List.toArray (a::b::c::d::e::f::z))):W.cell? ⟨B,5,none⟩=some f:=by simp[A.cell]
theorem Z8.e9 {B:Nat}{t:TypeId}{b c d e f i:Value} (A:Z8 W B t (List.toArray (a::b::c::d::e::f::g::h::i::j::z))):W.cell? ⟨B,9,none⟩=some j:=by simp[A.cell]
end Go.Proofs.YtclgigmgbebhgaaGreatDoor
namespace Go.Proofs.YtclgigmgbebhgaaGreatDoor
open Tryz
open Go Go.Proofs
variable {wide:Bool} {m t:Int} {K:Int->Prop} {p a h:Nat} {w Bk:Nat->Nat}
structure Z9 where
 mark:Int
 (code k:Nat)
 (t f:Int)
structure ZL where
 (code jt jf k:Nat)
def YW(c:Nat):Bool:=c == 0x15 || c == 0x25 || c == 0x35 || c == 0x45
def YI(c a k:Nat):Bool:=if c=0x15 then a == k else if c=0x25 then decide (k<a) else if c=0x35 then decide (k<=a) else(a &&& k) != 0
def U9(m:Int):List Z9->List Z9
 |[]=>[]
 |y::ys=>if y.mark=m then ys else U9 m ys
theorem E4(m:Int):∀l,(U9 m l).length<=l.length
 |[]=>aP _
 |y::ys=>by
  unfold U9;split;·simp
  ·exact aO (E4 m ys) jS
def goto(m:Int)(l:List Z9):List Z9:=if m=0 then l else U9 m l
theorem E3(m:Int)(l:List Z9):(goto m l).length<=l.length:=by
 unfold goto;split;·exact aP _
 ·exact E4 m l
def Wn(w:Nat->Nat)(l:List Z9)(a:Nat):Option Nat:=
 match l with
 |[]=>none
 |x::r=>
  if x.mark≠0 then Wn w r a
  else if x.code=0x20 then Wn w r (w x.k)
  else if x.code=0x54 then Wn w r (a &&& x.k)
  else if x.code=0x05 then Wn w (goto x.t r) a
  else if x.code=0x06 then some x.k
  else if YW x.code=true then Wn w (goto (if YI x.code a x.k=true then x.t else x.f) r) a
  else none
termination_by l.length
decreasing_by
 all_goals simp
 all_goals exact Nat.lt_succ_of_le (E3 _ _)
def Y6(w:Nat->Nat)(l:List ZL)(a:Nat):Option Nat:=
 match l with
 |[]=>none
 |i::r=>
  if i.code=0x20 then Y6 w r (w i.k)
  else if i.code=0x54 then Y6 w r (a &&& i.k)
  else if i.code=0x05 then Y6 w (r.drop i.k) a
  else if i.code=0x06 then some i.k
  else if YW i.code=true then Y6 w (r.drop (if YI i.code a i.k=true then i.jt else i.jf)) a
  else none
termination_by l.length
decreasing_by
 all_goals simp
 all_goals omega
theorem mJ(w:Nat->Nat)(a:Nat):Wn w [] a=none:=by unfold Wn;rfl
theorem ud {x:Z9}(h:x.mark≠0)(r:List Z9)(a:Nat):Wn w (x::r) a=Wn w r a:=by
 conv=>lhs;unfold Wn
 rw[aH h]
theorem Rf {x:Z9}(h:x.mark=0)(r:List Z9)(a:Nat):Wn w (x::r) a=(if x.code=0x20 then Wn w r (w x.k)
 else if x.code=0x54 then Wn w r (a &&& x.k)
 else if x.code=0x05 then Wn w (goto x.t r) a
 else if x.code=0x06 then some x.k
 else if YW x.code=true then Wn w (goto (if YI x.code a x.k=true then x.t else x.f) r) a
 else none):=by
 conv=>lhs;unfold Wn
 rw[aN (λe=>e h)]
theorem Jm(w:Nat->Nat)(a:Nat):Y6 w [] a=none:=by unfold Y6;rfl
theorem Wk(w:Nat->Nat)(i:ZL)(r:List ZL)(a:Nat):Y6 w (i::r) a=(if i.code=0x20 then Y6 w r (w i.k)
 else if i.code=0x54 then Y6 w r (a &&& i.k)
 else if i.code=0x05 then Y6 w (r.drop i.k) a
 else if i.code=0x06 then some i.k
 else if YW i.code=true then Y6 w (r.drop (if YI i.code a i.k=true then i.jt else i.jf)) a
 else none):=by
 conv=>lhs;unfold Y6
def marks(l:List Z9):List Int:=(l.filter (λx=>x.mark != 0)).map (·.mark)
def Z6(l:List Z9):List Z9:=l.filter (λx=>x.mark == 0)
theorem W9{x:Z9}(h:x.mark≠0)(r:List Z9):Z6 (x::r)=Z6 r:=by
 unfold Z6;rw[aog,aN (by simpa using h)]
theorem YC{x:Z9}(h:x.mark=0)(r:List Z9):Z6 (x::r)=x::Z6 r:=by
 unfold Z6;rw[aog,aH (by simpa using h)]
theorem Yl(a b:List Z9):Z6 (a++b)=Z6 a++Z6 b:=by unfold Z6;rw[ayf]
theorem WZ(a b:List Z9):marks (a++b)=marks a++marks b:=by unfold marks;rw[ayf,adb]
theorem Zq{x:Z9}(h:x.mark≠0)(r:List Z9):marks (x::r)=x.mark::marks r:=by
 unfold marks;rw[aog,aH (by simpa using h)];rfl
theorem Y2{x:Z9}(h:x.mark=0)(r:List Z9):marks (x::r)=marks r:=by
 unfold marks;rw[aog,aN (by simp[h])]
def ZT:List Z9->Prop
 |[]=>True
 |x::r=>ZT r/\(if x.mark≠0 then x.mark∉marks r else(x.t≠0->x.t∈marks r)/\(x.f≠0->x.f∈marks r))
theorem ZT.tail:∀(p:List Z9) {s:List Z9},ZT (p++s)->ZT s
 |[],_,h=>h
 |_::p,_,h=>ZT.tail p h.1
theorem OX:∀(p:List Z9) (m:Int) (s:List Z9),m≠0->m∉marks p->U9 m (p++s)=U9 m s
 |[],_,_,_,_=>rfl
 |x::p,m,s,h0,h=>by
  have hx:x.mark≠m:=by
   intro e;by_cases hz:x.mark=0;·exact h0 (e.symm.trans hz)
   ·rw[Zq hz] at h;exact h (by rw[e];simp)
  rw[ahb];show(if x.mark=m then _ else _)=_;rw[aN hx];refine OX p m s h0 (λe=>h ?_);by_cases hz:x.mark=0;·rw[Y2 hz];exact e
  ·rw[Zq hz];exact aff _ e
theorem ZT.fresh:∀(p:List Z9) {s:List Z9} {m:Int},ZT (p++s)->m∈marks s->m∉marks p
 |[],_,_,_,_=>by simp[marks]
 |x::p,s,m,h,hm=>by
  have C:=ZT.fresh p h.1 hm;by_cases hz:x.mark=0;·rw[Y2 hz];exact C
  ·rw[Zq hz];intro e;rcases abf.1 e with rfl|e
   ·have A:=h.2;rw[aH hz] at A;have A:x.mark∉marks (p++s):=A;rw[WZ] at A;exact A (abe.2 (.inr hm))
   ·exact C e
def place(l:List Z9)(m:Int):Nat:=(Z6 l).length-(Z6 (U9 m l)).length
def target(l:List Z9)(n:Nat)(m:Int):Nat:=if m=0 then n+1 else place l m
def encI(x:Z9)(ZV far:Bool)(p y z:Nat):List ZL:=
 if ZV=true then []
 else if far=true then [⟨x.code,0,1,x.k⟩,⟨0x05,0,0,y-(p+1)-1⟩,⟨0x05,0,0,z-(p+2)-1⟩]
 else if x.code=0x05 then [⟨x.code,0,0,y-p-1⟩]
 else if YW x.code=true then [⟨x.code,y-p-1,z-p-1,x.k⟩]
 else [⟨x.code,0,0,x.k⟩]
structure U2(l:List Z9)(out:List ZL)(at_:Nat->Nat)(ZV far:Nat->Bool):Prop where
 code:∀x∈Z6 l,x.code=0x20\/x.code=0x54\/x.code=0x05\/x.code=0x06\/YW x.code=true
 next:∀(n:Nat) (x:Z9),(Z6 l)[n]? =some x->at_ (n+1)=at_ n+(encI x (ZV n) (far n) (at_ n) (at_ (target l n x.t)) (at_ (target l n x.f))).length
 write:∀(n:Nat) (x:Z9),(Z6 l)[n]? =some x->out.drop (at_ n)=encI x (ZV n) (far n) (at_ n) (at_ (target l n x.t)) (at_ (target l n x.f))++out.drop (at_ (n+1))
 last:out.drop (at_ (Z6 l).length)=[]
 branch:∀(n:Nat) (x:Z9),(Z6 l)[n]? =some x->far n=true->YW x.code=true
 plain:∀(n:Nat) (x:Z9),(Z6 l)[n]? =some x->x.code=0x20\/x.code=0x54->x.t=0
 yes:∀(n:Nat) (x:Z9),(Z6 l)[n]? =some x->ZV n=false->x.code≠0x06->ZV (target l n x.t)=false
 no:∀(n:Nat) (x:Z9),(Z6 l)[n]? =some x->ZV n=false->YW x.code=true->ZV (target l n x.f)=false
theorem U2.mono{l:List Z9}{out:List ZL}{at_:Nat->Nat}{ZV far:Nat->Bool}(h:U2 l out at_ ZV far):∀(d n:Nat),n+d<=(Z6 l).length->at_ n<=at_ (n+d)
 |0,n,_=>aP _
 |d+1,n,hn=>by have A:=h.mono d n jO;obtain⟨x,hx⟩:∃x,(Z6 l)[n+d]? =some x:=⟨_,aM jO⟩;have:=h.next _ _ hx;rw[<-aya,this];omega
theorem E2{p:List Z9}{x:Z9}{r:List Z9}(hf:ZT (p++x::r)) (hm:m≠0)(h:m∈marks r):place (p++x::r) m=(Z6 (p++x::r)).length-(Z6 (U9 m r)).length:=by
 unfold place;have e:p++x::r=(p++[x])++r:=jS;have A:m∉marks (p++[x]):=ZT.fresh (p++[x]) (by rw[<-e];exact hf) h;rw[e,OX (p++[x]) m r hm A]
theorem Lz:∀(l:List Z9) (m:Int),(Z6 (U9 m l)).length<=(Z6 l).length
 |[],_=>aP _
 |y::ys,m=>by
  have A:=Lz ys m;have h:(Z6 ys).length<=(Z6 (y::ys)).length:=by
   by_cases hz:y.mark=0;·rw[YC hz];simp
   ·rw[W9 hz];exact aP _
  unfold U9;split;·exact h
  ·exact aO A h
theorem R2:∀(l:List Z9) (m:Int),m≠0->m∈marks l->∃p,l=p++U9 m l
 |[],m,_,h=>by simp[marks] at h
 |y::ys,m,h0,h=>by
  unfold U9;by_cases e:y.mark=m;·rw[aH e];exact⟨[y],rfl⟩
  ·rw[aN e]
   have A:m∈marks ys:=by
    by_cases hz:y.mark=0;·rwa [Y2 hz] at h
    ·rw[Zq hz] at h;rcases abf.1 h with rfl|h;·exact absurd rfl e
     ·exact h
   obtain⟨p,hp⟩:=R2 ys m h0 A;exact⟨y::p,by rw[ahb,<-hp]⟩
theorem Vv{p:List Z9}{x:Z9}{r:List Z9}(hf:ZT (p++x::r))(hx:x.mark=0) (h:m≠0->m∈marks r):
 ∃q,p++x::r=q++goto m r/\target (p++x::r) (Z6 p).length m=(Z6 (p++x::r)).length-(Z6 (goto m r)).length/\(Z6 p).length+1<=target (p++x::r) (Z6 p).length m/\(Z6 (goto m r)).length<=(Z6 (p++x::r)).length:=by
 have hN:(Z6 (p++x::r)).length=(Z6 p).length+1+(Z6 r).length:=by rw[Yl,YC hx,ay,aj];omega
 unfold goto target;by_cases A:m=0;·rw[aH A,aH A];exact⟨p++[x],jS,jO,aP _,jO⟩
 ·rw[aN A,aN A];have hm:=h A;obtain⟨q,C⟩:=R2 r m A hm;have hs:=Lz r m;refine⟨p++x::q,by rw[aba,ahb,<-C],E2 hf A hm,?_,jO⟩;rw[E2 hf A hm];omega
theorem ZT.here:∀(p:List Z9) {x:Z9} {r:List Z9},ZT (p++x::r)->x.mark=0->(x.t≠0->x.t∈marks r)/\(x.f≠0->x.f∈marks r)
 |[],x,r,h,hx=>by have:=h.2;rwa [aN (λe=>e hx)] at this
 |_::p,x,r,h,hx=>ZT.here p h.1 hx
theorem eG{p:List Z9}{x:Z9}{r:List Z9}(hx:x.mark=0):(Z6 (p++x::r))[(Z6 p).length]? =some x:=by
 rw[Yl,YC hx,aae (aP _),alc];rfl
theorem Ps{c:Nat}(h:YW c=true):c≠0x20/\c≠0x54/\c≠0x05/\c≠0x06:=by
 unfold YW at h;simp only[asg,ahc] at h;omega
theorem Vz{α:Type}{l:List α} {i:α}{rest:List α}(h:l.drop p=i::rest):l.drop (p+1)=rest:=by
 have:=ax (List.drop 1) h;rw[List.drop_drop] at this;exact this
theorem NN{α:Type}{l:List α} {i:α}{rest:List α}(h:l.drop p=i::rest)(d:Nat):rest.drop d=l.drop (p+1+d):=by
 rw[<-Vz h,List.drop_drop]
theorem NM {out:List ZL}{jt jf k:Nat}{rest:List ZL}(h:out.drop p=⟨0x05,jt,jf,k⟩::rest):Y6 w (out.drop p) a=Y6 w (out.drop (p+1+k)) a:=by
 rw[h,Wk,<-NN h];rfl
theorem zJ {out:List ZL} {i:ZL}{rest:List ZL}(h:out.drop p=i::rest)(hb:YW i.code=true):Y6 w (out.drop p) a=Y6 w (out.drop (p+1+(if YI i.code a i.k=true then i.jt else i.jf))) a:=by
 have hc:=Ps hb;rw[h,Wk,aN hc.1,aN hc.2.1,aN hc.2.2.1,aN hc.2.2.2,aH hb,NN h]
theorem x9 {out:List ZL} {i:ZL}{rest:List ZL}(h:out.drop p=i::rest)(hc:i.code=0x20):Y6 w (out.drop p) a=Y6 w (out.drop (p+1)) (w i.k):=by
 rw[h,Wk,aH hc,Vz h]
theorem ub {out:List ZL} {i:ZL}{rest:List ZL}(h:out.drop p=i::rest)(hc:i.code=0x54):Y6 w (out.drop p) a=Y6 w (out.drop (p+1)) (a &&& i.k):=by
 rw[h,Wk,aN jO,aH hc,Vz h]
theorem tZ {out:List ZL} {i:ZL}{rest:List ZL}(h:out.drop p=i::rest)(hc:i.code=0x06):Y6 w (out.drop p) a=some i.k:=by
 rw[h,Wk,aN jO,aN jO,aN jO,aH hc]
theorem LR{w:Nat->Nat}{l:List Z9}{out:List ZL}{at_:Nat->Nat}{ZV far:Nat->Bool}(hf:ZT l)(h:U2 l out at_ ZV far):
 ∀(k:Nat) (s p:List Z9) (a:Nat),s.length<=k->l=p++s->ZV (Z6 p).length=false->Y6 w (out.drop (at_ (Z6 p).length)) a=Wn w s a
 |k,[],p,a,_,e,_=>by rw[ade] at e;subst e;rw[h.last,Jm,mJ]
 |0,x::r,p,a,hk,_,_=>by simp at hk
 |k+1,x::r,p,a,hk,e,hu=>by
  simp only[aj] at hk;by_cases hx:x.mark=0
  ·subst e;have C:=eG (p:=p) (r:=r) hx;obtain⟨Y,ff⟩:=ZT.here p hf hx
   have hN:(Z6 (p++x::r)).length=(Z6 p).length+1+(Z6 r).length:=by rw[Yl,YC hx,ay,aj];omega
   have hw:=h.write _ _ C;have hn:=h.next _ _ C;have go:∀m,(m≠0->m∈marks r)->ZV (target (p++x::r) (Z6 p).length m)=false->∀a,Y6 w (out.drop (at_ (target (p++x::r) (Z6 p).length m))) a=Wn w (goto m r) a:=by
    intro m hm T a;obtain⟨q,hq,ht,_,Z⟩:=Vv hf hx hm;have iy:(Z6 q).length=target (p++x::r) (Z6 p).length m:=by rw[ht];have:=ax (λl=>(Z6 l).length) hq;simp only[Yl,ay] at this;rw[Yl,ay];omega
    rw[<-iy] at T ⊢;exact LR hf h k (goto m r) q a (aO (E3 m r) jO) hq T
   have behind:∀m,(m≠0->m∈marks r)->at_ ((Z6 p).length+1)<=at_ (target (p++x::r) (Z6 p).length m):=by
    intro m hm;obtain⟨_,_,ht,eF,Z⟩:=Vv hf hx hm;obtain⟨d,hd⟩:∃d,target (p++x::r) (Z6 p).length m=(Z6 p).length+1+d:=⟨_,(Nat.add_sub_cancel' eF).symm⟩;have hb:target (p++x::r) (Z6 p).length m<=(Z6 (p++x::r)).length:=by rw[ht];omega
    rw[hd] at hb ⊢;exact h.mono d _ hb
   have b1:=behind x.t Y;have b2:=behind x.f ff;rw[Rf hx];unfold encI at hw hn;rw[hu,aN jD] at hw hn;generalize hP:at_ (Z6 p).length=P at*;by_cases D:far (Z6 p).length=true
   ·have A:=h.branch _ _ C D;rw[aH D] at hw hn;simp only[aj,acg] at hn;have hc:=Ps A;have U:=h.yes _ _ C hu hc.2.2.2;have I:=h.no _ _ C hu A;rw[aN hc.1,aN hc.2.1,aN hc.2.2.1,aN hc.2.2.2,aH A,zJ hw A];have w1:=Vz hw;have w2:=Vz w1;by_cases hb:YI x.code a x.k=true;·rw[aH hb,aH hb];show Y6 w (out.drop (P+1+0)) a=_;rw[aec,NM w1,show P+1+1+(at_ (target (p++x::r) (Z6 p).length x.t)-(P+1)-1)=at_ (target (p++x::r) (Z6 p).length x.t) from jO];exact go x.t Y U a
    ·rw[aN hb,aN hb];show Y6 w (out.drop (P+1+1)) a=_;rw[NM w2,show P+1+1+1+(at_ (target (p++x::r) (Z6 p).length x.f)-(P+2)-1)=at_ (target (p++x::r) (Z6 p).length x.f) from jO];exact go x.f ff I a
   ·rw[aN D] at hw hn;by_cases J:x.code=0x05;·rw[aH J] at hw hn;simp only[aj,acg] at hn;have U:=h.yes _ _ C hu jO;rw[J] at hw;rw[aN jO,aN jO,aH J,NM hw,show P+1+(at_ (target (p++x::r) (Z6 p).length x.t)-P-1)=at_ (target (p++x::r) (Z6 p).length x.t) from jO];exact go x.t Y U a
    ·rw[aN J] at hw hn;by_cases A:YW x.code=true
     ·rw[aH A] at hw hn;simp only[aj,acg] at hn;have hc:=Ps A;have U:=h.yes _ _ C hu hc.2.2.2;have I:=h.no _ _ C hu A;rw[aN hc.1,aN hc.2.1,aN hc.2.2.1,aN hc.2.2.2,aH A,zJ hw A];by_cases hb:YI x.code a x.k=true;·rw[aH hb,aH hb];show Y6 w (out.drop (P+1+(at_ (target (p++x::r) (Z6 p).length x.t)-P-1))) a=_;rw[show P+1+(at_ (target (p++x::r) (Z6 p).length x.t)-P-1)=at_ (target (p++x::r) (Z6 p).length x.t) from jO];exact go x.t Y U a
      ·rw[aN hb,aN hb];show Y6 w (out.drop (P+1+(at_ (target (p++x::r) (Z6 p).length x.f)-P-1))) a=_;rw[show P+1+(at_ (target (p++x::r) (Z6 p).length x.f)-P-1)=at_ (target (p++x::r) (Z6 p).length x.f) from jO];exact go x.f ff I a
     ·rw[aN A] at hw hn;simp only[aj,acg] at hn
      have nx:x.code=0x20\/x.code=0x54->∀a,Y6 w (out.drop (P+1)) a=Wn w r a:=by
       intro h6 a;have hp:(Z6 (p++[x])).length=(Z6 p).length+1:=by rw[Yl,YC hx];simp[Z6]
       have I:=h.yes _ _ C hu jO;rw[h.plain _ _ C h6] at I;have I:ZV ((Z6 p).length+1)=false:=I;have:=LR (w:=w) hf h k r (p++[x]) a jO jS (by rw[hp];exact I);rw[hp,hn] at this;simpa using this
      rcases h.code x (ag C) with hc|hc|hc|hc|hc;·rw[aH hc,x9 hw hc];exact nx (.inl hc) _
      ·rw[aN jO,aH hc,ub hw hc];exact nx (.inr hc) _
      ·exact absurd hc J
      ·rw[aN jO,aN jO,aN J,aH hc,tZ hw hc]
      ·exact absurd hc A
  ·have hp:(Z6 (p++[x])).length=(Z6 p).length:=by
    rw[Yl,W9 hx];simp[Z6]
   rw[ud hx,<-hp];exact LR hf h k r (p++[x]) a jO (by rw[e];simp) (by rw[hp];exact hu)
def JF(w:Nat->Nat)(F:List Z9)(m:Int)(a:Nat):Option Nat:=Wn w (U9 m F) a
theorem Hj {F p r:List Z9}{x:Z9}(hF:ZT F)(e:F=p++x::r)(m:Int)(h:m≠0->m∈marks r)(a:Nat):Wn w (goto m r) a=if m=0 then Wn w r a else JF w F m a:=by
 unfold goto JF;split;·rfl
 ·rename_i C;have hm:=h C;have e2:F=(p++[x])++r:=by rw[e];simp
  have A:m∉marks (p++[x]):=ZT.fresh (p++[x]) (by rw[<-e2];exact hF) hm;rw[e2,OX (p++[x]) m r C A]
theorem ad0 {F p r:List Z9}{x:Z9}(hF:ZT F)(e:F=p++x::r)(hx:x.mark=0)(hb:YW x.code=true)(a:Nat):
 Wn w (x::r) a=if YI x.code a x.k=true then(if x.t=0 then Wn w r a else JF w F x.t a) else(if x.f=0 then Wn w r a else JF w F x.f a):=by
 have hc:=Ps hb;obtain⟨A,ff⟩:=ZT.here p (e▸hF) hx;rw[Rf hx,aN hc.1,aN hc.2.1,aN hc.2.2.1,aN hc.2.2.2,aH hb];split;·exact Hj hF e x.t A a
 ·exact Hj hF e x.f ff a
theorem LQ {F p r:List Z9}{k:Nat}{f:Int}(hF:ZT F)(e:F=p++⟨0,0x05,k,t,f⟩::r)(ht:t≠0)(a:Nat):Wn w (⟨0,0x05,k,t,f⟩::r) a=JF w F t a:=by
 obtain⟨A,_⟩:=ZT.here p (e▸hF) rfl;rw[Rf rfl];dsimp only;rw[aN jD,aN jD,aH rfl,Hj hF e t A a,aN ht]
theorem Xd(w:Nat->Nat)(r:List Z9)(k:Nat)(t f:Int)(a:Nat):Wn w (⟨0,0x20,k,t,f⟩::r) a=Wn w r (w k):=by
 rw[Rf rfl];dsimp only;rw[aH rfl]
theorem CJ(w:Nat->Nat)(r:List Z9)(k:Nat)(t f:Int)(a:Nat):Wn w (⟨0,0x54,k,t,f⟩::r) a=Wn w r (a &&& k):=by
 rw[Rf rfl];dsimp only;rw[aN jD,aH rfl]
theorem eE(w:Nat->Nat)(r:List Z9)(k:Nat)(t f:Int)(a:Nat):Wn w (⟨0,0x06,k,t,f⟩::r) a=some k:=by
 rw[Rf rfl];dsimp only;rw[aN jD,aN jD,aN jD,aH rfl]
def Zr(m:Int):Z9:=⟨m,0,0,0,0⟩
def ins(code k:Nat)(t f:Int):Z9:=⟨0,code,k,t,f⟩
theorem TJ {F p r:List Z9} (hF:ZT F)(e:F=p++Zr m::r)(hm:m≠0)(a:Nat):JF w F m a=Wn w r a:=by
 have A:m∉marks p:=by refine ZT.fresh p (s:=Zr m::r) (by rw[<-e];exact hF) ?_;rw[Zq (show(Zr m).mark≠0 from hm)];exact agd
 unfold JF;rw[e,OX p m _ hm A];unfold U9;rw[aH (show(Zr m).mark=m from rfl)]
structure Z5 where
 (a o m v:Nat)
def opH(o m v x:Nat):Bool:=if o=1 then x == v else if o=2 then x != v else if o=3 then decide (x<v) else if o=6 then decide (v<=x) else(x &&& m) == v
def lo(n:Nat):Nat:=n%4294967296
def hi(n:Nat):Nat:=n/4294967296
def YA(a:Nat):Nat:=16+8*a
def Zd(a:Nat):Nat:=16+8*a+4
def R1(U1 Xn h l:Nat)(wide:Bool)(yes no:Int):List Z9:=(if wide then [ins 0x20 U1 0 0,ins 0x15 h 0 no] else [])++[ins 0x20 Xn 0 0,ins 0x15 l yes no]
def Vu(U1 Xn h l:Nat)(wide:Bool)(yes no:Int):List Z9:=(if wide then [ins 0x20 U1 0 0,ins 0x25 h yes 0,ins 0x15 h 0 no] else [])++[ins 0x20 Xn 0 0,ins 0x35 l yes no]
def M6(U1 Xn h l mh ml:Nat)(wide:Bool)(yes no:Int):List Z9:=(if wide then [ins 0x20 U1 0 0,ins 0x54 mh 0 0,ins 0x15 h 0 no] else [])++[ins 0x20 Xn 0 0,ins 0x54 ml 0 0,ins 0x15 l yes no]
def XF(c:Z5)(wide:Bool)(yes no:Int):List Z9:=
 if c.o=1 then R1 (Zd c.a) (YA c.a) (hi c.v) (lo c.v) wide yes no
 else if c.o=2 then R1 (Zd c.a) (YA c.a) (hi c.v) (lo c.v) wide no yes
 else if c.o=3 then Vu (Zd c.a) (YA c.a) (hi c.v) (lo c.v) wide no yes
 else if c.o=6 then Vu (Zd c.a) (YA c.a) (hi c.v) (lo c.v) wide yes no
 else M6 (Zd c.a) (YA c.a) (hi c.v) (lo c.v) (hi c.m) (lo c.m) wide yes no
def VX(w:Nat->Nat)(wide:Bool)(a:Nat):Nat:=if wide then w (Zd a)*4294967296+w (YA a) else w (YA a)
theorem Zm {F p r:List Z9}{c k:Nat}{f:Int}(hF:ZT F)(e:F=p++ins c k t f::r)(hb:YW c=true)(a:Nat):
 Wn w (ins c k t f::r) a=if YI c a k=true then(if t=0 then Wn w r a else JF w F t a) else(if f=0 then Wn w r a else JF w F f a):=ad0 hF e rfl hb a
theorem XL(a k:Nat):YI 0x15 a k=(a == k):=rfl
theorem mI(a k:Nat):YI 0x25 a k=decide (k<a):=rfl
theorem Hi(a k:Nat):YI 0x35 a k=decide (k<=a):=rfl
theorem zI(a k:Nat):YI 0x45 a k=((a &&& k) != 0):=rfl
def He(w:Nat->Nat):Prop:=∀k,w k<4294967296
theorem zH{w:Nat->Nat}{F p r:List Z9}{U1 Xn v:Nat}{wide:Bool}{yes no:Int}(hF:ZT F)(hw:He w)(e:F=p++(R1 U1 Xn (hi v) (lo v) wide yes no++r))(hy:yes≠0)(hn:no≠0)(hv:wide=true\/v<4294967296)(a:Nat):
 ∃a',Wn w (R1 U1 Xn (hi v) (lo v) wide yes no++r) a=JF w F (if (if wide then w U1*4294967296+w Xn else w Xn)=v then yes else no) a':=by
 have hl:=hw Xn;have D:=hw U1;unfold R1 at e ⊢;unfold hi lo at*;cases wide with
 |false=>
  have hv:v<4294967296:=hv.resolve_left jD;have e1:F=(p++[ins 0x20 Xn 0 0])++ins 0x15 (v%4294967296) yes no::r:=by rw[e];simp
  refine⟨w Xn,?_⟩;show Wn w (ins 0x20 Xn 0 0::ins 0x15 (v%4294967296) yes no::r) a=_;rw[show ins 0x20 Xn 0 0=⟨0,0x20,Xn,0,0⟩ from rfl,Xd,Zm hF e1 rfl,XL,aN hy,aN hn,ama hv];by_cases h:w Xn=v;·rw[aH (by simpa using h),aH (by simpa using h)]
  ·rw[aN (by simpa using h),aN (by simpa using h)]
 |true=>
  have e1:F=(p++[ins 0x20 U1 0 0])++ins 0x15 (v/4294967296) 0 no::ins 0x20 Xn 0 0::ins 0x15 (v%4294967296) yes no::r:=by rw[e];simp
  have e2:F=(p++[ins 0x20 U1 0 0,ins 0x15 (v/4294967296) 0 no,ins 0x20 Xn 0 0])++ins 0x15 (v%4294967296) yes no::r:=by rw[e];simp
  show ∃a',Wn w (ins 0x20 U1 0 0::ins 0x15 (v/4294967296) 0 no::ins 0x20 Xn 0 0::ins 0x15 (v%4294967296) yes no::r) a=_;rw[show ins 0x20 U1 0 0=⟨0,0x20,U1,0,0⟩ from rfl,Xd,Zm hF e1 rfl,XL,aN hn,aH rfl,aH rfl];by_cases C:w U1=v/4294967296
  ·rw[aH (by simpa using C),show ins 0x20 Xn 0 0=⟨0,0x20,Xn,0,0⟩ from rfl,Xd,Zm hF e2 rfl,XL,aN hy,aN hn];refine⟨w Xn,?_⟩;by_cases A:w Xn=v%4294967296;·rw[aH (by simpa using A),aH jO]
   ·rw[aN (by simpa using A),aN jO]
  ·rw[aN (by simpa using C),aN jO];exact⟨_,rfl⟩
theorem E1{w:Nat->Nat}{F p r:List Z9}{U1 Xn v:Nat}{wide:Bool}{yes no:Int}(hF:ZT F)(hw:He w)(e:F=p++(Vu U1 Xn (hi v) (lo v) wide yes no++r))(hy:yes≠0)(hn:no≠0)(hv:wide=true\/v<4294967296)(a:Nat):
 ∃a',Wn w (Vu U1 Xn (hi v) (lo v) wide yes no++r) a=JF w F (if v<=(if wide then w U1*4294967296+w Xn else w Xn) then yes else no) a':=by
 have hl:=hw Xn;have I:=hw U1;unfold Vu at e ⊢;unfold hi lo at*;cases wide with
 |false=>
  have hv:v<4294967296:=hv.resolve_left jD;have e1:F=(p++[ins 0x20 Xn 0 0])++ins 0x35 (v%4294967296) yes no::r:=by rw[e];simp
  refine⟨w Xn,?_⟩;show Wn w (ins 0x20 Xn 0 0::ins 0x35 (v%4294967296) yes no::r) a=_;rw[show ins 0x20 Xn 0 0=⟨0,0x20,Xn,0,0⟩ from rfl,Xd,Zm hF e1 rfl,Hi,aN hy,aN hn,ama hv];by_cases h:v<=w Xn;·rw[aH (by simpa using h),aH (by simpa using h)]
  ·rw[aN (by simpa using h),aN (by simpa using h)]
 |true=>
  have e1:F=(p++[ins 0x20 U1 0 0])++ins 0x25 (v/4294967296) yes 0::ins 0x15 (v/4294967296) 0 no::ins 0x20 Xn 0 0::ins 0x35 (v%4294967296) yes no::r:=by rw[e];simp
  have e2:F=(p++[ins 0x20 U1 0 0,ins 0x25 (v/4294967296) yes 0])++ins 0x15 (v/4294967296) 0 no::ins 0x20 Xn 0 0::ins 0x35 (v%4294967296) yes no::r:=by rw[e];simp
  have e3:F=(p++[ins 0x20 U1 0 0,ins 0x25 (v/4294967296) yes 0,ins 0x15 (v/4294967296) 0 no,ins 0x20 Xn 0 0])++ins 0x35 (v%4294967296) yes no::r:=by rw[e];simp
  show ∃a',Wn w (ins 0x20 U1 0 0::ins 0x25 (v/4294967296) yes 0::ins 0x15 (v/4294967296) 0 no::ins 0x20 Xn 0 0::ins 0x35 (v%4294967296) yes no::r) a=_;rw[show ins 0x20 U1 0 0=⟨0,0x20,U1,0,0⟩ from rfl,Xd,Zm hF e1 rfl,mI,aN hy,aH rfl,aH rfl];by_cases D:v/4294967296<w U1;·rw[aH (by simpa using D),aH jO];exact⟨_,rfl⟩
  ·rw[aN (by simpa using D),Zm hF e2 rfl,XL,aN hn,aH rfl];by_cases C:w U1=v/4294967296
   ·rw[aH (by simpa using C),show ins 0x20 Xn 0 0=⟨0,0x20,Xn,0,0⟩ from rfl,Xd,Zm hF e3 rfl,Hi,aN hy,aN hn];refine⟨w Xn,?_⟩;by_cases A:v%4294967296<=w Xn;·rw[aH (by simpa using A),aH jO]
    ·rw[aN (by simpa using A),aN jO]
   ·rw[aN (by simpa using C),aN jO];exact⟨_,rfl⟩
theorem x6(x m v:Nat):(x &&& m=v)↔((x/4294967296 &&& m/4294967296)=v/4294967296/\(x%4294967296 &&& m%4294967296)=v%4294967296):=by
 have A:(x &&& m)/4294967296=x/4294967296 &&& m/4294967296:=by have:=Nat.and_div_two_pow (a:=x) (b:=m) (n:=32);simpa using this
 have C:(x &&& m)%4294967296=x%4294967296 &&& m%4294967296:=by have:=Nat.and_mod_two_pow (a:=x) (b:=m) (n:=32);simpa using this
 rw[<-A,<-C];constructor;·rintro rfl;exact⟨rfl,rfl⟩
 ·rintro⟨e1,e2⟩;rw[<-Nat.div_add_mod (x &&& m) 4294967296,e1,e2,Nat.div_add_mod]
theorem mH{w:Nat->Nat}{F p r:List Z9}{U1 Xn v m:Nat}{wide:Bool}{yes no:Int}(hF:ZT F)(hw:He w)(e:F=p++(M6 U1 Xn (hi v) (lo v) (hi m) (lo m) wide yes no++r))(hy:yes≠0)(hn:no≠0)(hv:wide=true\/(v<4294967296/\m<4294967296))(a:Nat):
 ∃a',Wn w (M6 U1 Xn (hi v) (lo v) (hi m) (lo m) wide yes no++r) a=JF w F (if ((if wide then w U1*4294967296+w Xn else w Xn) &&& m)=v then yes else no) a':=by
 have hl:=hw Xn;have D:=hw U1;unfold M6 at e ⊢;unfold hi lo at*;cases wide with
 |false=>
  obtain⟨hv,hm⟩:=hv.resolve_left jD;have e1:F=(p++[ins 0x20 Xn 0 0,ins 0x54 (m%4294967296) 0 0])++ins 0x15 (v%4294967296) yes no::r:=by rw[e];simp
  refine⟨w Xn &&& m,?_⟩;show Wn w (ins 0x20 Xn 0 0::ins 0x54 (m%4294967296) 0 0::ins 0x15 (v%4294967296) yes no::r) a=_;rw[show ins 0x20 Xn 0 0=⟨0,0x20,Xn,0,0⟩ from rfl,Xd,show ins 0x54 (m%4294967296) 0 0=⟨0,0x54,m%4294967296,0,0⟩ from rfl,CJ,Zm hF e1 rfl,XL,aN hy,aN hn,ama hv,ama hm];by_cases h:w Xn &&& m=v;·rw[aH (by simpa using h),aH (by simpa using h)]
  ·rw[aN (by simpa using h),aN (by simpa using h)]
 |true=>
  have e1:F=(p++[ins 0x20 U1 0 0,ins 0x54 (m/4294967296) 0 0])++ins 0x15 (v/4294967296) 0 no::ins 0x20 Xn 0 0::ins 0x54 (m%4294967296) 0 0::ins 0x15 (v%4294967296) yes no::r:=by rw[e];simp
  have e2:F=(p++[ins 0x20 U1 0 0,ins 0x54 (m/4294967296) 0 0,ins 0x15 (v/4294967296) 0 no,ins 0x20 Xn 0 0,ins 0x54 (m%4294967296) 0 0])++ins 0x15 (v%4294967296) yes no::r:=by rw[e];simp
  have hx:=x6 (w U1*4294967296+w Xn) m v;rw[show(w U1*4294967296+w Xn)/4294967296=w U1 from jO,show(w U1*4294967296+w Xn)%4294967296=w Xn from jO] at hx;show ∃a',Wn w (ins 0x20 U1 0 0::ins 0x54 (m/4294967296) 0 0::ins 0x15 (v/4294967296) 0 no::ins 0x20 Xn 0 0::ins 0x54 (m%4294967296) 0 0::ins 0x15 (v%4294967296) yes no::r) a=_;rw[show ins 0x20 U1 0 0=⟨0,0x20,U1,0,0⟩ from rfl,Xd,show ins 0x54 (m/4294967296) 0 0=⟨0,0x54,m/4294967296,0,0⟩ from rfl,CJ,Zm hF e1 rfl,XL,aN hn,aH rfl,aH rfl];by_cases C:(w U1 &&& m/4294967296)=v/4294967296
  ·rw[aH (by simpa using C),show ins 0x20 Xn 0 0=⟨0,0x20,Xn,0,0⟩ from rfl,Xd,show ins 0x54 (m%4294967296) 0 0=⟨0,0x54,m%4294967296,0,0⟩ from rfl,CJ,Zm hF e2 rfl,XL,aN hy,aN hn];refine⟨w Xn &&& m%4294967296,?_⟩;by_cases A:(w Xn &&& m%4294967296)=v%4294967296;·rw[aH (by simpa using A),aH (hx.2 ⟨C,A⟩)]
   ·rw[aN (by simpa using A),aN (λe=>A (hx.1 e).2)]
  ·rw[aN (by simpa using C),aN (λe=>C (hx.1 e).1)];exact⟨_,rfl⟩
def Z5.ok(c:Z5)(wide:Bool):Prop:=(c.o=1\/c.o=2\/c.o=3\/c.o=6\/c.o=7)/\(wide=true\/(c.v<4294967296/\c.m<4294967296))
theorem mG {F p r:List Z9}{c:Z5} {yes no:Int}(hF:ZT F)(hw:He w)(hc:c.ok wide)(e:F=p++(XF c wide yes no++r))(hy:yes≠0)(hn:no≠0)(a:Nat):
 ∃a',Wn w (XF c wide yes no++r) a=JF w F (if opH c.o c.m c.v (VX w wide c.a)=true then yes else no) a':=by
 obtain⟨ho,hv⟩:=hc;have C:wide=true\/c.v<4294967296:=hv.imp id (λh=>h.1);have D:∀(P:Prop) [Decidable P] (x y:Int),(if P then x else y)=(if ¬P then y else x):=λP _ x y=>by by_cases h:P<;>simp[h]
 unfold XF at e ⊢;unfold VX opH;rcases ho with h|h|h|h|h
 ·rw[h] at e ⊢;simp only[if_true,Nat.reduceEqDiff,if_false] at e ⊢;obtain⟨a',A⟩:=zH hF hw e hy hn C a;exact⟨a',by rw[A];simp⟩
 ·rw[h] at e ⊢;simp only[if_true,Nat.reduceEqDiff,if_false] at e ⊢;obtain⟨a',A⟩:=zH hF hw e hn hy C a;exact⟨a',by rw[A,D];simp⟩
 ·rw[h] at e ⊢;simp only[if_true,Nat.reduceEqDiff,if_false] at e ⊢;obtain⟨a',A⟩:=E1 hF hw e hn hy C a;exact⟨a',by rw[A,D];simp⟩
 ·rw[h] at e ⊢;simp only[if_true,Nat.reduceEqDiff,if_false] at e ⊢;obtain⟨a',A⟩:=E1 hF hw e hy hn C a;exact⟨a',by rw[A];simp⟩
 ·rw[h] at e ⊢;simp only[if_true,Nat.reduceEqDiff,if_false] at e ⊢;obtain⟨a',A⟩:=mH hF hw e hy hn hv a;exact⟨a',by rw[A];simp⟩
structure G where
 l:List Z9
 n:Nat
 b:List (Nat×Nat)
def look:List (Nat×Nat)->Nat->Nat
 |[],_=>0
 |(c,m)::r,x=>if c=x then m else look r x
theorem RZ:∀(b:List (Nat×Nat)) (c m x:Nat),look b c=0->(∀p∈b,p.2≠0)->look (b++[(c,m)]) x=if c=x then m else look b x
 |[],c,m,x,_,_=>rfl
 |(c0,m0)::r,c,m,x,h,hp=>by
  have C:m0≠0:=hp (c0,m0) jS;have A:c0≠c:=by rintro rfl;simp[look] at h;exact C h
  have D:look r c=0:=by unfold look at h;rwa [aN A] at h
  have I:=RZ r c m x D (λp J=>hp p (by simp[J]));rw[ahb];show(if c0=x then m0 else look (r++[(c,m)]) x)=if c=x then m else(if c0=x then m0 else look r x)
  rw[I];by_cases e:c0=x;·rw[aH e,aH e,aN (λe2=>A (e.trans e2.symm))]
  ·rw[aN e,aN e]
def G.put(g:G)(xs:List Z9):G:=⟨g.l++xs,g.n,g.b⟩
def G.here(g:G)(m:Nat):G:=⟨g.l++[Zr m],g.n,g.b⟩
def G.mark(g:G):G:=⟨g.l,g.n+1,g.b⟩
def G.goes(g:G)(c:Nat):G:=if look g.b c=0 then⟨g.l,g.n+1,g.b++[(c,g.n+1)]⟩ else g
def G.M5(g:G)(t:Int):Prop:=∃c,look g.b c≠0/\((look g.b c:Nat):Int)=t
def PF(O:Int->Prop):List Z9->Prop
 |[]=>True
 |x::r=>PF O r/\(if x.mark≠0 then x.mark∉marks r else(x.t≠0->x.t∈marks r\/O x.t)/\(x.f≠0->x.f∈marks r\/O x.f))
theorem PF.app{O O':Int->Prop}:∀{a b:List Z9},PF O a->PF O' b->(∀m∈marks a,m∉marks b)->(∀t,O t->t∈marks b\/O' t)->PF O' (a++b)
 |[],_,_,hb,_,_=>hb
 |x::a,b,ha,hb,hd,ho=>by
  have D:=PF.app ha.1 hb (λm hm=>hd m (by
   by_cases hz:x.mark=0;·rw[Y2 hz];exact hm
   ·rw[Zq hz];exact aff _ hm)) ho
  refine⟨D,?_⟩;have A:=ha.2;by_cases hz:x.mark=0
  ·rw[aN (λe=>e hz)] at A ⊢
   have one:∀t,(t≠0->t∈marks a\/O t)->t≠0->t∈marks (a++b)\/O' t:=by
    intro t ht C;rw[WZ,abe];rcases ht C with h|h;·exact .inl (.inl h)
    ·rcases ho t h with h|h;·exact .inl (.inr h)
     ·exact .inr h
   exact⟨one _ A.1,one _ A.2⟩
  ·rw[aH hz] at A ⊢
   have:x.mark∉marks (a++b):=by
    rw[WZ,abe];rintro(h|h);·exact A h
    ·exact hd x.mark (by rw[Zq hz];simp) h
   exact this
theorem PF.mono{O O':Int->Prop}(h:∀t,O t->O' t):∀{a:List Z9},PF O a->PF O' a
 |[],_=>trivial
 |x::a,ha=>by
  refine⟨PF.mono h ha.1,?_⟩;have A:=ha.2;by_cases hz:x.mark=0;·rw[aN (λe=>e hz)] at A ⊢;exact⟨λe=>(A.1 e).imp id (h _),λe=>(A.2 e).imp id (h _)⟩
  ·rw[aH hz] at A ⊢;exact A
theorem PF.formed:∀{a:List Z9},PF (λ_=>False) a->ZT a
 |[],_=>trivial
 |x::a,h=>by
  refine⟨PF.formed h.1,?_⟩;have A:=h.2;by_cases hz:x.mark=0;·rw[aN (λe=>e hz)] at A ⊢;exact⟨λe=>(A.1 e).resolve_right id,λe=>(A.2 e).resolve_right id⟩
  ·rw[aH hz] at A ⊢;exact A
structure Zf(g:G)(K:Int->Prop):Prop where
 all:∀t:Int,(1<=t/\t<=g.n)↔(t∈marks g.l\/K t\/g.M5 t)
 xZ:∀t,K t->t∉marks g.l/\¬g.M5 t
 xY:∀t,g.M5 t->t∉marks g.l
 pf:PF (λt=>K t\/g.M5 t) g.l
 one:∀c d,look g.b c=look g.b d->look g.b c≠0->c=d
 pos:∀p∈g.b,p.2≠0
def SF(g:G)(K:Int->Prop)(t:Int):Prop:=t=0\/K t\/g.M5 t
def Plain(g:G)(K:Int->Prop)(xs:List Z9):Prop:=∀x∈xs,x.mark=0/\SF g K x.t/\SF g K x.f
theorem RY:∀{xs:List Z9},(∀x∈xs,x.mark=0)->marks xs=[]
 |[],_=>rfl
 |x::r,h=>by rw[Y2 (h x jS),RY (λy hy=>h y (by simp[hy]))]
theorem EZ{O:Int->Prop}:∀{xs:List Z9},(∀x∈xs,x.mark=0/\(x.t=0\/O x.t)/\(x.f=0\/O x.f))->PF O xs
 |[],_=>trivial
 |x::r,h=>by have hx:=h x jS;refine⟨EZ (λy hy=>h y (by simp[hy])),?_⟩;rw[aN (λe=>e hx.1)];exact⟨λe=>.inr (hx.2.1.resolve_left e),λe=>.inr (hx.2.2.resolve_left e)⟩
theorem Zf.put{g:G} (h:Zf g K){xs:List Z9}(hx:Plain g K xs):Zf (g.put xs) K:=by
 have hm:marks (g.put xs).l=marks g.l:=by show marks (g.l++xs)=_;rw[WZ,RY (λx hy=>(hx x hy).1),ade]
 have hb:∀t,(g.put xs).M5 t↔g.M5 t:=λt=>Iff.rfl
 refine⟨λt=>by rw[hm];exact h.all t,λt hk=>by rw[hm];exact h.xZ t hk,λt ht=>by rw[hm];exact h.xY t ht,?_,h.one,h.pos⟩;refine PF.app h.pf (EZ (λx hy=>⟨(hx x hy).1,(hx x hy).2.1,(hx x hy).2.2⟩)) (λm _=> ?_) (λt ht=>.inr ht);rw[RY (λx hy=>(hx x hy).1)];simp
theorem Zf.mark{g:G} (h:Zf g K):Zf g.mark (λt=>K t\/t=((g.n+1:Nat):Int)):=by
 have fresh:∀t:Int,t=((g.n+1:Nat):Int)->t∉marks g.l/\¬g.M5 t:=by
  intro t e;have:=(h.all t).2;constructor;·intro hm;have:=this (.inl hm);omega
  ·intro hm;have:=this (.inr (.inr hm));omega
 refine⟨λt=> ?_,λt hk=> ?_,h.xY,PF.mono (λt ht=>ht.imp .inl id) h.pf,h.one,h.pos⟩
 ·have:=h.all t;show(1<=t/\t<=((g.n+1:Nat):Int))↔(t∈marks g.l\/(K t\/t=((g.n+1:Nat):Int))\/g.M5 t);constructor
  ·rintro⟨A,C⟩;by_cases e:t=((g.n+1:Nat):Int);·exact .inr (.inl (.inr e))
   ·rcases this.1 ⟨A,jO⟩ with h|h|h;·exact .inl h
    ·exact .inr (.inl (.inl h))
    ·exact .inr (.inr h)
  ·rintro(h|(h|h)|h);·have:=this.2 (.inl h);omega
   ·have:=this.2 (.inr (.inl h));omega
   ·omega
   ·have:=this.2 (.inr (.inr h));omega
 ·rcases hk with hk|hk;·exact h.xZ t hk
  ·exact fresh t hk
theorem Zf.here{g:G} {m:Nat}(h:Zf g (λt=>K t\/t=(m:Int)))(hm:m≠0)(hk:¬K m):Zf (g.here m) K:=by
 have A:marks (g.here m).l=marks g.l++[(m:Int)]:=by show marks (g.l++[Zr m])=_;rw[WZ,Zq (show(Zr m).mark≠0 by show(m:Int)≠0;omega)];rfl
 have hn:=h.xZ (m:Int) (.inr rfl);refine⟨λt=> ?_,λt ht=> ?_,λt ht=> ?_,?_,h.one,h.pos⟩
 ·rw[A,abe,aaa];have:=h.all t;show(1<=t/\t<=(g.n:Int))↔_;rw[this];constructor
  ·rintro(h|(h|h)|h);·exact .inl (.inl h)
   ·exact .inr (.inl h)
   ·exact .inl (.inr h)
   ·exact .inr (.inr h)
  ·rintro((h|h)|h|h);·exact .inl h
   ·exact .inr (.inl (.inr h))
   ·exact .inr (.inl (.inl h))
   ·exact .inr (.inr h)
 ·rw[A,abe,aaa];have:=h.xZ t (.inl ht);refine⟨?_,this.2⟩;rintro(h|h);·exact this.1 h
  ·exact hk (h▸ht)
 ·rw[A,abe,aaa];rintro(C|C);·exact h.xY t ht C
  ·exact hn.2 (C▸ht)
 ·refine PF.app h.pf (b:=[Zr m]) ?_ ?_ ?_;·refine⟨trivial,?_⟩;rw[aH (show(Zr m).mark≠0 by show(m:Int)≠0;omega)];simp[marks]
  ·intro t ht C;rw[Zq (show(Zr m).mark≠0 by show(m:Int)≠0;omega)] at C;have:t=(m:Int):=by simpa [marks,Zr] using C
   exact hn.1 (this▸ht)
  ·intro t ht;rw[Zq (show(Zr m).mark≠0 by show(m:Int)≠0;omega)];rcases ht with(ht|ht)|ht;·exact .inr (.inl ht)
   ·exact .inl (by rw[ht];simp[Zr])
   ·exact .inr (.inr ht)
theorem Zf.goes{g:G} (h:Zf g K)(c:Nat):Zf (g.goes c) K/\look (g.goes c).b c≠0/\(∀d,look g.b d≠0->look (g.goes c).b d=look g.b d)/\(g.goes c).l=g.l:=by
 unfold G.goes;by_cases J:look g.b c=0
 ·rw[aH J];have hl:∀x,look (g.b++[(c,g.n+1)]) x=if c=x then g.n+1 else look g.b x:=λx=>RZ g.b c (g.n+1) x J h.pos
  have fresh:((g.n+1:Nat):Int)∉marks g.l/\¬K ((g.n+1:Nat):Int)/\¬g.M5 ((g.n+1:Nat):Int):=by
   have:=(h.all ((g.n+1:Nat):Int)).2;refine⟨λhm=> ?_,λhm=> ?_,λhm=> ?_⟩;·have:=this (.inl hm);omega
   ·have:=this (.inr (.inl hm));omega
   ·have:=this (.inr (.inr hm));omega
  have T:∀t,(G.M5 ⟨g.l,g.n+1,g.b++[(c,g.n+1)]⟩ t)↔(g.M5 t\/t=((g.n+1:Nat):Int)):=by
   intro t;constructor
   ·rintro⟨x,hx,e⟩;have e2:((look (g.b++[(c,g.n+1)]) x:Nat):Int)=t:=e;have D:look (g.b++[(c,g.n+1)]) x≠0:=hx;rw[hl] at e2 D;by_cases hc:c=x;·rw[aH hc] at e2;exact .inr e2.symm
    ·rw[aN hc] at e2 D;exact .inl ⟨x,D,e2⟩
   ·rintro(⟨x,hx,e⟩|e)
    ·have hc:c≠x:=by rintro rfl;exact hx J
     refine⟨x,?_,?_⟩;·show look (g.b++[(c,g.n+1)]) x≠0;rw[hl,aN hc];exact hx
     ·show((look (g.b++[(c,g.n+1)]) x:Nat):Int)=t;rw[hl,aN hc];exact e
    ·refine⟨c,?_,?_⟩;·show look (g.b++[(c,g.n+1)]) c≠0;rw[hl,aH rfl];omega
     ·show((look (g.b++[(c,g.n+1)]) c:Nat):Int)=t;rw[hl,aH rfl];exact e.symm
  refine⟨⟨λt=> ?_,λt ht=> ?_,λt ht=> ?_,?_,λx y e hx=> ?_,λp hp=> ?_⟩,?_,λd hd=> ?_,rfl⟩
  ·rw[T];have:=h.all t;show(1<=t/\t<=((g.n+1:Nat):Int))↔(t∈marks g.l\/K t\/g.M5 t\/t=((g.n+1:Nat):Int));constructor
   ·rintro⟨U,C⟩;by_cases e:t=((g.n+1:Nat):Int);·exact .inr (.inr (.inr e))
    ·rcases this.1 ⟨U,jO⟩ with h|h|h;·exact .inl h
     ·exact .inr (.inl h)
     ·exact .inr (.inr (.inl h))
   ·rintro(h|h|h|h);·have:=this.2 (.inl h);omega
    ·have:=this.2 (.inr (.inl h));omega
    ·have:=this.2 (.inr (.inr h));omega
    ·omega
  ·rw[T];have:=h.xZ t ht;refine⟨this.1,?_⟩;rintro(C|C);·exact this.2 C
   ·exact fresh.2.1 (C▸ht)
  ·rcases (T t).1 ht with C|C;·exact h.xY t C
   ·rw[C];exact fresh.1
  ·refine PF.mono (λt ht=> ?_) h.pf;rcases ht with ht|ht;·exact .inl ht
   ·exact .inr ((T t).2 (.inl ht))
  ·have e:look (g.b++[(c,g.n+1)]) x=look (g.b++[(c,g.n+1)]) y:=e;have hx:look (g.b++[(c,g.n+1)]) x≠0:=hx;rw[hl] at e hx;rw[hl] at e;by_cases I:c=x
   ·by_cases A:c=y;·exact I.symm.trans A
    ·rw[aH I,aN A] at e;exact absurd ⟨y,by rw[<-e];omega,by rw[<-e]⟩ fresh.2.2
   ·rw[aN I] at e hx;by_cases A:c=y;·rw[aH A] at e;exact absurd ⟨x,hx,by rw[e]⟩ fresh.2.2
    ·rw[aN A] at e;exact h.one x y e hx
  ·rcases abe.1 hp with hp|hp;·exact h.pos p hp
   ·rcases aaa.1 hp with rfl;show g.n+1≠0;omega
  ·show look (g.b++[(c,g.n+1)]) c≠0;rw[hl,aH rfl];omega
  ·show look (g.b++[(c,g.n+1)]) d=_;rw[hl,aN];rintro rfl;exact hd J
 ·rw[aN J];exact⟨h,J,λ_ _=>rfl,rfl⟩
theorem EY{c:Z5} {yes no:Int}:∀x∈XF c wide yes no,x.mark=0/\(x.t=0\/x.t=yes\/x.t=no)/\(x.f=0\/x.f=yes\/x.f=no):=by
 have same:∀(h l C A:Nat) (y n:Int),∀x∈R1 h l C A wide y n,x.mark=0/\(x.t=0\/x.t=y\/x.t=n)/\(x.f=0\/x.f=y\/x.f=n):=by
  intro h l C A y n x hx;unfold R1 ins at hx;cases wide<;>simp at hx
  ·rcases hx with rfl|rfl<;>simp
  ·rcases hx with rfl|rfl|rfl|rfl<;>simp
 have least:∀(h l C A:Nat) (y n:Int),∀x∈Vu h l C A wide y n,x.mark=0/\(x.t=0\/x.t=y\/x.t=n)/\(x.f=0\/x.f=y\/x.f=n):=by
  intro h l C A y n x hx;unfold Vu ins at hx;cases wide<;>simp at hx
  ·rcases hx with rfl|rfl<;>simp
  ·rcases hx with rfl|rfl|rfl|rfl|rfl<;>simp
 have mask:∀(h l C A D I:Nat) (y n:Int),∀x∈M6 h l C A D I wide y n,x.mark=0/\(x.t=0\/x.t=y\/x.t=n)/\(x.f=0\/x.f=y\/x.f=n):=by
  intro h l C A D I y n x hx;unfold M6 ins at hx;cases wide<;>simp at hx
  ·rcases hx with rfl|rfl|rfl<;>simp
  ·rcases hx with rfl|rfl|rfl|rfl|rfl|rfl<;>simp
 intro x hx;unfold XF at hx;split at hx;·exact same _ _ _ _ _ _ x hx
 ·split at hx;·have:=same _ _ _ _ _ _ x hx;exact⟨this.1,this.2.1.imp id Or.symm,this.2.2.imp id Or.symm⟩
  ·split at hx;·have:=least _ _ _ _ _ _ x hx;exact⟨this.1,this.2.1.imp id Or.symm,this.2.2.imp id Or.symm⟩
   ·split at hx;·exact least _ _ _ _ _ _ x hx
    ·exact mask _ _ _ _ _ _ _ _ x hx
structure Yq(g g':G):Prop where
 l:∃xs,g'.l=g.l++xs
 n:g.n<=g'.n
 b:∀c,look g.b c≠0->look g'.b c=look g.b c
theorem Yq.refl(g:G):Yq g g:=⟨⟨[],jS⟩,aP _,λ_ _=>rfl⟩
theorem Yq.trans{a b c:G}(h:Yq a b)(k:Yq b c):Yq a c:=by
 obtain⟨xs,C⟩:=h.l;obtain⟨ys,A⟩:=k.l;exact⟨⟨xs++ys,by rw[A,C,aba]⟩,aO h.n k.n,λx hx=>by rw[k.b x (by rw[h.b x hx];exact hx),h.b x hx]⟩
theorem Yq.put(g:G)(xs:List Z9):Yq g (g.put xs):=⟨⟨xs,rfl⟩,aP _,λ_ _=>rfl⟩
theorem Yq.here(g:G)(m:Nat):Yq g (g.here m):=⟨⟨[Zr m],rfl⟩,aP _,λ_ _=>rfl⟩
theorem Yq.mark(g:G):Yq g g.mark:=⟨⟨[],by simp[G.mark]⟩,aAa _,λ_ _=>rfl⟩
theorem Yq.goes{g:G} (h:Zf g K)(c:Nat):Yq g (g.goes c):=by
 obtain⟨_,_,C,A⟩:=h.goes c;refine⟨⟨[],by rw[A];simp⟩,?_,C⟩;unfold G.goes;split;·exact aAa _
 ·exact aP _
theorem Yq.M5{g g':G}(h:Yq g g') (ht:g.M5 t):g'.M5 t:=by
 obtain⟨c,A,C⟩:=ht;exact⟨c,by rw[h.b c A];exact A,by rw[h.b c A];exact C⟩
theorem Zf.congr{g:G}{K':Int->Prop}(h:Zf g K)(e:∀t,K t↔K' t):Zf g K':=
 ⟨λt=>by rw[h.all t,e t],λt ht=>h.xZ t ((e t).2 ht),h.xY,PF.mono (λt ht=>ht.imp (e t).1 id) h.pf,h.one,h.pos⟩
def Zh(wide:Bool)(next:Nat):List Z5->G->G
 |[],g=>g
 |c::cs,g=>Zh wide next cs ((g.mark.put (XF c wide ((g.n+1:Nat):Int) next)).here (g.n+1))
theorem Re(wide:Bool)(next:Nat):∀(cs:List Z5) (g:G),Yq g (Zh wide next cs g)
 |[],g=>Yq.refl g
 |c::cs,g=>(((Yq.mark g).trans (Yq.put _ _)).trans (Yq.here _ _)).trans (Re wide next cs _)
theorem Pr(wide:Bool)(next:Nat){K:Int->Prop}:∀(cs:List Z5) (g:G),Zf g K->K next->Zf (Zh wide next cs g) K/\(Zh wide next cs g).b=g.b
 |[],g,h,_=>⟨h,rfl⟩
 |c::cs,g,h,hn=>by
  have D:=h.mark;have C:Zf (g.mark.put (XF c wide ((g.n+1:Nat):Int) next)) (λt=>K t\/t=((g.n+1:Nat):Int)):=D.put (λx hx=>by
   have:=EY x hx;have A:∀t:Int,(t=0\/t=((g.n+1:Nat):Int)\/t=(next:Int))->SF g.mark (λt=>K t\/t=((g.n+1:Nat):Int)) t:=by
    rintro t (e|e|e);·exact .inl e
    ·exact .inr (.inl (.inr e))
    ·exact .inr (.inl (.inl (by rw[e];exact hn)))
   exact⟨this.1,A _ this.2.1,A _ this.2.2⟩)
  have hk:¬K ((g.n+1:Nat):Int):=λe=>by have:=(h.all ((g.n+1:Nat):Int)).2 (.inr (.inl e));omega
  have J:=C.here (m:=g.n+1) jO hk;obtain⟨T,I⟩:=Pr wide next cs _ J hn;exact⟨T,I⟩
def Hd(w:Nat->Nat)(wide:Bool)(cs:List Z5):Bool:=cs.all λc=>opH c.o c.m c.v (VX w wide c.a)
theorem EX{w:Nat->Nat}{F:List Z9}{wide:Bool}{next:Nat}(hF:ZT F)(hw:He w)(hn:next≠0):∀(cs:List Z5) (g:G) (s rest:List Z9),(∀c∈cs,c.ok wide)->F=g.l++s->F=(Zh wide next cs g).l++rest->∀a,∃a',Wn w s a=if Hd w wide cs=true then Wn w rest a' else JF w F next a'
 |[],g,s,rest,_,e1,e2,a=>by have:s=rest:=ajg (e1.symm.trans e2);subst this;exact⟨a,by simp[Hd]⟩
 |c::cs,g,s,rest,hc,e1,e2,a=>by
  obtain⟨xs,C⟩:=(Re wide next cs ((g.mark.put (XF c wide ((g.n+1:Nat):Int) next)).here (g.n+1))).l;have e3:F=(g.l++XF c wide ((g.n+1:Nat):Int) next++[Zr ((g.n+1:Nat):Int)])++(xs++rest):=by rw[e2];show(Zh wide next cs ((g.mark.put (XF c wide ((g.n+1:Nat):Int) next)).here (g.n+1))).l++rest=_;rw[C,aba];rfl
  have hs:s=XF c wide ((g.n+1:Nat):Int) next++(Zr ((g.n+1:Nat):Int)::(xs++rest)):=by refine(ajg (?_:g.l++_=g.l++_):_=_);rw[<-e1,e3];simp
  obtain⟨a1,D⟩:=mG (yes:=((g.n+1:Nat):Int)) (no:=(next:Int)) hF hw (hc c jS) (by rw[<-hs];exact e1) jO jO a;rw[hs,D];unfold Hd;rw[List.all_cons];by_cases A:opH c.o c.m c.v (VX w wide c.a)=true
  ·rw[aH A,A,Bool.true_and];have e4:F=(g.l++XF c wide ((g.n+1:Nat):Int) next)++Zr ((g.n+1:Nat):Int)::(xs++rest):=by rw[e3];simp
   rw[TJ hF e4 jO];exact EX hF hw hn cs _ (xs++rest) rest (λd hd=>hc d (by simp[hd])) e3 e2 a1
  ·rw[aN A];have:opH c.o c.m c.v (VX w wide c.a)=false:=by simpa using A
   refine⟨a1,?_⟩;rw[this,Bool.false_and,aN jD]
abbrev Z3:=List Z5×Nat
def XO(wide:Bool)(ow:Nat):List Z3->G->G
 |[],g=>g.put [ins 0x05 0 ow 0]
 |(cs,code)::rs,g=>XO wide ow rs ((((Zh wide (g.n+1) cs g.mark).goes code).put [ins 0x05 0 (look ((Zh wide (g.n+1) cs g.mark).goes code).b code) 0]).here (g.n+1))
def Pq(w:Nat->Nat)(wide:Bool)(d:Nat):List Z3->Nat
 |[]=>d
 |(cs,code)::rs=>if Hd w wide cs=true then code else Pq w wide d rs
theorem Po(wide:Bool)(ow:Nat){K:Int->Prop}:∀(rs:List Z3) (g:G),Zf g K->SF g K ow->Zf (XO wide ow rs g) K/\Yq g (XO wide ow rs g)
 |[],g,h,ho=>⟨h.put (λx hx=>by rcases aaa.1 hx with rfl;exact⟨rfl,ho,.inl rfl⟩),Yq.put _ _⟩
 |(cs,code)::rs,g,h,ho=>by
  have U:=h.mark;obtain⟨C,Z⟩:=Pr wide (g.n+1) cs g.mark U (.inr rfl);have J:=(Yq.mark g).trans (Re wide (g.n+1) cs g.mark);obtain⟨h3,A,_,_⟩:=C.goes code;have T:=J.trans (Yq.goes C code);have h4:=h3.put (xs:=[ins 0x05 0 (look ((Zh wide (g.n+1) cs g.mark).goes code).b code) 0]) (λx hx=>by rcases aaa.1 hx with rfl;exact⟨rfl,.inr (.inr ⟨code,A,rfl⟩),.inl rfl⟩)
  have hk:¬K ((g.n+1:Nat):Int):=λe=>by have:=(h.all ((g.n+1:Nat):Int)).2 (.inr (.inl e));omega
  have Y:=h4.here (m:=g.n+1) jO hk;have D:=(T.trans (Yq.put _ [ins 0x05 0 (look ((Zh wide (g.n+1) cs g.mark).goes code).b code) 0])).trans (Yq.here _ (g.n+1));obtain⟨h6,I⟩:=Po wide ow rs _ Y (ho.imp id (λh=>h.imp id D.M5));exact⟨h6,D.trans I⟩
def Pn(w:Nat->Nat)(F:List Z9)(Bk:Nat->Nat):Prop:=∀c,Bk c≠0->∀a,JF w F (Bk c) a=some c
def XR(b:List (Nat×Nat))(Bk:Nat->Nat):Prop:=∀c,look b c≠0->Bk c=look b c
theorem XR.back{g g':G} (h:XR g'.b Bk)(l:Yq g g'):XR g.b Bk:=λc hc=>by
 have:=l.b c hc;rw[h c (by rw[this];exact hc),this]
theorem EW{w:Nat->Nat}{F:List Z9}{Bk:Nat->Nat}{wide:Bool}{ow d:Nat}{K:Int->Prop}(hF:ZT F)(hw:He w)(hB:Pn w F Bk)(ho:ow≠0)(hd:∀a,JF w F ow a=some d):
 ∀(rs:List Z3) (g:G) (s rest:List Z9),(∀r∈rs,∀c∈r.1,c.ok wide)->Zf g K->SF g K ow->XR (XO wide ow rs g).b Bk->F=g.l++s->F=(XO wide ow rs g).l++rest->∀a,Wn w s a=some (Pq w wide d rs)
 |[],g,s,rest,_,_,_,_,e1,e2,a=>by
  have e3:F=g.l++([ins 0x05 0 ow 0]++rest):=by rw[e2,<-aba];rfl
  have hs:s=ins 0x05 0 ow 0::rest:=ajg (e1.symm.trans e3);rw[hs];rw[show ins 0x05 0 ow 0=⟨0,0x05,0,ow,0⟩ from rfl,LQ hF (p:=g.l) (by rw[e3];rfl) jO a,hd];rfl
 |(cs,code)::rs,g,s,rest,hc,h,mF,hA,e1,e2,a=>by
  have h1:=h.mark;obtain⟨h2,h2b⟩:=Pr wide (g.n+1) cs g.mark h1 (.inr rfl);obtain⟨h3,C,_,D⟩:=h2.goes code;have hk:¬K ((g.n+1:Nat):Int):=λe=>by have:=(h.all ((g.n+1:Nat):Int)).2 (.inr (.inl e));omega
  have h4:=h3.put (xs:=[ins 0x05 0 (look ((Zh wide (g.n+1) cs g.mark).goes code).b code) 0]) (λx hx=>by rcases aaa.1 hx with rfl;exact⟨rfl,.inr (.inr ⟨code,C,rfl⟩),.inl rfl⟩)
  have h5:=h4.here (m:=g.n+1) jO hk;have l3:=((Yq.mark g).trans (Re wide (g.n+1) cs g.mark)).trans (Yq.goes h2 code);have l5:=(l3.trans (Yq.put _ [ins 0x05 0 (look ((Zh wide (g.n+1) cs g.mark).goes code).b code) 0])).trans (Yq.here _ (g.n+1));have A:=mF.imp id (λh=>h.imp id l5.M5);obtain⟨h6,l6⟩:=Po wide ow rs _ h5 A;obtain⟨xs,Y⟩:=l6.l;obtain⟨M,T⟩:∃M,M=look ((Zh wide (g.n+1) cs g.mark).goes code).b code:=⟨_,rfl⟩;have I:Bk code=M:=by rw[T];exact(hA.back l6) code C
  have U:M≠0:=by rw[T];exact C
  have e3:F=(Zh wide (g.n+1) cs g.mark).l++(ins 0x05 0 M 0::Zr ((g.n+1:Nat):Int)::(xs++rest)):=by rw[e2];show(XO wide ow rs ((((Zh wide (g.n+1) cs g.mark).goes code).put [ins 0x05 0 (look ((Zh wide (g.n+1) cs g.mark).goes code).b code) 0]).here (g.n+1))).l++rest=_;rw[Y];show(((Zh wide (g.n+1) cs g.mark).goes code).l++[ins 0x05 0 (look ((Zh wide (g.n+1) cs g.mark).goes code).b code) 0]++[Zr ((g.n+1:Nat):Int)]++xs)++rest=_;rw[<-T,D];simp
  obtain⟨a1,h7⟩:=EX (next:=g.n+1) hF hw jO cs g.mark s (ins 0x05 0 M 0::Zr ((g.n+1:Nat):Int)::(xs++rest)) (λc Z=>hc (cs,code) jS c Z) e1 e3 a;rw[h7];show _=some (if Hd w wide cs=true then code else Pq w wide d rs);by_cases J:Hd w wide cs=true;·rw[aH J,aH J,show ins 0x05 0 M 0=⟨0,0x05,0,(M:Int),0⟩ from rfl,LQ hF (p:=(Zh wide (g.n+1) cs g.mark).l) (by rw[e3];rfl) jO a1,<-I];exact hB code (by rw[I];exact U) a1
  ·rw[aN J,aN J];have e4:F=((Zh wide (g.n+1) cs g.mark).l++[ins 0x05 0 M 0])++Zr ((g.n+1:Nat):Int)::(xs++rest):=by rw[e3];simp
   rw[TJ hF e4 jO];refine EW hF hw hB ho hd rs _ (xs++rest) rest (λr hr=>hc r (by simp[hr])) h5 A hA ?_ (by rw[e2];rfl) a1;show F=(((Zh wide (g.n+1) cs g.mark).goes code).l++[ins 0x05 0 (look ((Zh wide (g.n+1) cs g.mark).goes code).b code) 0]++[Zr ((g.n+1:Nat):Int)])++(xs++rest);rw[D,<-T,e3];simp
def ZI(ow:Nat)(l:List (Nat×Nat))(g:G):G:=
 match l with
 |[]=>g.put [ins 0x05 0 ow 0]
 |[(k,m)]=>g.put [ins 0x15 k m ow]
 |x::y::r=>ZI ow ((x::y::r).drop ((x::y::r).length/2)) ((ZI ow ((x::y::r).take ((x::y::r).length/2)) (g.mark.put [ins 0x35 ((x::y::r).getD ((x::y::r).length/2) (0,0)).1 ((g.n+1:Nat):Int) 0])).here (g.n+1))
termination_by l.length
decreasing_by
 all_goals simp
 all_goals omega
theorem XE(ow:Nat)(g:G):ZI ow [] g=g.put [ins 0x05 0 ow 0]:=by unfold ZI;rfl
theorem XD(ow k m:Nat)(g:G):ZI ow [(k,m)] g=g.put [ins 0x15 k m ow]:=by unfold ZI;rfl
theorem XY(ow:Nat)(l:List (Nat×Nat))(h:2<=l.length)(g:G):ZI ow l g=ZI ow (l.drop (l.length/2)) ((ZI ow (l.take (l.length/2)) (g.mark.put [ins 0x35 (l.getD (l.length/2) (0,0)).1 ((g.n+1:Nat):Int) 0])).here (g.n+1)):=by
 match l,h with
 |x::y::r,_=>conv=>lhs;unfold ZI
def VJ(l:List (Nat×Nat))(a:Nat):Option Nat:=(l.find? (λp=>p.1 == a)).map (·.2)
def SE(l:List (Nat×Nat)):Prop:=l.Pairwise (λp q=>p.1<q.1)
theorem W8(ow:Nat){K:Int->Prop}:∀(k:Nat) (l:List (Nat×Nat)) (g:G),l.length<=k->Zf g K->SF g K ow->(∀p∈l,SF g K (p.2:Int))->Zf (ZI ow l g) K/\Yq g (ZI ow l g)
 |k,[],g,_,h,ho,_=>by
  rw[XE];exact⟨h.put (λx hx=>by rcases aaa.1 hx with rfl;exact⟨rfl,ho,.inl rfl⟩),Yq.put _ _⟩
 |k,[(q,m)],g,_,h,ho,hm=>by
  rw[XD];exact⟨h.put (λx hx=>by rcases aaa.1 hx with rfl;exact⟨rfl,hm (q,m) jS,ho⟩),Yq.put _ _⟩
 |0,x::y::r,g,hk,_,_,_=>by simp at hk
 |k+1,x::y::r,g,hk,h,ho,hm=>by
  have T:2<=(x::y::r).length:=jS;rw[XY ow _ T];generalize x::y::r=l at*;have U:=h.mark;have I:¬K ((g.n+1:Nat):Int):=λe=>by have:=(h.all ((g.n+1:Nat):Int)).2 (.inr (.inl e));omega
  have h3:Zf (g.mark.put [ins 0x35 (l.getD (l.length/2) (0,0)).1 ((g.n+1:Nat):Int) 0]) (λt=>K t\/t=((g.n+1:Nat):Int)):=U.put (λx hx=>by rcases aaa.1 hx with rfl;exact⟨rfl,.inr (.inl (.inr rfl)),.inl rfl⟩)
  have D:Yq g (g.mark.put [ins 0x35 (l.getD (l.length/2) (0,0)).1 ((g.n+1:Nat):Int) 0]):=(Yq.mark g).trans (Yq.put _ _);have up:∀{t:Int} {g':G},Yq g g'->SF g K t->SF g' (λt=>K t\/t=((g.n+1:Nat):Int)) t:=λA ht=>ht.imp id (λh=>h.imp .inl A.M5)
  have C:∀{t:Int} {g':G},Yq g g'->SF g K t->SF g' K t:=λA ht=>ht.imp id (λh=>h.imp id A.M5)
  obtain⟨h4,l4⟩:=W8 ow k (l.take (l.length/2)) _ (by rw[abg];omega) h3 (up D ho) (λp hp=>up D (hm p (ald hp)));have Y:=h4.here (m:=g.n+1) jO I;have J:=(D.trans l4).trans (Yq.here _ (g.n+1));obtain⟨Z,l6⟩:=W8 ow k (l.drop (l.length/2)) _ (by rw[aia];omega) Y (C J ho) (λp hp=>C J (hm p (apc hp)));exact⟨Z,J.trans l6⟩
theorem tY{l:List (Nat×Nat)}(hr:SE l) (A:h<l.length) (ha:a<(l.getD h (0,0)).1):VJ l a=VJ (l.take h) a:=by
 unfold VJ
 conv=>lhs;rw[<-aoc h l]
 rw[awc];have:(l.drop h).find? (λp=>p.1 == a)=none:=by
  rw[ayg];intro p hp;obtain⟨j,D,rfl⟩:=ahd.1 hp;rw[List.getElem_drop];rw[aia] at D;have C:l.getD h (0,0)=l[h]:=by rw[aef,aM A];rfl
  rw[C] at ha;have:l[h].1<=l[h+j].1:=by
   by_cases e:j=0;·subst e;simp
   ·exact acd (amb.1 hr h (h+j) A jO jO)
  simp;omega
 rw[this];simp
theorem xX{l:List (Nat×Nat)}(hr:SE l) (A:h<l.length) (ha:(l.getD h (0,0)).1<=a):VJ l a=VJ (l.drop h) a:=by
 unfold VJ
 conv=>lhs;rw[<-aoc h l]
 rw[awc];have:(l.take h).find? (λp=>p.1 == a)=none:=by
  rw[ayg];intro p hp;obtain⟨j,D,rfl⟩:=ahd.1 hp;rw[List.getElem_take];rw[abg] at D;have C:l.getD h (0,0)=l[h]:=by rw[aef,aM A];rfl
  rw[C] at ha;have:l[j].1<l[h].1:=amb.1 hr j h jO A jO;simp;omega
 rw[this];simp
theorem Rb{w:Nat->Nat}{F:List Z9}{ow:Nat}{K:Int->Prop}(hF:ZT F)(ho:ow≠0):
 ∀(k:Nat) (l:List (Nat×Nat)) (g:G) (s rest:List Z9),l.length<=k->SE l->(∀p∈l,p.2≠0)->Zf g K->SF g K ow->(∀p∈l,SF g K (p.2:Int))->F=g.l++s->F=(ZI ow l g).l++rest->∀a,Wn w s a=JF w F ((VJ l a).getD ow:Nat) a
 |k,[],g,s,rest,_,_,_,_,_,_,e1,e2,a=>by
  rw[XE] at e2;have e3:F=g.l++([ins 0x05 0 ow 0]++rest):=by rw[e2,<-aba];rfl
  have hs:s=ins 0x05 0 ow 0::rest:=ajg (e1.symm.trans e3);rw[hs,show ins 0x05 0 ow 0=⟨0,0x05,0,ow,0⟩ from rfl,LQ hF (p:=g.l) (by rw[e3];rfl) jO a];rfl
 |k,[(q,m)],g,s,rest,_,_,hp,_,_,_,e1,e2,a=>by
  rw[XD] at e2;have hm:m≠0:=hp (q,m) jS;have e3:F=g.l++([ins 0x15 q m ow]++rest):=by rw[e2,<-aba];rfl
  have hs:s=ins 0x15 q m ow::rest:=ajg (e1.symm.trans e3);rw[hs,Zm hF (p:=g.l) (by rw[e3];rfl) rfl,XL];unfold VJ;by_cases h:a=q;·subst h;rw[aH jS,aN (show ¬(m:Int)=0 from jO)];simp
  ·rw[aN (by simpa using h),aN (show ¬(ow:Int)=0 from jO),anb (by simpa using λe=>h e.symm)];rfl
 |0,x::y::r,g,s,rest,hk,_,_,_,_,_,_,_,_=>by simp at hk
 |k+1,x::y::r,g,s,rest,hk,hr,hp,h,mF,hm,e1,e2,a=>by
  have h2:2<=(x::y::r).length:=jS;rw[XY ow _ h2] at e2;generalize x::y::r=l at*;have hh:l.length/2<l.length:=jO;have h1:=h.mark;have U:¬K ((g.n+1:Nat):Int):=λe=>by have:=(h.all ((g.n+1:Nat):Int)).2 (.inr (.inl e));omega
  have h3:Zf (g.mark.put [ins 0x35 (l.getD (l.length/2) (0,0)).1 ((g.n+1:Nat):Int) 0]) (λt=>K t\/t=((g.n+1:Nat):Int)):=h1.put (λx hx=>by rcases aaa.1 hx with rfl;exact⟨rfl,.inr (.inl (.inr rfl)),.inl rfl⟩)
  have D:Yq g (g.mark.put [ins 0x35 (l.getD (l.length/2) (0,0)).1 ((g.n+1:Nat):Int) 0]):=(Yq.mark g).trans (Yq.put _ _);have up:∀{t:Int} {g':G},Yq g g'->SF g K t->SF g' (λt=>K t\/t=((g.n+1:Nat):Int)) t:=λC ht=>ht.imp id (λh=>h.imp .inl C.M5)
  have A:∀{t:Int} {g':G},Yq g g'->SF g K t->SF g' K t:=λC ht=>ht.imp id (λh=>h.imp id C.M5)
  obtain⟨h4,l4⟩:=W8 ow _ (l.take (l.length/2)) _ (aP _) h3 (up D mF) (λp hp=>up D (hm p (ald hp)));have h5:=h4.here (m:=g.n+1) jO U;have I:=(D.trans l4).trans (Yq.here _ (g.n+1));obtain⟨h6,l6⟩:=W8 ow _ (l.drop (l.length/2)) _ (aP _) h5 (A I mF) (λp hp=>A I (hm p (apc hp)));obtain⟨xs,T⟩:=l4.l;obtain⟨ys,J⟩:=l6.l;have e4:F=((ZI ow (l.take (l.length/2)) (g.mark.put [ins 0x35 (l.getD (l.length/2) (0,0)).1 ((g.n+1:Nat):Int) 0])).here (g.n+1)).l++(ys++rest):=by rw[e2,J,aba]
  have e5:F=(ZI ow (l.take (l.length/2)) (g.mark.put [ins 0x35 (l.getD (l.length/2) (0,0)).1 ((g.n+1:Nat):Int) 0])).l++(Zr ((g.n+1:Nat):Int)::(ys++rest)):=by rw[e4];show((ZI ow (l.take (l.length/2)) (g.mark.put [ins 0x35 (l.getD (l.length/2) (0,0)).1 ((g.n+1:Nat):Int) 0])).l++[Zr ((g.n+1:Nat):Int)])++(ys++rest)=_;rw[aba];rfl
  have e6:F=(g.mark.put [ins 0x35 (l.getD (l.length/2) (0,0)).1 ((g.n+1:Nat):Int) 0]).l++(xs++(Zr ((g.n+1:Nat):Int)::(ys++rest))):=by rw[e5,T,aba]
  have Z:F=g.l++(ins 0x35 (l.getD (l.length/2) (0,0)).1 ((g.n+1:Nat):Int) 0::(xs++(Zr ((g.n+1:Nat):Int)::(ys++rest)))):=by rw[e6];show(g.l++[ins 0x35 (l.getD (l.length/2) (0,0)).1 ((g.n+1:Nat):Int) 0])++_=_;rw[aba];rfl
  have hs:=ajg (e1.symm.trans Z);rw[hs,Zm hF Z rfl,Hi];by_cases ha:(l.getD (l.length/2) (0,0)).1<=a;·rw[aH (ace ha),aN (show ¬((g.n+1:Nat):Int)=0 from jO),TJ hF e5 jO,xX hr hh ha];exact Rb hF ho k (l.drop (l.length/2)) _ (ys++rest) rest (by rw[aia];omega) (hr.sublist (List.drop_sublist _ _)) (λp Y=>hp p (apc Y)) h5 (A I mF) (λp hp=>A I (hm p (apc hp))) e4 e2 a
  ·rw[aN (by rw[aee ha];decide),aH rfl,tY hr hh jO];exact Rb hF ho k (l.take (l.length/2)) _ _ _ (by rw[abg];omega) (hr.sublist (List.take_sublist _ _)) (λp Y=>hp p (ald Y)) h3 (up D mF) (λp hp=>up D (hm p (ald hp))) e6 e5 a
def Zy:List (Nat×Nat)->G->G
 |[],g=>g
 |p::r,g=>Zy r (g.goes p.2)
def WQ(ow:Nat)(l:List (Nat×Nat))(g:G):G:=ZI ow (l.map λp=>(p.1,look (Zy l (g.put [ins 0x20 16 0 0])).b p.2)) (Zy l (g.put [ins 0x20 16 0 0]))
def eD(w:Nat->Nat)(d:Nat)(l:List (Nat×Nat)):Nat:=((l.find? (λp=>p.1 == w 16)).map (·.2)).getD d
theorem RX{K:Int->Prop}:∀(l:List (Nat×Nat)) (g:G),Zf g K->Zf (Zy l g) K/\Yq g (Zy l g)/\(Zy l g).l=g.l/\∀p∈l,look (Zy l g).b p.2≠0
 |[],g,h=>⟨h,Yq.refl g,rfl,λp hp=>by cases hp⟩
 |p::r,g,h=>by
  obtain⟨I,C,Z,U⟩:=h.goes p.2;obtain⟨J,D,Y,T⟩:=RX r _ I;refine⟨J,(Yq.goes h p.2).trans D,Y.trans U,λq A=> ?_⟩;rcases abf.1 A with rfl|A
  ·show look (Zy r (g.goes q.2)).b q.2≠0;rw[D.b _ C];exact C
  ·exact T q A
theorem Pm{g:G} (k:Nat):Plain g K [ins 0x20 k 0 0]:=λx hx=>by
 rcases aaa.1 hx with rfl;exact⟨rfl,.inl rfl,.inl rfl⟩
theorem SF.up{g g':G}(h:Yq g g')(ht:SF g K t):SF g' K t:=ht.imp id (λe=>e.imp id h.M5)
theorem tX(ow:Nat) (l:List (Nat×Nat))(g:G)(h:Zf g K)(ho:SF g K ow):Zf (WQ ow l g) K/\Yq g (WQ ow l g):=by
 have I:=h.put (Pm (g:=g) (K:=K) 16);have A:=Yq.put g [ins 0x20 16 0 0];obtain⟨D,C,_,U⟩:=RX l _ I;obtain⟨J,T⟩:=W8 ow _ (l.map λp=>(p.1,look (Zy l (g.put [ins 0x20 16 0 0])).b p.2)) _ (aP _) D (SF.up (A.trans C) ho) (λp hp=>by obtain⟨q,Y,rfl⟩:=ah.1 hp;exact .inr (.inr ⟨q.2,U q Y,rfl⟩))
 exact⟨J,(A.trans C).trans T⟩
theorem tW(l:List (Nat×Nat))(f:Nat->Nat)(a:Nat):VJ (l.map λp=>(p.1,f p.2)) a=((l.find? (λp=>p.1 == a)).map (·.2)).map f:=by
 unfold VJ
 induction l with
 |nil=>rfl
 |cons p r A=>
  rw[aed];by_cases h:p.1=a;·rw[aqb (by simpa using h),aqb (by simpa using h)];rfl
  ·rw[anb (by simpa using h),anb (by simpa using h)];exact A
theorem mE{w:Nat->Nat}{F:List Z9}{Bk:Nat->Nat}{ow d:Nat}{K:Int->Prop}(hF:ZT F)(hB:Pn w F Bk)(ho:ow≠0)(hd:∀a,JF w F ow a=some d)
 (l:List (Nat×Nat)) (g:G) (s rest:List Z9) (hr:SE l) (h:Zf g K) (J:SF g K ow) (hA:XR (WQ ow l g).b Bk) (e1:F=g.l++s) (e2:F=(WQ ow l g).l++rest) (a:Nat):Wn w s a=some (eD w d l):=by
 have h1:=h.put (Pm (g:=g) (K:=K) 16);have l1:=Yq.put g [ins 0x20 16 0 0];obtain⟨h2,l2,h3,I⟩:=RX l _ h1;have hm:∀p∈(l.map λp=>(p.1,look (Zy l (g.put [ins 0x20 16 0 0])).b p.2)),SF (Zy l (g.put [ins 0x20 16 0 0])) K (p.2:Int):=λp hp=>by obtain⟨q,U,rfl⟩:=ah.1 hp;exact .inr (.inr ⟨q.2,I q U,rfl⟩)
 have Y:∀p∈(l.map λp=>(p.1,look (Zy l (g.put [ins 0x20 16 0 0])).b p.2)),p.2≠0:=λp hp=>by obtain⟨q,U,rfl⟩:=ah.1 hp;exact I q U
 have A:=SF.up (l1.trans l2) J;obtain⟨h5,Z⟩:=W8 ow _ (l.map λp=>(p.1,look (Zy l (g.put [ins 0x20 16 0 0])).b p.2)) _ (aP _) h2 A hm;have D:XR (Zy l (g.put [ins 0x20 16 0 0])).b Bk:=XR.back (g':=WQ ow l g) hA Z;obtain⟨xs,T⟩:=Z.l;have e3:F=(Zy l (g.put [ins 0x20 16 0 0])).l++(xs++rest):=by rw[e2,<-aba,<-T];rfl
 have e4:F=g.l++(ins 0x20 16 0 0::(xs++rest)):=by rw[e3,h3];show(g.l++[ins 0x20 16 0 0])++_=_;rw[aba];rfl
 have hs:=ajg (e1.symm.trans e4);rw[hs,show ins 0x20 16 0 0=⟨0,0x20,16,0,0⟩ from rfl,Xd];have C:SE (l.map λp=>(p.1,look (Zy l (g.put [ins 0x20 16 0 0])).b p.2)):=by unfold SE;rw[afa];exact hr
 rw[Rb hF ho _ _ _ (xs++rest) rest (aP _) C Y h2 A hm e3 e2 (w 16),tW l (λc=>look (Zy l (g.put [ins 0x20 16 0 0])).b c)];unfold eD;cases hf:l.find? (λp=>p.1 == w 16) with
 |none=>exact hd _
 |some p=>
  have hp:=List.mem_of_find?_eq_some hf;show JF w F ((look (Zy l (g.put [ins 0x20 16 0 0])).b p.2:Nat):Int) (w 16)=some p.2;rw[<-D p.2 (I p hp)];exact hB p.2 (by rw[D p.2 (I p hp)];exact I p hp) _
inductive ZO where
 |rules (wide:Bool) (rs:List Z3)
 |subs (l:List (Nat×Nat))
def VW(ow:Nat):ZO->G->G
 | .rules wide rs,g=>XO wide ow rs g
 | .subs l,g=>WQ ow l g
def tV(w:Nat->Nat)(d:Nat):ZO->Nat
 | .rules wide rs=>Pq w wide d rs
 | .subs l=>eD w d l
def Hb:ZO->Prop
 | .rules wide rs=>∀r∈rs,∀c∈r.1,c.ok wide
 | .subs l=>SE l
theorem EU(ow:Nat){K:Int->Prop}(p:ZO)(g:G)(h:Zf g K)(ho:SF g K ow):Zf (VW ow p g) K/\Yq g (VW ow p g):=by
 cases p with
 |rules wide rs=>exact Po wide ow rs g h ho
 |subs l=>exact tX ow l g h ho
theorem mD{w:Nat->Nat}{F:List Z9}{Bk:Nat->Nat}{ow d:Nat}{K:Int->Prop}(hF:ZT F)(hw:He w)(C:Pn w F Bk)(ho:ow≠0)(hd:∀a,JF w F ow a=some d)
 (p:ZO) (g:G) (s rest:List Z9) (hp:Hb p) (h:Zf g K) (A:SF g K ow) (hA:XR (VW ow p g).b Bk) (e1:F=g.l++s) (e2:F=(VW ow p g).l++rest) (a:Nat):Wn w s a=some (tV w d p):=by
 cases p with
 |rules wide rs=>exact EW hF hw C ho hd rs g s rest hp h A hA e1 e2 a
 |subs l=>exact mE hF C ho hd l g s rest hp h A hA e1 e2 a
def Yc(ow:Nat):List ZO->Nat->G->G
 |[],_,g=>g
 |p::ps,m,g=>Yc ow ps (m+1) (VW ow p (g.here m))
def Span(m k:Nat)(t:Int):Prop:=(m:Int)<=t/\t<((m+k:Nat):Int)
theorem Zf.marks{g:G}{K:Int->Prop}(h:Zf g K):∀k:Nat,Zf ⟨g.l,g.n+k,g.b⟩ (λt=>K t\/Span (g.n+1) k t)
 |0=>h.congr (λt=>⟨.inl,λe=>e.resolve_right (λe=>by unfold Span at e;omega)⟩)
 |k+1=>by
  have A:=(Zf.marks h k).mark;refine A.congr (λt=> ?_);show((K t\/Span (g.n+1) k t)\/t=((g.n+k+1:Nat):Int))↔(K t\/Span (g.n+1) (k+1) t);unfold Span;constructor
  ·rintro((e|e)|e);·exact .inl e
   ·exact .inr ⟨e.1,jO⟩
   ·exact .inr ⟨jO,jO⟩
  ·rintro(e|e);·exact .inl (.inl e)
   ·by_cases C:t=((g.n+k+1:Nat):Int);·exact .inr C
    ·exact .inl (.inr ⟨e.1,jO⟩)
theorem U0(ow:Nat){K:Int->Prop}:∀(ps:List ZO) (m:Nat) (g:G),m≠0->(∀t,Span m ps.length t->¬K t)->Zf g (λt=>K t\/Span m ps.length t)->SF g K ow->Zf (Yc ow ps m g) K/\Yq g (Yc ow ps m g)
 |[],m,g,_,_,h,_=>⟨h.congr (λt=>⟨λe=>e.resolve_right (λe=>by unfold Span at e;simp at e;omega),.inl⟩),Yq.refl g⟩
 |p::ps,m,g,hm,hk,h,ho=>by
  have A:¬(K (m:Int)\/Span (m+1) ps.length (m:Int)):=by
   rintro(e|e);·exact hk m ⟨jO,by simp only[aj];omega⟩ e
   ·unfold Span at e;omega
  have J:Zf g (λt=>(K t\/Span (m+1) ps.length t)\/t=(m:Int)):=h.congr (λt=>by
   unfold Span;simp only[aj];constructor
   ·rintro(e|e);·exact .inl (.inl e)
    ·by_cases C:t=(m:Int);·exact .inr C
     ·exact .inl (.inr ⟨jO,jO⟩)
   ·rintro((e|e)|e);·exact .inl e
    ·exact .inr ⟨jO,jO⟩
    ·exact .inr ⟨jO,jO⟩)
  have C:=J.here hm A;have D:=Yq.here g m;obtain⟨T,I⟩:=EU ow p _ C ((SF.up D ho).imp id (λe=>e.imp .inl id));obtain⟨U,Y⟩:=U0 ow ps (m+1) _ jO (λt ht=>hk t (by unfold Span at ht ⊢;simp only[aj];omega)) T (SF.up (D.trans I) ho);exact⟨U,(D.trans I).trans Y⟩
theorem Lx{w:Nat->Nat}{F:List Z9}{Bk:Nat->Nat}{ow d:Nat}{K:Int->Prop}(hF:ZT F)(hw:He w)(Z:Pn w F Bk)(ho:ow≠0)(hd:∀a,JF w F ow a=some d):
 ∀(ps:List ZO) (m:Nat) (g:G) (rest:List Z9),m≠0->(∀t,Span m ps.length t->¬K t)->Zf g (λt=>K t\/Span m ps.length t)->SF g K ow->(∀p∈ps,Hb p)->XR (Yc ow ps m g).b Bk->F=(Yc ow ps m g).l++rest->
  ∀i p,ps[i]? =some p->∀a,JF w F ((m+i:Nat):Int) a=some (tV w d p)
 |[],m,g,rest,_,_,_,_,_,_,_,i,p,hi,_=>by simp at hi
 |q::ps,m,g,rest,hm,hk,h,mF,mC,hA,e2,i,p,hi,a=>by
  have T:¬(K (m:Int)\/Span (m+1) ps.length (m:Int)):=by
   rintro(e|e);·exact hk m ⟨jO,by simp only[aj];omega⟩ e
   ·unfold Span at e;omega
  have h1:Zf g (λt=>(K t\/Span (m+1) ps.length t)\/t=(m:Int)):=h.congr (λt=>by
   unfold Span;simp only[aj];constructor
   ·rintro(e|e);·exact .inl (.inl e)
    ·by_cases I:t=(m:Int);·exact .inr I
     ·exact .inl (.inr ⟨jO,jO⟩)
   ·rintro((e|e)|e);·exact .inl e
    ·exact .inr ⟨jO,jO⟩
    ·exact .inr ⟨jO,jO⟩)
  have I:=h1.here hm T;have Y:=Yq.here g m;have A:SF (g.here m) (λt=>K t\/Span (m+1) ps.length t) ow:=(SF.up Y mF).imp id (λe=>e.imp .inl id);obtain⟨h3,l3⟩:=EU ow q _ I A;have D:∀t,Span (m+1) ps.length t->¬K t:=λt ht=>hk t (by unfold Span at ht ⊢;simp only[aj];omega)
  have C:=SF.up (Y.trans l3) mF;obtain⟨h4,l4⟩:=U0 ow ps (m+1) _ jO D h3 C;cases i with
  |zero=>
   obtain rfl:q=p:=au hi;obtain⟨xs,U⟩:=l3.l;obtain⟨ys,J⟩:=l4.l;have e3:F=(VW ow q (g.here m)).l++(ys++rest):=by rw[e2,<-aba,<-J];rfl
   have e4:F=(g.here m).l++(xs++(ys++rest)):=by rw[e3,U,aba]
   have e5:F=g.l++Zr (m:Int)::(xs++(ys++rest)):=by rw[e4];show(g.l++[Zr (m:Int)])++_=_;rw[aba];rfl
   rw[aec,TJ hF e5 jO];exact mD hF hw Z ho hd q _ _ (ys++rest) (mC q jS) I A (XR.back (g':=Yc ow (q::ps) m g) hA l4) e4 e3 a
  |succ i=>
   have:=Lx hF hw Z ho hd ps (m+1) _ rest jO D h3 C (λp hp=>mC p (by simp[hp])) hA e2 i p (by simpa using hi) a;rw[show m+(i+1)=m+1+i from jO];exact this
def Vt:List (Nat×ZO)->Nat->List (Nat×Nat)
 |[],_=>[]
 |p::r,m=>(p.1,m)::Vt r (m+1)
theorem Uj:∀(ps:List (Nat×ZO)) (m:Nat),∀q∈Vt ps m,Span m ps.length (q.2:Int)/\∃p∈ps,p.1=q.1
 |[],_,q,A=>by cases A
 |p::r,m,q,A=>by
  rcases abf.1 A with rfl|A;·exact⟨⟨jO,by simp only[aj];omega⟩,p,jS,rfl⟩
  ·obtain⟨I,C,D,J⟩:=Uj r (m+1) q A;unfold Span at I ⊢;exact⟨⟨jO,by simp only[aj];omega⟩,C,by simp[D],J⟩
theorem Lv:∀(ps:List (Nat×ZO)) (m:Nat),ps.Pairwise (λp q=>p.1<q.1)->SE (Vt ps m)
 |[],_,_=>List.Pairwise.nil
 |p::r,m,h=>by obtain⟨D,C⟩:=age.1 h;refine age.2 ⟨λq J=> ?_,Lv r (m+1) C⟩;obtain⟨_,A,I,T⟩:=Uj r (m+1) q J;have:=D A I;show p.1<q.1;omega
theorem Jl:∀(ps:List (Nat×ZO)) (m a:Nat),(VJ (Vt ps m) a=none/\ps.find? (λp=>p.1 == a)=none)\/∃i p,ps[i]? =some p/\VJ (Vt ps m) a=some (m+i)/\ps.find? (λp=>p.1 == a)=some p
 |[],m,a=>.inl ⟨rfl,rfl⟩
 |p::r,m,a=>by
  by_cases h:p.1=a;·refine .inr ⟨0,p,rfl,?_,aqb (by simpa using h)⟩;unfold VJ Vt;rw[aqb (by simpa using h)];rfl
  ·have e1:VJ (Vt (p::r) m) a=VJ (Vt r (m+1)) a:=by
    unfold VJ;show((((p.1,m)::Vt r (m+1)).find? (λp=>p.1 == a)).map (·.2))=_;rw[anb (by simpa using h)]
   have e2:(p::r).find? (λp=>p.1 == a)=r.find? (λp=>p.1 == a):=anb (by simpa using h);rw[e1,e2];rcases Jl r (m+1) a with A|⟨i,q,A,C,D⟩;·exact .inl A
   ·exact .inr ⟨i+1,q,by simpa using A,by rw[C];congr 1;omega,D⟩
def Za(d:Nat)(ps:List (Nat×ZO))(g:G):G:=
 Yc (look (g.goes d).b d) (ps.map (·.2)) ((g.goes d).n+1) (ZI (look (g.goes d).b d) (Vt ps ((g.goes d).n+1)) ⟨(g.goes d).l,(g.goes d).n+ps.length,(g.goes d).b⟩)
def UZ(w:Nat->Nat)(d:Nat)(ps:List (Nat×ZO))(a:Nat):Nat:=((ps.find? (λp=>p.1 == a)).map (λp=>tV w d p.2)).getD d
def WO(ps:List (Nat×ZO)):Prop:=ps.Pairwise (λp q=>p.1<q.1)/\∀p∈ps,Hb p.2
theorem OW{d:Nat}{ps:List (Nat×ZO)}{g:G} (h:Zf g K):
 look (g.goes d).b d≠0/\Yq g (g.goes d)/\(g.goes d).l=g.l/\
 Zf ⟨(g.goes d).l,(g.goes d).n+ps.length,(g.goes d).b⟩ (λt=>K t\/Span ((g.goes d).n+1) ps.length t)/\
 (∀t,Span ((g.goes d).n+1) ps.length t->¬K t)/\
 Zf (ZI (look (g.goes d).b d) (Vt ps ((g.goes d).n+1)) ⟨(g.goes d).l,(g.goes d).n+ps.length,(g.goes d).b⟩) (λt=>K t\/Span ((g.goes d).n+1) ps.length t)/\
 Yq g (ZI (look (g.goes d).b d) (Vt ps ((g.goes d).n+1)) ⟨(g.goes d).l,(g.goes d).n+ps.length,(g.goes d).b⟩)/\
 Yq ⟨(g.goes d).l,(g.goes d).n+ps.length,(g.goes d).b⟩ (ZI (look (g.goes d).b d) (Vt ps ((g.goes d).n+1)) ⟨(g.goes d).l,(g.goes d).n+ps.length,(g.goes d).b⟩):=by
 obtain⟨D,C,_,h4⟩:=h.goes d;have J:=Yq.goes h d;have I:=D.marks ps.length;have U:Yq (g.goes d) ⟨(g.goes d).l,(g.goes d).n+ps.length,(g.goes d).b⟩:=⟨⟨[],jS⟩,by show(g.goes d).n<=(g.goes d).n+ps.length;omega,λ_ _=>rfl⟩;have Z:∀{K:Int->Prop} {g':G},Yq (g.goes d) g'->SF g' K (look (g.goes d).b d:Nat):=λA=>.inr (.inr (A.M5 ⟨d,C,rfl⟩))
 obtain⟨Y,T⟩:=W8 (look (g.goes d).b d) _ (Vt ps ((g.goes d).n+1)) _ (aP _) I (Z U) (λp hp=>.inr (.inl (.inr (Uj _ _ p hp).1)));refine⟨C,J,h4,I,λt ht hk=> ?_,Y,(J.trans U).trans T,T⟩;have:=(D.all t).2 (.inr (.inl hk));unfold Span at ht;omega
theorem Yd{d:Nat}{ps:List (Nat×ZO)}{g:G} (h:Zf g K):Zf (Za d ps g) K/\Yq g (Za d ps g)/\look (Za d ps g).b d≠0:=by
 obtain⟨A,l1,_,_,hk,J,U,l7⟩:=OW (d:=d) (ps:=ps) h;have T:∀{K:Int->Prop} {g':G},Yq (g.goes d) g'->SF g' K (look (g.goes d).b d:Nat):=λC=>.inr (.inr (C.M5 ⟨d,A,rfl⟩))
 have Y:Yq (g.goes d) ⟨(g.goes d).l,(g.goes d).n+ps.length,(g.goes d).b⟩:=⟨⟨[],jS⟩,by show(g.goes d).n<=(g.goes d).n+ps.length;omega,λ_ _=>rfl⟩;have D:=Y.trans l7;obtain⟨Z,I⟩:=U0 (look (g.goes d).b d) (ps.map (·.2)) ((g.goes d).n+1) _ jO (by rw[aac];exact hk) (by rw[aac];exact J) (T D);refine⟨Z,U.trans I,?_⟩;have:=(D.trans I).b d A;show look (Yc _ _ _ _).b d≠0;rw[this];exact A
theorem Ui {F:List Z9} {d:Nat} (hF:ZT F)(hw:He w)(hB:Pn w F Bk)
 (ps:List (Nat×ZO)) (g:G) (s rest:List Z9) (C:WO ps) (h:Zf g K) (hA:XR (Za d ps g).b Bk) (e1:F=g.l++s) (e2:F=(Za d ps g).l++rest) (a:Nat):Wn w s a=some (UZ w d ps a):=by
 obtain⟨A,l1,h4,h5,hk,h6,l6,l7⟩:=OW (d:=d) (ps:=ps) h;have tB:∀{K:Int->Prop} {g':G},Yq (g.goes d) g'->SF g' K (look (g.goes d).b d:Nat):=λT=>.inr (.inr (T.M5 ⟨d,A,rfl⟩))
 have l5:Yq (g.goes d) ⟨(g.goes d).l,(g.goes d).n+ps.length,(g.goes d).b⟩:=⟨⟨[],jS⟩,by show(g.goes d).n<=(g.goes d).n+ps.length;omega,λ_ _=>rfl⟩;have U:=l5.trans l7;obtain⟨h9,l9⟩:=U0 (look (g.goes d).b d) (ps.map (·.2)) ((g.goes d).n+1) _ jO (by rw[aac];exact hk) (by rw[aac];exact h6) (tB U);have D:Bk d=look (g.goes d).b d:=by have hx:=(U.trans l9).b d A;rw[hA d (by show look (Yc _ _ _ _).b d≠0;rw[hx];exact A)];exact hx
 have hd:∀a,JF w F ((look (g.goes d).b d:Nat):Int) a=some d:=by rw[<-D];exact hB d (by rw[D];exact A)
 obtain⟨ys,I⟩:=l9.l;have e3:F=(ZI (look (g.goes d).b d) (Vt ps ((g.goes d).n+1)) ⟨(g.goes d).l,(g.goes d).n+ps.length,(g.goes d).b⟩).l++(ys++rest):=by rw[e2,<-aba,<-I];rfl
 have e4:F=(G.mk (g.goes d).l ((g.goes d).n+ps.length) (g.goes d).b).l++s:=by show F=(g.goes d).l++s;rw[h4];exact e1
 rw[Rb hF A _ _ _ s (ys++rest) (aP _) (Lv ps _ C.1) (λp hp=>by have:=(Uj _ _ p hp).1;unfold Span at this;omega) h5 (tB l5) (λp hp=>.inr (.inl (.inr (Uj _ _ p hp).1))) e4 e3 a];unfold UZ;rcases Jl ps ((g.goes d).n+1) a with⟨J,Y⟩|⟨i,p,f0,J,Y⟩
 ·rw[J,Y];exact hd a
 ·rw[J,Y]
  exact Lx hF hw hB A hd (ps.map (·.2)) ((g.goes d).n+1) _ rest jO (by rw[aac];exact hk) (by rw[aac];exact h6) (tB U) (λq hq=>by obtain⟨q',Z,rfl⟩:=ah.1 hq;exact C.2 q' Z) hA e2 i p.2 (by rw[ada,f0];rfl) a
def Zo:Nat:=0x80000000
def Wj:Nat:=0x40000000
def NONE:Nat:=0xffffffff
def UD(Vy:Bool)(d:Nat)(L9 CV:List (Nat×ZO))(g:G):G:=
 let g1:=(g.goes d).put [ins 0x15 NONE (look (g.goes d).b d) 0]
 if Vy=false then Za d L9 ((g1.goes Zo).put [ins 0x45 Wj (look (g1.goes Zo).b Zo) 0])
 else Za d CV ((Za d L9 (g1.mark.put [ins 0x45 Wj ((g1.n+1:Nat):Int) 0])).here (g1.n+1))
def xW(w:Nat->Nat)(Vy:Bool)(d:Nat)(L9 CV:List (Nat×ZO))(a:Nat):Nat:=
 if a=NONE then d else if a &&& Wj≠0 then(if Vy=false then Zo else UZ w d CV a) else UZ w d L9 a
theorem Vs{g:G} (h:Zf g K){c k:Nat} (ht:SF g K t):Zf (g.put [ins c k t 0]) K:=h.put (λx hx=>by
 rcases aaa.1 hx with rfl;exact⟨rfl,ht,.inl rfl⟩)
theorem zG{Vy:Bool}{d:Nat}{L9 CV:List (Nat×ZO)}{g:G}{K:Int->Prop}(h:Zf g K):Zf (UD Vy d L9 CV g) K/\Yq g (UD Vy d L9 CV g):=by
 obtain⟨h1,I,_,_⟩:=h.goes d;have l1:=Yq.goes h d;have A:=Vs (c:=0x15) (k:=NONE) h1 (.inr (.inr ⟨d,I,rfl⟩));have Z:=l1.trans (Yq.put (g.goes d) [ins 0x15 NONE (look (g.goes d).b d) 0]);unfold UD;dsimp only;generalize (g.goes d).put [ins 0x15 NONE (look (g.goes d).b d) 0]=g1 at*;cases Vy with
 |false=>
  rw[aH rfl];obtain⟨J,C,_,_⟩:=A.goes Zo;have l3:=Z.trans (Yq.goes A Zo);have U:=Vs (c:=0x45) (k:=Wj) J (.inr (.inr ⟨Zo,C,rfl⟩));have Y:=l3.trans (Yq.put (g1.goes Zo) [ins 0x45 Wj (look (g1.goes Zo).b Zo) 0]);obtain⟨D,T,_⟩:=Yd (d:=d) (ps:=L9) U;exact⟨D,Y.trans T⟩
 |true=>
  rw[aN jD];have J:=A.mark;have U:Zf (g1.mark.put [ins 0x45 Wj ((g1.n+1:Nat):Int) 0]) (λt=>K t\/t=((g1.n+1:Nat):Int)):=Vs (c:=0x45) (k:=Wj) J (.inr (.inl (.inr rfl)));have Y:Yq g (g1.mark.put [ins 0x45 Wj ((g1.n+1:Nat):Int) 0]):=(Z.trans (Yq.mark g1)).trans (Yq.put _ _);obtain⟨D,T,_⟩:=Yd (d:=d) (ps:=L9) U;have hk:¬K ((g1.n+1:Nat):Int):=λe=>by have:=(A.all ((g1.n+1:Nat):Int)).2 (.inr (.inl e));omega
  have h6:=D.here (m:=g1.n+1) jO hk;obtain⟨h7,l7,_⟩:=Yd (d:=d) (ps:=CV) h6;exact⟨h7,((Y.trans T).trans (Yq.here _ _)).trans l7⟩
theorem ez{w:Nat->Nat}{F:List Z9}{Bk:Nat->Nat}{Vy:Bool}{d:Nat}{L9 CV:List (Nat×ZO)}{g:G}{K:Int->Prop}(hF:ZT F)(hw:He w)(U:Pn w F Bk)(ok0:WO L9)(ok1:WO CV)(s rest:List Z9)(h:Zf g K)(hA:XR (UD Vy d L9 CV g).b Bk)(e1:F=g.l++s)(e2:F=(UD Vy d L9 CV g).l++rest)(a:Nat):
 Wn w s a=some (xW w Vy d L9 CV a):=by
 obtain⟨h1,I,_,h1l⟩:=h.goes d;have l1:=Yq.goes h d;have h2:=Vs (c:=0x15) (k:=NONE) h1 (.inr (.inr ⟨d,I,rfl⟩));have l2:=Yq.put (g.goes d) [ins 0x15 NONE (look (g.goes d).b d) 0];have A:((g.goes d).put [ins 0x15 NONE (look (g.goes d).b d) 0]).l=g.l++[ins 0x15 NONE (look (g.goes d).b d) 0]:=by show(g.goes d).l++_=_;rw[h1l]
 unfold UD at hA e2;dsimp only at hA e2;obtain⟨M,hM⟩:∃M,M=look (g.goes d).b d:=⟨_,rfl⟩;have hM0:M≠0:=by rw[hM];exact I
 rw[<-hM] at hA e2 h2 l2 A;generalize (g.goes d).put [ins 0x15 NONE M 0]=g1 at*;have T:∀{g':G},Yq g1 g'->XR g'.b Bk->Bk d=M/\∀a,JF w F (M:Int) a=some d:=λhle hag=>by have hb:=(XR.back (XR.back hag hle) l2) d I;rw[<-hM] at hb;refine⟨hb,?_⟩;have:=U d (by rw[hb];exact hM0);rw[hb] at this;exact this
 unfold xW;cases Vy with
 |false=>
  rw[aH rfl] at hA e2;obtain⟨h3,C,_,h3l⟩:=h2.goes Zo;have l3:=Yq.goes h2 Zo;have h4:=Vs (c:=0x45) (k:=Wj) h3 (.inr (.inr ⟨Zo,C,rfl⟩));have l4:=Yq.put (g1.goes Zo) [ins 0x45 Wj (look (g1.goes Zo).b Zo) 0];obtain⟨h5,J,_⟩:=Yd (d:=d) (ps:=L9) h4;obtain⟨xs,D⟩:=J.l;have Y:Bk Zo=look (g1.goes Zo).b Zo:=(XR.back (XR.back hA J) l4) Zo C;have e3:F=((g1.goes Zo).put [ins 0x45 Wj (look (g1.goes Zo).b Zo) 0]).l++(xs++rest):=by rw[e2,D,aba]
  have e4:F=g1.l++(ins 0x45 Wj (look (g1.goes Zo).b Zo) 0::(xs++rest)):=by rw[e3];show((g1.goes Zo).l++[_])++_=_;rw[h3l,aba];rfl
  have e5:F=g.l++(ins 0x15 NONE M 0::ins 0x45 Wj (look (g1.goes Zo).b Zo) 0::(xs++rest)):=by rw[e4,A];simp
  have hs:=ajg (e1.symm.trans e5);rw[hs,Zm hF e5 rfl,XL];by_cases ha:a=NONE;·rw[aH (by simpa using ha),aN (show ¬(M:Int)=0 from jO),aH ha];exact(T ((l3.trans l4).trans J) hA).2 a
  ·rw[aN (by simpa using ha),aH rfl,aN ha,Zm hF e4 rfl,zI];by_cases hb:a &&& Wj=0;·rw[aN (by simpa using hb),aH rfl,aN (by simpa using hb)];exact Ui hF hw U L9 _ _ rest ok0 h4 hA e3 e2 a
   ·rw[aH (by simpa using hb),aN (show ¬((look (g1.goes Zo).b Zo:Nat):Int)=0 from jO),aH (by simpa using hb),aH rfl,<-Y];exact U Zo (by rw[Y];exact C) a
 |true=>
  rw[aN jD] at hA e2;have h3:=h2.mark;have h4:Zf (g1.mark.put [ins 0x45 Wj ((g1.n+1:Nat):Int) 0]) (λt=>K t\/t=((g1.n+1:Nat):Int)):=Vs (c:=0x45) (k:=Wj) h3 (.inr (.inl (.inr rfl)));have l4:Yq g1 (g1.mark.put [ins 0x45 Wj ((g1.n+1:Nat):Int) 0]):=(Yq.mark g1).trans (Yq.put _ _);obtain⟨h5,J,_⟩:=Yd (d:=d) (ps:=L9) h4;have hk:¬K ((g1.n+1:Nat):Int):=λe=>by have:=(h2.all ((g1.n+1:Nat):Int)).2 (.inr (.inl e));omega
  have h6:=h5.here (m:=g1.n+1) jO hk;have l6:=Yq.here (Za d L9 (g1.mark.put [ins 0x45 Wj ((g1.n+1:Nat):Int) 0])) (g1.n+1);obtain⟨h7,l7,_⟩:=Yd (d:=d) (ps:=CV) h6;obtain⟨xs,D⟩:=J.l;obtain⟨ys,hys⟩:=l7.l;have e3:F=((Za d L9 (g1.mark.put [ins 0x45 Wj ((g1.n+1:Nat):Int) 0])).here (g1.n+1)).l++(ys++rest):=by rw[e2,hys,aba]
  have e4:F=(Za d L9 (g1.mark.put [ins 0x45 Wj ((g1.n+1:Nat):Int) 0])).l++(Zr ((g1.n+1:Nat):Int)::(ys++rest)):=by rw[e3];show((Za d L9 _).l++[_])++_=_;rw[aba];rfl
  have e5:F=(g1.mark.put [ins 0x45 Wj ((g1.n+1:Nat):Int) 0]).l++(xs++(Zr ((g1.n+1:Nat):Int)::(ys++rest))):=by rw[e4,D,aba]
  have e6:F=g1.l++(ins 0x45 Wj ((g1.n+1:Nat):Int) 0::(xs++(Zr ((g1.n+1:Nat):Int)::(ys++rest)))):=by rw[e5];show(g1.l++[_])++_=_;rw[aba];rfl
  have e7:F=g.l++(ins 0x15 NONE M 0::ins 0x45 Wj ((g1.n+1:Nat):Int) 0::(xs++(Zr ((g1.n+1:Nat):Int)::(ys++rest)))):=by rw[e6,A];simp
  have hs:=ajg (e1.symm.trans e7);have hA6:=XR.back hA l7;have Z:XR (Za d L9 (g1.mark.put [ins 0x45 Wj ((g1.n+1:Nat):Int) 0])).b Bk:=XR.back hA6 l6;rw[hs,Zm hF e7 rfl,XL];by_cases ha:a=NONE;·rw[aH (by simpa using ha),aN (show ¬(M:Int)=0 from jO),aH ha];exact(T (l4.trans J) Z).2 a
  ·rw[aN (by simpa using ha),aH rfl,aN ha,Zm hF e6 rfl,zI];by_cases hb:a &&& Wj=0;·rw[aN (by simpa using hb),aH rfl,aN (by simpa using hb)];exact Ui hF hw U L9 _ _ _ ok0 h4 Z e5 e4 a
   ·rw[aH (by simpa using hb),aN (show ¬((g1.n+1:Nat):Int)=0 from jO),aH (by simpa using hb),aN jD,TJ hF e4 jO];exact Ui hF hw U CV _ _ rest ok1 h6 hA e3 e2 a
def RV:Nat:=0xc000003e
def QR:Nat:=0x40000003
def QQ:Nat:=0xc00000b7
def QP:Nat:=0xc00000f3
def Zx(b:List (Nat×Nat))(cs:List Nat):List Z9:=cs.flatMap λc=>[Zr (look b c),ins 0x06 c 0 0]
def Lu:G:=⟨[ins 0x20 4 0 0,ins 0x15 RV 1 0,ins 0x15 QR 2 0,ins 0x15 QQ 3 0,ins 0x15 QP 4 0],4,[]⟩
def XK:G:=(Lu.goes Zo).put [ins 0x05 0 (look (Lu.goes Zo).b Zo) 0]
def Vr(m:Nat)(g:G):G:=(g.here m).put [ins 0x20 0 0 0]
structure YH where
 Vy:Bool
 d:Nat
 (p0 p1 p2 p3 p4:List (Nat×ZO))
def YH.ok(p:YH):Prop:=WO p.p0/\WO p.p1/\WO p.p2/\WO p.p3/\WO p.p4
def gA(p:YH):G:=UD p.Vy p.d p.p0 p.p1 (Vr 1 XK)
def gB(p:YH):G:=Za p.d p.p2 (Vr 2 (gA p))
def gC(p:YH):G:=Za p.d p.p3 (Vr 3 (gB p))
def gD(p:YH):G:=Za p.d p.p4 (Vr 4 (gC p))
def ZN(p:YH)(cs:List Nat):List Z9:=(gD p).l++Zx (gD p).b cs
def ET(w:Nat->Nat)(p:YH):Nat:=
 if w 4=RV then xW w p.Vy p.d p.p0 p.p1 (w 0)
 else if w 4=QR then UZ w p.d p.p2 (w 0)
 else if w 4=QQ then UZ w p.d p.p3 (w 0)
 else if w 4=QP then UZ w p.d p.p4 (w 0)
 else Zo
def SD(m k:Nat)(t:Int):Prop:=(m:Int)<=t/\t<=(k:Int)
theorem ES:Zf Lu (SD 1 4):=by
 have C:Zf ⟨[ins 0x20 4 0 0],0,[]⟩ (λ_=>False):=by
  refine⟨λt=> ?_,λt e=>e.elim,λt ⟨c,e,_⟩=>(e rfl).elim,?_,λc d _ e=>(e rfl).elim,λp hp=>by cases hp⟩
  ·show(1<=t/\t<=((0:Nat):Int))↔(t∈([]:List Int)\/False\/_);constructor;·intro h;omega
   ·rintro(h|h|⟨c,h,_⟩)
    ·cases h
    ·exact h.elim
    ·exact(h rfl).elim
  ·exact⟨trivial,by rw[aN (λe=>e rfl)];exact⟨λe=>(e rfl).elim,λe=>(e rfl).elim⟩⟩
 have D:=Vs (c:=0x15) (k:=RV) (t:=1) C.mark (.inr (.inl (.inr rfl)));have A:=Vs (c:=0x15) (k:=QR) (t:=2) D.mark (.inr (.inl (.inr rfl)));have I:=Vs (c:=0x15) (k:=QQ) (t:=3) A.mark (.inr (.inl (.inr rfl)));have J:=Vs (c:=0x15) (k:=QP) (t:=4) I.mark (.inr (.inl (.inr rfl)));refine Zf.congr (g:=Lu) J (λt=> ?_);unfold SD;constructor
 ·rintro((((h|h)|h)|h)|h);·exact h.elim
  ·have h:t=1:=h;omega
  ·have h:t=2:=h;omega
  ·have h:t=3:=h;omega
  ·have h:t=4:=h;omega
 ·intro h;have:t=1\/t=2\/t=3\/t=4:=jO;rcases this with rfl|rfl|rfl|rfl;·exact .inl (.inl (.inl (.inr rfl)))
  ·exact .inl (.inl (.inr rfl))
  ·exact .inl (.inr rfl)
  ·exact .inr rfl
theorem OV:Zf XK (SD 1 4)/\Yq Lu XK/\look XK.b Zo≠0:=by
 obtain⟨C,A,_,_⟩:=ES.goes Zo;exact⟨Vs C (.inr (.inr ⟨Zo,A,rfl⟩)),(Yq.goes ES Zo).trans (Yq.put _ _),A⟩
theorem UY{g:G}{m:Nat}(hm:m≠0)(h:Zf g (SD m 4))(D:m<=4):Zf (Vr m g) (SD (m+1) 4)/\Yq g (Vr m g):=by
 have A:Zf g (λt=>SD (m+1) 4 t\/t=(m:Int)):=h.congr (λt=>by
  unfold SD;constructor
  ·intro e;by_cases e2:t=(m:Int);·exact .inr e2
   ·exact .inl ⟨jO,e.2⟩
  ·rintro(e|e);·exact⟨jO,e.2⟩
   ·exact⟨jO,jO⟩)
 have C:=A.here hm (λe=>by unfold SD at e;omega);exact⟨C.put (Pm 0),(Yq.here g m).trans (Yq.put _ _)⟩
theorem Uh(p:YH):Zf (gA p) (SD 2 4)/\Zf (gB p) (SD 3 4)/\Zf (gC p) (SD 4 4)/\Zf (gD p) (λ_=>False)/\Yq XK (gA p)/\Yq (gA p) (gB p)/\Yq (gB p) (gC p)/\Yq (gC p) (gD p):=by
 obtain⟨h0,_,_⟩:=OV;obtain⟨U,Z⟩:=UY jD h0 jD;obtain⟨A,J⟩:=zG (Vy:=p.Vy) (d:=p.d) (L9:=p.p0) (CV:=p.p1) U;obtain⟨h3,T⟩:=UY (m:=2) jD A jD;obtain⟨D,l4,_⟩:=Yd (d:=p.d) (ps:=p.p2) h3;obtain⟨Y,l5⟩:=UY (m:=3) jD D jD;obtain⟨C,l6,_⟩:=Yd (d:=p.d) (ps:=p.p3) Y;obtain⟨I,l7⟩:=UY (m:=4) jD C jD;obtain⟨h8,l8,_⟩:=Yd (d:=p.d) (ps:=p.p4) I;exact⟨A,D,C,h8.congr (λt=>⟨λe=>by unfold SD at e;omega,λe=>e.elim⟩),Z.trans J,T.trans l4,l5.trans l6,l7.trans l8⟩
def OU(p:YH)(cs:List Nat):Prop:=cs.Nodup/\∀c,c∈cs↔look (gD p).b c≠0
theorem WN(b:List (Nat×Nat)):∀cs:List Nat,(∀c∈cs,look b c≠0)->marks (Zx b cs)=cs.map λc=>((look b c:Nat):Int)
 |[],_=>rfl
 |c::cs,h=>by have A:=WN b cs (λd hd=>h d (by simp[hd]));have hc:=h c jS;show marks ([Zr (look b c),ins 0x06 c 0 0]++Zx b cs)=_;rw[WZ,A,Zq (show(Zr (look b c)).mark≠0 by show((look b c:Nat):Int)≠0;omega),Y2 (show(ins 0x06 c 0 0).mark=0 from rfl)];rfl
theorem Jk{b:List (Nat×Nat)}(one:∀c d,look b c=look b d->look b c≠0->c=d):∀cs:List Nat,cs.Nodup->(∀c∈cs,look b c≠0)->PF (λ_=>False) (Zx b cs)
 |[],_,_=>trivial
 |c::cs,hn,h=>by
  obtain⟨C,A⟩:=ayd.1 hn;have D:=Jk one cs A (λd hd=>h d (by simp[hd]));have hc:=h c jS;show PF _ ([Zr (look b c),ins 0x06 c 0 0]++Zx b cs);refine⟨⟨D,?_⟩,?_⟩;·rw[aN (λe=>e rfl)];exact⟨λe=>(e rfl).elim,λe=>(e rfl).elim⟩
  ·rw[aH (show(Zr (look b c)).mark≠0 by show((look b c:Nat):Int)≠0;omega)];show((look b c:Nat):Int)∉marks (ins 0x06 c 0 0::Zx b cs);rw[Y2 rfl,WN b cs (λd hd=>h d (by simp[hd]))];intro e;obtain⟨d,hd,e2⟩:=ah.1 e;have e2:look b d=look b c:=jO;exact C (one c d e2.symm hc▸hd)
theorem VE{p:YH}{cs:List Nat}(hc:OU p cs):ZT (ZN p cs):=by
 obtain⟨_,_,_,h,_⟩:=Uh p;have hl:∀c∈cs,look (gD p).b c≠0:=λc hm=>(hc.2 c).1 hm
 refine PF.formed (PF.app h.pf (Jk h.one cs hc.1 hl) (λm hm e=> ?_) (λt ht=> ?_));·rw[WN _ cs hl] at e;obtain⟨c,A,rfl⟩:=ah.1 e;exact h.xY _ ⟨c,hl c A,rfl⟩ hm
 ·rcases ht with ht|⟨c,A,rfl⟩;·exact ht.elim
  ·left
   rw[WN _ cs hl];exact ah.2 ⟨c,(hc.2 c).2 A,rfl⟩
theorem Jj(b:List (Nat×Nat)):∀(cs:List Nat) (c:Nat),c∈cs->∃x y,Zx b cs=x++Zr (look b c)::ins 0x06 c 0 0::y
 |e::cs,c,h=>by
  rcases abf.1 h with rfl|h;·exact⟨[],Zx b cs,rfl⟩
  ·obtain⟨x,y,A⟩:=Jj b cs c h;refine⟨[Zr (look b e),ins 0x06 e 0 0]++x,y,?_⟩;show [Zr (look b e),ins 0x06 e 0 0]++Zx b cs=_;rw[A,aba]
theorem Ha {p:YH}{cs:List Nat}(hc:OU p cs):Pn w (ZN p cs) (look (gD p).b):=by
 intro c h a;obtain⟨x,y,e⟩:=Jj (gD p).b cs c ((hc.2 c).2 h);have e2:ZN p cs=((gD p).l++x)++Zr (look (gD p).b c)::ins 0x06 c 0 0::y:=by unfold ZN;rw[e,aba]
 rw[TJ (VE hc) e2 jO,show ins 0x06 c 0 0=⟨0,0x06,c,0,0⟩ from rfl,eE]
theorem G9 {F:List Z9}{g g':G}{m:Nat}{rest:List Z9}(hF:ZT F)(hm:m≠0)(l:Yq (Vr m g) g')(e:F=g'.l++rest)(a:Nat):
 ∃s,F=(Vr m g).l++s/\JF w F (m:Int) a=Wn w s (w 0):=by
 obtain⟨xs,A⟩:=l.l;have e2:F=(Vr m g).l++(xs++rest):=by rw[e,A,aba]
 have e3:F=g.l++Zr (m:Int)::ins 0x20 0 0 0::(xs++rest):=by rw[e2];show(g.l++[Zr (m:Int)]++[ins 0x20 0 0 0])++_=_;simp
 refine⟨_,e2,?_⟩;rw[TJ hF e3 jO,show ins 0x20 0 0 0=⟨0,0x20,0,0,0⟩ from rfl,Xd]
theorem tU {p:YH}{cs:List Nat}(hw:He w)(C:p.ok)(hc:OU p cs)(a:Nat):Wn w (ZN p cs) a=some (ET w p):=by
 have hF:=VE hc;have I:=Ha (w:=w) hc;obtain⟨h0,l0,hk⟩:=OV;obtain⟨iA,iB,iC,iD,lA,lB,lC,lD⟩:=Uh p;have aD:XR (gD p).b (look (gD p).b):=λ_ _=>rfl
 have aC:=XR.back aD lD;have aB:=XR.back aC lC;have aA:=XR.back aB lB;have aK:=XR.back aA lA;obtain⟨Y,hD⟩:=lD.l;obtain⟨xC,hC⟩:=lC.l;obtain⟨xB,hB'⟩:=lB.l;obtain⟨xA,hA⟩:=lA.l;have Z:ZN p cs=(gD p).l++Zx (gD p).b cs:=rfl;have eC:ZN p cs=(gC p).l++(Y++Zx (gD p).b cs):=by rw[Z,hD,aba]
 have eB:ZN p cs=(gB p).l++(xC++(Y++Zx (gD p).b cs)):=by rw[eC,hC,aba]
 have eA:ZN p cs=(gA p).l++(xB++(xC++(Y++Zx (gD p).b cs))):=by rw[eB,hB',aba]
 obtain⟨rest,A⟩:∃rest,ZN p cs=XK.l++rest:=⟨xA++(xB++(xC++(Y++Zx (gD p).b cs))),by rw[eA,hA,aba]⟩;have t0:=UY (m:=1) jD h0 jD;have t2:=UY (m:=2) jD iA jD;have t3:=UY (m:=3) jD iB jD;have t4:=UY (m:=4) jD iC jD;have j1:∀a,JF w (ZN p cs) ((1:Nat):Int) a=some (xW w p.Vy p.d p.p0 p.p1 (w 0)):=by intro a;obtain⟨s,e1,e2⟩:=G9 (w:=w) hF (m:=1) jD (zG (Vy:=p.Vy) (d:=p.d) (L9:=p.p0) (CV:=p.p1) t0.1).2 eA a;rw[e2];exact ez hF hw I C.1 C.2.1 s _ t0.1 aA e1 eA (w 0)
 have j2:∀a,JF w (ZN p cs) ((2:Nat):Int) a=some (UZ w p.d p.p2 (w 0)):=by intro a;obtain⟨s,e1,e2⟩:=G9 (w:=w) hF (m:=2) jD (Yd (d:=p.d) (ps:=p.p2) t2.1).2.1 eB a;rw[e2];exact Ui hF hw I p.p2 _ s _ C.2.2.1 t2.1 aB e1 eB (w 0)
 have j3:∀a,JF w (ZN p cs) ((3:Nat):Int) a=some (UZ w p.d p.p3 (w 0)):=by intro a;obtain⟨s,e1,e2⟩:=G9 (w:=w) hF (m:=3) jD (Yd (d:=p.d) (ps:=p.p3) t3.1).2.1 eC a;rw[e2];exact Ui hF hw I p.p3 _ s _ C.2.2.2.1 t3.1 aC e1 eC (w 0)
 have j4:∀a,JF w (ZN p cs) ((4:Nat):Int) a=some (UZ w p.d p.p4 (w 0)):=by intro a;obtain⟨s,e1,e2⟩:=G9 (w:=w) hF (m:=4) jD (Yd (d:=p.d) (ps:=p.p4) t4.1).2.1 Z a;rw[e2];exact Ui hF hw I p.p4 _ s _ C.2.2.2.2 t4.1 aD e1 Z (w 0)
 have hkl:XK.l=[ins 0x20 4 0 0,ins 0x15 RV 1 0,ins 0x15 QR 2 0,ins 0x15 QQ 3 0,ins 0x15 QP 4 0,ins 0x05 0 (look XK.b Zo) 0]:=rfl;have D:=aK Zo hk;rw[hkl] at A;have r1:ZN p cs=[ins 0x20 4 0 0]++ins 0x15 RV 1 0::ins 0x15 QR 2 0::ins 0x15 QQ 3 0::ins 0x15 QP 4 0::ins 0x05 0 (look XK.b Zo) 0::rest:=A;have r2:ZN p cs=[ins 0x20 4 0 0,ins 0x15 RV 1 0]++ins 0x15 QR 2 0::ins 0x15 QQ 3 0::ins 0x15 QP 4 0::ins 0x05 0 (look XK.b Zo) 0::rest:=A;have r3:ZN p cs=[ins 0x20 4 0 0,ins 0x15 RV 1 0,ins 0x15 QR 2 0]++ins 0x15 QQ 3 0::ins 0x15 QP 4 0::ins 0x05 0 (look XK.b Zo) 0::rest:=A;have r4:ZN p cs=[ins 0x20 4 0 0,ins 0x15 RV 1 0,ins 0x15 QR 2 0,ins 0x15 QQ 3 0]++ins 0x15 QP 4 0::ins 0x05 0 (look XK.b Zo) 0::rest:=A;have r5:ZN p cs=[ins 0x20 4 0 0,ins 0x15 RV 1 0,ins 0x15 QR 2 0,ins 0x15 QQ 3 0,ins 0x15 QP 4 0]++⟨0,0x05,0,(look XK.b Zo:Nat),0⟩::rest:=A;have start:Wn w (ZN p cs) a=Wn w (ins 0x15 RV 1 0::ins 0x15 QR 2 0::ins 0x15 QQ 3 0::ins 0x15 QP 4 0::ins 0x05 0 (look XK.b Zo) 0::rest) (w 4):=by rw[A];exact Xd w _ 4 0 0 a
 rw[start];unfold ET;rw[Zm hF r1 rfl,XL];by_cases c0:w 4=RV;·rw[aH (by simpa using c0),aN jD,aH c0];exact j1 _
 ·rw[aN (by simpa using c0),aH rfl,aN c0,Zm hF r2 rfl,XL];by_cases U:w 4=QR;·rw[aH (by simpa using U),aN jD,aH U];exact j2 _
  ·rw[aN (by simpa using U),aH rfl,aN U,Zm hF r3 rfl,XL];by_cases J:w 4=QQ;·rw[aH (by simpa using J),aN jD,aH J];exact j3 _
   ·rw[aN (by simpa using J),aH rfl,aN J,Zm hF r4 rfl,XL];by_cases T:w 4=QP;·rw[aH (by simpa using T),aN jD,aH T];exact j4 _
    ·rw[aN (by simpa using T),aH rfl,aN T];have hj:=LQ (w:=w) hF r5 jO (w 4);rw[show ins 0x05 0 (look XK.b Zo:Nat) 0=⟨0,0x05,0,(look XK.b Zo:Nat),0⟩ from rfl,hj,<-D];exact I Zo (by rw[D];exact hk) _
end Go.Proofs.YtclgigmgbebhgaaGreatDoor
namespace Go.Proofs.YtclgigmgbebhgaaGreatDoor
open Tryz
open Go Go.Proofs Go.RowKit Go.Maps Go.WideMaps Go.ChangeMaps
variable {W W':World}
def ZB(W:World)(B:Nat)(S:List (Value×Value)):Prop:=∃es clock,W.heap[B]? =some (.map es clock)/\es.toList.map (λe=>(e.key,e.val))=S/\MapKept.Stamped es clock
theorem ZB.lt {B:Nat}{S:List (Value×Value)}(h:ZB W B S):B<W.heap.size:=by
 obtain⟨es,c,h,_⟩:=h;exact(aab.1 h).1
theorem ZB.kept {row:Option Nat}{B:Nat}{S:List (Value×Value)}(h:ZB W B S)(C:W.grownBy W' row)(A:some B≠row):ZB W' B S:=by
 have hl:=h.lt;obtain⟨es,c,h,D⟩:=h;exact⟨es,c,(C.block B hl A).trans h,D⟩
theorem ZB.below{n:Nat} {B:Nat}{S:List (Value×Value)}(h:ZB W B S)(hb:Below n W W')(C:B<n):ZB W' B S:=by
 obtain⟨es,c,h,A⟩:=h;exact⟨es,c,(hb.block B C).trans h,A⟩
theorem ZB.alloc {B:Nat}{S:List (Value×Value)}(h:ZB W B S)(o:Obj):ZB (W.alloc o) B S:=h.kept (aeb W o none) jS
theorem ZB.made(W:World):ZB (W.alloc (.map #[] 0)) W.heap.size []:=⟨#[],0,arc W _,rfl,λx hx=>(by simp at hx),List.Pairwise.nil,List.Pairwise.nil⟩
theorem Ug{es:Array MapEntry}{S:List (Value×Value)}(C:es.toList.map (λe=>(e.key,e.val))=S):(∀e∈es.toList,(e.key,e.val)∈S)/\∀p∈S,∃e∈es.toList,e.key=p.1/\e.val=p.2:=by
 subst C;constructor;·intro e A;exact ah.2 ⟨e,A,rfl⟩
 ·intro p hp;obtain⟨e,A,rfl⟩:=ah.1 hp;exact⟨e,A,rfl,rfl⟩
section
variable {P:Program} {tm tk tv:TypeId} (hu:P.underlying tm=some (.map tk tv)) (K:Keyed P tk) {z:Value} (hz:∀W,(zeroValue tv).run P W=.ok z W)
variable {W:World} {B:Nat} {S:List (Value×Value)} (h:ZB W B S) (hS:∀p∈S,∃l,keyOf P tk p.1=some l) {k:Value} (hk:∃l,keyOf P tk k=some l)
include hu K hz h hS hk
theorem Uf(hn:∀p∈S,p.1≠k):(Instr.lookup tm (.map (some B)) k false).run P W=.ok z W:=by
 obtain⟨es,clock,hb,J,T⟩:=h;obtain⟨D,Z⟩:=Ug J;obtain⟨kl,A⟩:=hk;rcases K.find W A es.toList (λe Y=>hS _ (D e Y)) with⟨I,C⟩|⟨j,e0,I,C,U⟩;·simp[Instr.lookup,akd hu,aid hb,K.check W _ A,I,hz,Result.andThen]
 ·exact absurd U.symm (λe=>hn _ (D e0 (ag C)) (by first|exact e.symm|exact e))
omit hz in
theorem Xu{v:Value}(hv:(k,v)∈S)(hd:S.Pairwise (λp q=>p.1≠q.1)):(Instr.lookup tm (.map (some B)) k false).run P W=.ok v W:=by
 obtain⟨es,clock,hb,h2,hst⟩:=h;obtain⟨Z,k2⟩:=Ug h2;obtain⟨kl,C⟩:=hk;rcases K.find W C es.toList (λe Y=>hS _ (Z e Y)) with⟨h4,T⟩|⟨j,e0,h4,T,h6⟩
 ·obtain⟨e,Y,e1,_⟩:=k2 (k,v) hv;exact absurd e1 (T e Y)
 ·have hm:=Z e0 (ag T)
  have hval:e0.val=v:=by
   have e1:e0.key=k:=by first|exact h6|exact h6.symm
   rw[e1] at hm;obtain⟨i,hi,J⟩:=ahd.1 hm;obtain⟨U,I,A⟩:=ahd.1 hv;by_cases e:i=U;·subst e;rw[J] at A;exact(Prod.mk.inj A).2
   ·exfalso;have hp:=amb.1 hd;rcases aza e with D|D;·exact hp i U hi I D (by rw[J,A])
    ·exact hp U i I hi D (by rw[J,A])
  simp[Instr.lookup,akd hu,aid hb,K.check W _ C,h4,Result.andThen,hval]
theorem CI(hn:∀p∈S,p.1≠k):(Instr.lookup tm (.map (some B)) k true).run P W=.ok (.tuple #[z,.bool false]) W:=by
 obtain⟨es,clock,hb,J,T⟩:=h;obtain⟨D,Z⟩:=Ug J;obtain⟨kl,A⟩:=hk;rcases K.find W A es.toList (λe Y=>hS _ (D e Y)) with⟨I,C⟩|⟨j,e0,I,C,U⟩;·simp[Instr.lookup,akd hu,aid hb,K.check W _ A,I,hz,Result.andThen]
 ·exact absurd U.symm (λe=>hn _ (D e0 (ag C)) (by first|exact e.symm|exact e))
omit hz in
theorem Lt{v:Value}(hv:(k,v)∈S)(hd:S.Pairwise (λp q=>p.1≠q.1)):(Instr.lookup tm (.map (some B)) k true).run P W=.ok (.tuple #[v,.bool true]) W:=by
 obtain⟨es,clock,hb,h2,hst⟩:=h;obtain⟨Z,k2⟩:=Ug h2;obtain⟨kl,C⟩:=hk;rcases K.find W C es.toList (λe Y=>hS _ (Z e Y)) with⟨h4,T⟩|⟨j,e0,h4,T,h6⟩
 ·obtain⟨e,Y,e1,_⟩:=k2 (k,v) hv;exact absurd e1 (T e Y)
 ·have hm:=Z e0 (ag T)
  have hval:e0.val=v:=by
   have e1:e0.key=k:=by first|exact h6|exact h6.symm
   rw[e1] at hm;obtain⟨i,hi,J⟩:=ahd.1 hm;obtain⟨U,I,A⟩:=ahd.1 hv;by_cases e:i=U;·subst e;rw[J] at A;exact(Prod.mk.inj A).2
   ·exfalso;have hp:=amb.1 hd;rcases aza e with D|D;·exact hp i U hi I D (by rw[J,A])
    ·exact hp U i I hi D (by rw[J,A])
  simp[Instr.lookup,akd hu,aid hb,K.check W _ C,h4,Result.andThen,hval]
omit hz in
theorem Vq(hn:∀p∈S,p.1≠k)(v:Value):∃W',(Instr.mapUpdate tm (.map (some B)) k v).run P W=.ok () W'/\ZB W' B (S++[(k,v)])/\W.grownBy W' (some B):=by
 obtain⟨es,clock,hb,J,D⟩:=h;obtain⟨I,k2⟩:=Ug J;obtain⟨kl,C⟩:=hk;rcases K.find W C es.toList (λe Z=>hS _ (I e Z)) with⟨U,T⟩|⟨j,e0,U,T,Y⟩
 ·refine⟨setBlock W B (.map (es.push ⟨k,v,clock⟩) (clock+1)),?_,⟨_,_,heap_setBlock_same hb _,?_,?_⟩,⟨rfl,rfl,rfl,by simp[setBlock],λi _ hi=>heap_setBlock_other hb _ (λe=>hi (by rw[e]))⟩⟩;·simp[Instr.mapUpdate,akd hu,aid hb,K.check W false C,U,avg _ hb,Result.andThen,setBlock]
  ·simp[J]
  ·obtain⟨s1,s2,s3⟩:=D;refine⟨λx hx=> ?_,?_,?_⟩
   ·rw[Array.toList_push] at hx;rcases abe.1 hx with hx|hx;·exact Nat.lt_succ_of_lt (s1 x hx)
    ·rw[aaa.1 hx];exact amg _
   ·rw[Array.toList_push,adb,atf];refine⟨s2,jS,λa ha b A e=> ?_⟩;obtain⟨x,hx,rfl⟩:=ah.1 ha;have:=s1 x hx;simp at A;omega
   ·rw[Array.toList_push,adb,atf];refine⟨s3,jS,λa ha b A e=> ?_⟩;obtain⟨x,hx,rfl⟩:=ah.1 ha;simp at A;exact hn _ (I x hx) (by rw[e,A])
 ·exact absurd Y.symm (λe=>hn _ (I e0 (ag T)) (by first|exact e.symm|exact e))
end
end Go.Proofs.YtclgigmgbebhgaaGreatDoor
namespace Go.Proofs.YtclgigmgbebhgaaGreatDoor
open Tryz
open Go Go.Proofs Go.RowKit
theorem OT{k:IntKind}{a b:Int}(h:a=b):Ending.returned (.int k a)=.returned (.int k b):=by rw[h]
theorem G8{a b:Bool}(h:a=b):Ending.returned (.bool a)=.returned (.bool b):=by rw[h]
section
variable {F:Fence} {n:Nat} {P:Program} {ops:Array Oper} {rest:List Oper} {a:Act} {w:World} {Q:Exit->Act->World->Prop}
theorem Pk{ty:TypeId}{x y:Operand}{tt:TypeId}{pos:String}{after:Array Edge}
 (W:World) (t:TypeId) (old cells:Array Value) (hw:w=W.alloc (.cells old t)) (hx:a.eval x=.pointer (some ⟨W.heap.size,0,none⟩)) (hy:a.eval y=.agg cells)
 (hi:(P.info? ty).map (·.size)=some cells.size) (hold:old.size=cells.size) (C:cells.all (·.oneCell')=true)
 (h:wpListIn F n P ops Q rest a (W.alloc (.cells cells t))):wpListIn F n P ops Q ({dst:=none,op:=.store ty x y,type:=tt,pos,after,guard:=none}::rest) a w:=
 wpListIn_plain rfl λK A=>by
  subst hw;refine⟨λf hf=> ?_,?_⟩;·simp[Oper.about] at hf
  ·rw[Oper.semAt_eq _ _ _ jS];unfold execOp;simp only[hx,hy,Instr.storeAt,Instr.sureAddr,Sem.run_bind,Sem.run_pure,awd,run_storeVar_row (P:=P) (W.alloc (.cells old t)) W.heap.size t ty old cells (heap_alloc_last W _) hi hold C,World.setRow_alloc_new];simp only[Oper.uponIn,Act.put];exact A _ _ h
theorem OS{k:Tmp}{ty:TypeId}{x:Operand}{tt:TypeId}{pos:String}{after:Array Edge}
 (g:Nat) (t:TypeId) (cs:Array Value) (fr:Nat×Nat) (d:TypeDesc) (C:w.heap[g]? =some (.cells cs t fr)) (hx:a.eval x=.pointer (some ⟨g,0,none⟩))
 (hu:P.underlying ty=some d) (A:(match d with | .struct _ | .array _ _=>true|_=>false)=true) (hi:(P.info? ty).map (·.size)=some cs.size)
 (h:wpListIn F n P ops Q rest {a with tmps:=a.tmps.setIfInBounds k (.agg cs)} w):wpListIn F n P ops Q ({dst:=some k,op:=.load ty x,type:=tt,pos,after,guard:=none}::rest) a w:=
 wpListIn_plain rfl λK D=>by
  refine⟨λf hf=> ?_,?_⟩;·simp[Oper.about] at hf
  ·rw[Oper.semAt_eq _ _ _ jS];unfold execOp;simp only[hx,Instr.loadAt,Instr.sureAddr,Sem.run_bind,Sem.run_pure,awd,run_loadVar_row w g t ty cs fr d C hu A hi];simp only[Oper.uponIn,Act.put];exact D _ _ h
end
end Go.Proofs.YtclgigmgbebhgaaGreatDoor
namespace Go.Proofs.YtclgigmgbebhgaaGreatDoor
open Tryz
open Go Go.Proofs Go.RowKit Go.Maps Go.WideMaps Go.ChangeMaps
variable {xs:List Value} {LO M Bm j m:Nat} {a W w w':World}
abbrev FZ:Nat:=135
abbrev Wm:Nat:=139
def zF(x:Z9):List Value:=[.int .i64 x.mark,.int .u16 x.code,.int .u32 x.k,.int .i64 x.t,.int .i64 x.f]
def XX(l:List Z9):List Value:=l.flatMap zF
theorem CH(a b:List Z9):XX (a++b)=XX a++XX b:=by unfold XX;rw[aca]
theorem Ls:∀l:List Z9,(XX l).length=l.length*5
 |[]=>rfl
 |x::l=>by have A:=Ls l;unfold XX at*;rw[acb,ay,A,aj];show 5+_=_;omega
theorem CG(l:List Z9):∀u∈XX l,u.oneCell'=true:=by
 intro u hu;obtain⟨x,_,hx⟩:=aqe.1 hu;unfold zF at hx;simp only[abf,akf,auf] at hx;rcases hx with rfl|rfl|rfl|rfl|rfl<;>rfl
theorem ey:(prog.info? Wm).map (λi=>(i.zero,i.size,i.bytes))=some (some (.agg #[.int .i64 0,.int .u16 0,.int .u32 0,.int .i64 0,.int .i64 0]),5,32):=jK
theorem ZQ{P:Program}{t:TypeId}{z:Value}{s b:Nat}(h:(P.info? t).map (λi=>(i.zero,i.size,i.bytes))=some (some z,s,b)):∃i,P.info? t=some i/\i.zero=some z/\i.size=s/\i.bytes=b:=by
 cases hi:P.info? t with
 |none=>rw[hi] at h;cases h
 |some i=>
  rw[hi] at h;simp only[avc,aka,asa] at h;exact⟨i,rfl,h.1,h.2.1,h.2.2⟩
def QO(b:List (Nat×Nat)):List (Value×Value):=b.map λp=>(.int .u32 p.1,.int .i64 p.2)
structure Zl(LO M Bm:Nat)(W:World)(v:Value)(g:G):Prop where
 blk:Z8 W M FZ #[v,.int .i64 g.n,.map (some Bm)]
 own:W.ownsRow LO Wm 5 v g.l.length (XX g.l)
 map:ZB W Bm (QO g.b)
 lo:LO<=M/\LO<=Bm
def Yh(LO M Bm:Nat)(w w':World):Prop:=Below LO w w'/\w.heap.size<=w'.heap.size/\∀k o,w.heap[k]? =some o->k≠M->k≠Bm->(∀cs f,o≠.cells cs Wm f)->w'.heap[k]? =some o
theorem Yh.refl(LO M Bm:Nat)(w:World):Yh LO M Bm w w:=⟨aG _ _,aP _,λ_ _ h _ _ _=>h⟩
theorem Yh.trans {b c:World}(h:Yh LO M Bm a b)(k:Yh LO M Bm b c):Yh LO M Bm a c:=⟨h.1.trans k.1,aO h.2.1 k.2.1,λj o I D C A=>k.2.2 j o (h.2.2 j o I D C A) D C A⟩
theorem Yh.below {b:World}(h:Below a.heap.size a b)(A:LO<=a.heap.size):Yh LO M Bm a b:=⟨h.mono A,h.size,λk o hk _ _ _=>(h.block k (aab.1 hk).1).trans hk⟩
theorem Yh.alloc(o:Obj)(A:LO<=a.heap.size):Yh LO M Bm a (a.alloc o):=Yh.below ((aG _ a).alloc (aP _) o) A
theorem Yh.blk {b:World}(h:Yh LO M Bm a b){B:Nat}{t:TypeId}{cs:Array Value}(D:Z8 a B t cs)(C:B≠M)(A:B≠Bm)(ht:t≠Wm):Z8 b B t cs:=h.2.2 B _ D C A (λcs f e=>by
 injection e with _ e2;exact ht e2)
theorem ZB.ad1 {B:Nat}{u:Value}{S:List (Value×Value)}(h:ZB W B S)(A:B≠M):ZB (W.setCell ⟨M,j,none⟩ u) B S:=by
 obtain⟨es,c,D,C⟩:=h;exact⟨es,c,(afd W ⟨M,j,none⟩ u B A).trans D,C⟩
theorem Lr {B e size n g t:Nat}{v u:Value} {cs:Array Value}(h:W.ownsRow B e size v n xs)(T:Z8 W g t cs)(C:e≠t):(W.setCell ⟨g,j,none⟩ u).ownsRow B e size v n xs:=by
 refine⟨h.1,?_⟩;rcases h.2 with A|⟨I,cap,D,U,A,J,Y⟩;·exact .inl A
 ·refine .inr ⟨I,cap,D,U,A,(afd W ⟨g,j,none⟩ u I (show I≠g from λe2=> ?_)).trans J,Y⟩;subst e2;have:=J.symm.trans T;injection this with this;injection this with _ e3;exact C e3
theorem ZK {B e s n:Nat}{v:Value} (h:W.ownsRow B e s v n xs):∃a c,v=.slice a n c:=by
 rcases h.2 with⟨rfl,rfl⟩|⟨g,c,_,rfl,_⟩;·exact⟨_,_,rfl⟩
 ·exact⟨_,_,rfl⟩
theorem tT{v:Value}{n:Nat} {cs:Array Value}(h:W.ownsRow LO Wm 5 v n xs)(A:Z8 W M FZ cs):v.ownBlock≠some M:=by
 rcases h.2 with⟨rfl,_⟩|⟨g,c,I,rfl,_,C,_⟩;·intro e;cases e
 ·intro e;have e:g=M:=au e;subst e;have:=C.symm.trans A;injection this with this;injection this with _ D;exact absurd D jD
theorem Lq {B:Nat}{v:Value}{n:Nat} {S:List (Value×Value)}(h:W.ownsRow LO Wm 5 v n xs)(C:ZB W B S):v.ownBlock≠some B:=by
 rcases h.2 with⟨rfl,_⟩|⟨g,c,D,rfl,_,A,_⟩;·intro e;cases e
 ·intro e;have e:g=B:=au e;subst e;obtain⟨es,I,hb,_⟩:=C;have:=A.symm.trans hb;injection this with this;cases this
theorem Lp {B:Nat}{cs:Array Value}{S:List (Value×Value)}(A:Z8 W M FZ cs)(C:ZB W B S):M≠B:=by
 rintro rfl;obtain⟨es,D,hb,_⟩:=C;have:=hb.symm.trans A;injection this with this;cases this
theorem mA {v:Value}{g:G}{xs:List Z9}{ad:Addr}{c:Nat}(w:World)(h:Zl LO M Bm w v g)(hx:∀j u,(XX xs)[j]? =some u->w.cell? (ad.add j)=some u)(hlen:g.l.length+xs.length<=1000000)(Y:LO<=w.heap.size):
 Calls prog 47 #[.pointer (some ⟨M,0,none⟩),.slice (some ad) xs.length c] w λe w'=>e=.returned (.tuple #[])/\∃v',Zl LO M Bm w' v' (g.put xs)/\Yh LO M Bm w w':=by
 obtain⟨hb,ho,hm,NL⟩:=h;obtain⟨i0,hi,hz0,hz1,hz2⟩:=ZQ ey;have mz:=tT ho hb;have T:=Lq ho hm;have hMB:=Lp hb hm;obtain⟨L,hL⟩:=jX g.l.length;obtain⟨K,hK⟩:=jX xs.length;have hfl:=Ls xs;have Z:=CG xs;have C:=CH g.l xs;rw[hL,hK] at hlen;rw[hK] at hfl ⊢;rw[hL] at ho;obtain⟨va,vc,rfl⟩:=ZK ho;have HGL:Hid ((g.put xs).l.length=L+K):=by show(g.l++xs).length=_;rw[ay,hL,hK]
 have HGF:Hid (XX (g.put xs).l=XX g.l++XX xs):=C;have c0:=hb.e0;have HX:=aT hx;have HO:=aT ho;have HBk:=aT hb;have HMp:=aT hm;have HM1:=aT mz;have Ue:=aT T;have HMB:=aT hMB;have HLo:=aT NL;clear hb hm hx C ho mz T hMB NL;go_enter func47,ntmps47
 go_wp2_with (at_builtin;refine aea _ rfl _ _ 79 rfl LO Wm i0 (.agg #[.int .i64 0,.int .u16 0,.int .u32 0,.int .i64 0,.int .i64 0]) 5 32 underlying79 hi hz0 hz1 hz2 rfl jD _ L _ rfl HO ad K c (XX xs) rfl ?c1 ?c2 ?c3 ?c4 ?c5 ?c6 ?_;(case c1=>exact hfl);(case c2=>exact HX);(case c3=>exact Z);(case c4=>unfold maxLen;omega);(case c5=>omega);(case c6=>exact Y);intro v' U D A _;obtain⟨sa,sc,rfl⟩:=ZK D;have I:Z8 U M FZ #[.slice va L vc,.int .i64 g.n,.map (some Bm)]:=(A.block M HBk.lt (λe=>HM1 e.symm)).trans HBk;have d0:=I.cell 0;(simp only[ak,aL] at d0);have z0:=I.frozen 0)
 have hm6:ZB U Bm (QO g.b):=HMp.kept A (λe=>Ue e.symm);have HK:Hid (Zl LO M Bm (U.setCell ⟨M,0,none⟩ (.slice sa (L+K) sc)) (.slice sa (L+K) sc) (g.put xs)):=⟨Z8.set 0 _ I,by rw[HGL.out,HGF.out];exact Lr D I jD,ZB.ad1 hm6 (λe=>HMB e.symm),HLo⟩;have J:Hid (Yh LO M Bm w (U.setCell ⟨M,0,none⟩ (.slice sa (L+K) sc))):=by
  refine⟨(((aG LO w).grown A Y (λr e=>(HO.lt r e).1))).setCell (p:=⟨M,0,none⟩) HLo.1 _,by rw[World.size_setCell];exact A.size,λk o hk h1 h2 h3=> ?_⟩;rw[afd U ⟨M,0,none⟩ _ k h1];refine(A.block k (aab.1 hk).1 (λe=> ?_)).trans hk;rcases HO.out.2 with⟨e2,_⟩|⟨g1,c1,cur,e2,_,hg,_⟩;·rw[e2] at e;cases e
  ·rw[e2] at e;have e:k=g1:=au e;subst e;exact h3 cur _ (au (hk.symm.trans hg))
 first
  |(go_end0;exact⟨rfl,_,HK,J⟩)
  |(refine aaf (apa rfl _ _ _) rfl ?_;exact⟨rfl,_,HK,J⟩)
  |(go_ret;exact⟨rfl,_,HK,J⟩)
structure Wl(g:G):Prop where
 keys:g.b.Pairwise (λp q=>p.1≠q.1)
 FY:∀p∈g.b,p.1<4294967296/\p.2≠0
 len:g.b.length<=g.n
theorem Ln:∀{b:List (Nat×Nat)} {c:Nat},look b c≠0->(c,look b c)∈b
 |[],c,h=>absurd rfl h
 |(d,m)::b,c,h=>by
  unfold look at h ⊢;split;·rename_i e;subst e;exact agd
  ·rename_i e;rw[aN e] at h;exact aff _ (Ln h)
theorem Xt:∀{b:List (Nat×Nat)} {c:Nat},(∀p∈b,p.2≠0)->look b c=0->∀p∈b,p.1≠c
 |[],c,_,_,p,hp=>by cases hp
 |(d,m)::b,c,hz,h,p,hp=>by
  unfold look at h;split at h;·exact absurd h (hz (d,m) agd)
  ·rename_i e;rcases abf.1 hp with rfl|hp;·exact e
   ·exact Xt (λq A=>hz q (aff _ A)) h p hp
theorem Wl.put{g:G}(h:Wl g)(xs:List Z9):Wl (g.put xs):=⟨h.keys,h.FY,h.len⟩
theorem Wl.here{g:G}(h:Wl g)(m:Nat):Wl (g.here m):=⟨h.keys,h.FY,h.len⟩
theorem Wl.mark{g:G}(h:Wl g):Wl g.mark:=⟨h.keys,h.FY,Nat.le_succ_of_le h.len⟩
theorem Wl.goes{g:G}(h:Wl g){c:Nat}(hc:c<4294967296):Wl (g.goes c):=by
 unfold G.goes;split
 ·rename_i A;refine⟨afc.2 ⟨h.keys,ape _ _,λp hp q C=> ?_⟩,λp hp=> ?_,by rw[ay];exact axb h.len⟩;·rcases aaa.1 C with rfl;exact Xt (λp hp=>(h.FY p hp).2) A p hp
  ·rcases abe.1 hp with hp|hp;·exact h.FY p hp
   ·rcases aaa.1 hp with rfl;exact⟨hc,aqf _⟩
 ·exact h
theorem Lm:Keyed prog 53:=int_keyed underlying53
theorem xV{c:Nat}(h:c<4294967296):∃l,keyOf prog 53 (.int .u32 c)=some l:=⟨_,keyOf_int_mk underlying53 (by
 show(decide (IntKind.u32.min<=(c:Int))&&decide ((c:Int)<=IntKind.u32.max))=true;rw[show IntKind.u32.min=0 from jD,show IntKind.u32.max=4294967295 from jD];simp only[aeg,adg];omega)⟩
theorem OQ{b:List (Nat×Nat)}{p:Value×Value}(hp:p∈QO b):∃q∈b,p=(.int .u32 q.1,.int .i64 q.2):=by
 obtain⟨q,A,e⟩:=ah.1 hp;exact⟨q,A,e.symm⟩
theorem Ll {c:Nat}{b:List (Nat×Nat)}(h:ZB W Bm (QO b))(hk:b.Pairwise (λp q=>p.1≠q.1))(hb:∀p∈b,p.1<4294967296/\p.2≠0)(hc:c<4294967296):
 (Instr.lookup 133 (.map (some Bm)) (.int .u32 c) false).run prog W=.ok (.int .i64 ((look b c:Nat):Int)) W:=by
 have hz:∀W,(zeroValue 3).run prog W=.ok (.int .i64 0) W:=λ_=>jK
 have hS:∀p∈QO b,∃l,keyOf prog 53 p.1=some l:=λp hp=>by obtain⟨q,D,rfl⟩:=OQ hp;exact xV (hb q D).1
 by_cases C:look b c=0
 ·rw[C];refine Uf underlying133 Lm hz h hS (xV hc) (λp hp e=> ?_);obtain⟨q,D,rfl⟩:=OQ hp;have e:(q.1:Int)=(c:Int):=by injection e
  exact Xt (λp hp=>(hb p hp).2) C q D jO
 ·refine Xu underlying133 Lm h hS (xV hc) (ah.2 ⟨(c,look b c),Ln C,rfl⟩) ?_;unfold QO;rw[afa]
  exact hk.imp (λ{p q} A e=>by
   have e:(p.1:Int)=(q.1:Int):=by injection e
   exact A jO)
theorem my {c:Nat}{b:List (Nat×Nat)}(h:ZB W Bm (QO b))(hb:∀p∈b,p.1<4294967296/\p.2≠0)(hc:c<4294967296)(D:look b c=0):
 ∃W',(Instr.mapUpdate 133 (.map (some Bm)) (.int .u32 c) (.int .i64 ((m:Int)+1))).run prog W=.ok () W'/\ZB W' Bm (QO (b++[(c,m+1)]))/\W.grownBy W' (some Bm):=by
 have hS:∀p∈QO b,∃l,keyOf prog 53 p.1=some l:=λp hp=>by obtain⟨q,A,rfl⟩:=OQ hp;exact xV (hb q A).1
 obtain⟨W',I,C,J⟩:=Vq underlying133 Lm h hS (xV hc) (λp hp e=>by
  obtain⟨q,A,rfl⟩:=OQ hp;have e:(q.1:Int)=(c:Int):=by injection e
  exact Xt (λp hp=>(hb p hp).2) D q A jO) (.int .i64 ((m:Int)+1))
 exact⟨W',I,by unfold QO at C ⊢;rw[adb];exact C,J⟩
theorem Yh.tS(h:w.grownBy w' (some Bm))(I:LO<=Bm)(A:LO<=w.heap.size):Yh LO M Bm w w':=
 ⟨(aG LO w).grown h A (λk e=>by have:=au e;omega),h.size,λk o hk D C _=>(h.block k (aab.1 hk).1 (λe=>C (au e))).trans hk⟩
theorem Zl.drew{v:Value}{g:G}(h:Zl LO M Bm w v g):Zl LO M Bm w.drew v g:=⟨h.blk,h.own.drew,h.map,h.lo⟩
theorem Yh.drew(h:Yh LO M Bm w w'):Yh LO M Bm w w'.drew:=⟨h.1.drew,h.2.1,h.2.2⟩
theorem Yh.Pj(h:Yh LO M Bm w.drew w'):Yh LO M Bm w w':=(Yh.refl LO M Bm w).drew.trans h
def GB(g:G):Prop:=g.l.length<=900000/\g.n<=900000
structure Vc(g g':G):Prop where
 l:g.l.length<=g'.l.length
 n:g.n<=g'.n
theorem Vc.refl(g:G):Vc g g:=⟨aP _,aP _⟩
theorem Vc.trans{a b c:G}(h:Vc a b)(k:Vc b c):Vc a c:=⟨aO h.l k.l,aO h.n k.n⟩
theorem Vc.put(g:G)(xs:List Z9):Vc g (g.put xs):=⟨by simp[G.put],aP _⟩
theorem Vc.here(g:G)(m:Nat):Vc g (g.here m):=⟨by simp[G.here],aP _⟩
theorem Vc.mark(g:G):Vc g g.mark:=⟨aP _,aAa _⟩
theorem Vc.goes(g:G)(c:Nat):Vc g (g.goes c):=by
 unfold G.goes;split;·exact⟨aP _,aAa _⟩
 ·exact Vc.refl g
theorem GB.back{g g':G}(h:GB g')(l:Vc g g'):GB g:=⟨aO l.l h.1,aO l.n h.2⟩
theorem Yh.an5 {b:World}(h:Yh LO M Bm a b)(C:LO<=M)(j:Nat)(u:Value):Yh LO M Bm a (b.setCell ⟨M,j,none⟩ u):=
 ⟨h.1.setCell (p:=⟨M,j,none⟩) C u,by rw[World.size_setCell];exact h.2.1,λk o hk A D I=>by rw[afd b ⟨M,j,none⟩ u k A];exact h.2.2 k o hk A D I⟩
theorem Zl.al{v:Value}{g:G}(h:Zl LO M Bm w v g)(o:Obj):Zl LO M Bm (w.alloc o) v g:=
 ⟨h.blk.alloc o,h.own.alloc o,h.map.alloc o,h.lo⟩
theorem Vp {v:Value}{g:G}(w:World)(h:Zl LO M Bm w v g)(hn:g.n+1<=1000000):
 Calls prog 49 #[.pointer (some ⟨M,0,none⟩)] w λe w'=>e=.returned (.int .i64 ((g.n:Int)+1))/\Zl LO M Bm w' v g.mark/\Yh LO M Bm w w':=by
 obtain⟨N,hN⟩:=jX g.n;have hb:=h.blk;rw[hN] at hb hn;have c1:=hb.e1;have U:=hb.frozen 1;have J:=jW N;have A:Z8 (w.setCell ⟨M,1,none⟩ (.int .i64 ((N:Int)+1))) M FZ #[v,.int .i64 ((N:Int)+1),.map (some Bm)]:=Z8.set 1 _ hb;have I:Hid (Zl LO M Bm (w.setCell ⟨M,1,none⟩ (.int .i64 ((N:Int)+1))) v g.mark):=⟨by show Z8 _ M FZ #[v,.int .i64 ((g.n+1:Nat):Int),.map (some Bm)];rw[hN];exact A,Lr h.own h.blk jD,ZB.ad1 h.map (λe=>Lp h.blk h.map e.symm),h.lo⟩;have C:=aT ((Yh.refl LO M Bm w).an5 h.lo.1 1 (.int .i64 ((N:Int)+1)));have T:=A.e1;have D:=aT hN;clear hb A h hN;go_enter func49,ntmps49;go_wp2_with fail;go_ret;exact⟨by rw[D.out];rfl,I,C⟩
theorem Y0 {v:Value}{g:G}{xs:List Z9}{cs:Array Value}{n c:Nat}(w:World)(h:Zl LO M Bm w v g)(hcs:cs.toList=XX xs)(hn:xs.length=n)(hlen:g.l.length+n<=1000000)(A:LO<=w.heap.size):
 Calls prog 47 #[.pointer (some ⟨M,0,none⟩),.slice (some ⟨w.heap.size,0,none⟩) n c] (w.alloc (.cells cs Wm)) λe w'=>e=.returned (.tuple #[])/\∃v',Zl LO M Bm w' v' (g.put xs)/\Yh LO M Bm w w':=by
 subst hn;refine(mA (xs:=xs) (ad:=⟨w.heap.size,0,none⟩) (c:=c) (w.alloc (.cells cs Wm)) (h.al _) (λj u I=> ?_) hlen (by rw[ai];omega)).mono ?_;·have e:=(Z8.new w Wm cs).cell j;rw[show(⟨w.heap.size,0,none⟩:Addr).add j=⟨w.heap.size,j,none⟩ by simp[Addr.add];omega,e,<-aga,hcs,I]
 ·rintro e w' ⟨rfl,v',D,C⟩;exact⟨rfl,v',D,(Yh.alloc _ A).trans C⟩
theorem Lk {v:Value}{g:G} (w:World)(h:Zl LO M Bm w v g)(hl:g.l.length+1<=1000000)(A:LO<=w.heap.size):
 Calls prog 53 #[.pointer (some ⟨M,0,none⟩),.int .i64 m] w λe w'=>e=.returned (.tuple #[])/\∃v',Zl LO M Bm w' v' (g.here m)/\Yh LO M Bm w w':=by
 have I:=aT h;clear h;go_enter func53,ntmps53
 go_wp2_with (refine Great.wpList_buildSliceTo rfl 79 Wm 1 _ rfl _ rfl _ rfl underlying79 #[.int .i64 m,.int .u16 0,.int .u32 0,.int .i64 0,.int .i64 0] jK ?_)
 refine(Y0 (xs:=[Zr m]) w I rfl rfl hl A).mono ?_;rintro e w' ⟨rfl,v',D,C⟩;have J:=aT D;have T:=aT C;clear D C;go_wp2_with fail;go_end0;exact⟨rfl,v',J,T⟩
theorem Ud {v:Value}{g:G}{c:Nat}(w:World)(h:Zl LO M Bm w v g)(hg:Wl g)(hc:c<4294967296)(hn:(g.goes c).n<=1000000)(PU:LO<=w.heap.size):
 Calls prog 50 #[.pointer (some ⟨M,0,none⟩),.int .u32 c] w λe w'=>e=.returned (.int .i64 ((look (g.goes c).b c:Nat):Int))/\Zl LO M Bm w' v (g.goes c)/\Yh LO M Bm w w':=by
 have hb:=h.blk;have c2:=hb.e2;have HH:=aT h;have HG:=aT hg;have LK:=aT (λW h=>Ll (c:=c) (W:=W) (Bm:=Bm) (b:=g.b) h hg.keys hg.FY hc);have lk:=LK w h.map;clear hb h hg;by_cases J:look g.b c=0
 ·have C:g.goes c=⟨g.l,g.n+1,g.b++[(c,g.n+1)]⟩:=by unfold G.goes;rw[aH J]
  rw[C] at hn ⊢;rw[J] at lk;have HC:Hid (∀W:World,∀{v g},Zl LO M Bm W v g->W.cell? ⟨M,2,none⟩=some (.map (some Bm))):=λW v g h=>by have:=h.blk.cell 2;simpa using this
  have Z:Hid (∀W:World,ZB W Bm (QO g.b)->_):=λW h=>my h HG.FY hc J (m:=g.n)
  go_enter func50,ntmps50;go_upto_region 2 with fail;clear lk c2
  go_region_held3 (λw'=>w'.cell? ⟨M,2,none⟩=some (.map (some Bm))) (first|exact HC _ HH.drew|(with_reducible assumption)) (first
   |(go_at_call 49
     refine(Vp _ HH.drew hn).mono ?_;rintro e w1 ⟨rfl,A,f1⟩;have HH1:=aT A;have tR:=aT f1;obtain⟨w2,u2,m2,g2⟩:=Z w1 A.map;have T:Z8 w2 M FZ #[v,.int .i64 ((g.n+1:Nat):Int),.map (some Bm)]:=A.blk.kept g2 (λe=>Lp A.blk A.map (au e));have nE:w2.cell? ⟨M,2,none⟩=some (.map (some Bm)):=by simpa using T.cell 2
     have Y:Hid (Zl LO M Bm w2 v ⟨g.l,g.n+1,g.b++[(c,g.n+1)]⟩):=⟨T,A.own.kept g2 (.inr (Lq A.own A.map)),m2,A.lo⟩;have Lj:Hid (Yh LO M Bm w1 w2):=Yh.tS g2 A.lo.2 (aO PU f1.2.1);have TM:=HC _ A;clear A f1 m2 g2))
  have U:look (g.b++[(c,g.n+1)]) c=g.n+1:=by rw[RZ _ _ _ _ J (λp hp=>(HG.out.FY p hp).2),aH rfl]
  have I:Wl ⟨g.l,g.n+1,g.b++[(c,g.n+1)]⟩:=by rw[<-C];exact HG.goes hc
  have D:=Ll Y.map I.keys I.FY hc;dsimp only at D;rw[U] at D;simp only[avd,azb] at D;clear HC Z LK I C T HH1;go_wp2_with fail;go_ret;exact⟨by dsimp only;rw[U];rfl,Y,(tR.trans Lj).Pj⟩
 ·have e0:g.goes c=g:=by unfold G.goes;rw[aN J]
  rw[e0];obtain⟨L,hL⟩:=jX (look g.b c);rw[hL] at J lk ⊢;have hne:((L:Int) == 0)=false:=by simpa using J
  clear e0;go_enter func50,ntmps50;go_wp2_with fail;go_ret;exact⟨rfl,HH,Yh.refl _ _ _ _⟩
end Go.Proofs.YtclgigmgbebhgaaGreatDoor
namespace Go.Proofs.YtclgigmgbebhgaaGreatDoor
open Tryz
open Go Go.Proofs Go.RowKit
variable {LO M Bm:Nat}
theorem G7(g:G)(a b:List Z9):(g.put a).put b=g.put (a++b):=by unfold G.put;simp
def U8(lA hA ll hh ml mh:Nat)(wide:Bool)(yes no:Int):Array Value:=#[.int .u32 lA,.int .u32 hA,.int .u32 ll,.int .u32 hh,.int .u32 ml,.int .u32 mh,.bool wide,.int .i64 yes,.int .i64 no]
def VN(LO M Bm:Nat)(g:G)(w:World)(xs:List Z9):Ending->World->Prop:=λe w'=>e=.returned (.tuple #[])/\∃v',Zl LO M Bm w' v' (g.put xs)/\Yh LO M Bm w w'
theorem ER{LO M Bm:Nat}{v:Value}{g:G}(D hA C J ml Y:Nat)(wide:Bool)(yes no:Int)(w:World)(h:Zl LO M Bm w v g)(hl:g.l.length+4<=1000000)(PU:LO<=w.heap.size):
 Calls prog 309 #[.pointer (some ⟨M,0,none⟩),.agg (U8 D hA C J ml Y wide yes no)] w (VN LO M Bm g w (R1 hA D J C wide yes no)):=by
 have EP:=Z8.new w 391 (U8 D hA C J ml Y wide yes no);have I:=aT EP;have HH:=aT (h.al (.cells (U8 D hA C J ml Y wide yes no) 391));have HF:=aT (Yh.alloc (LO:=LO) (M:=M) (Bm:=Bm) (a:=w) (.cells (U8 D hA C J ml Y wide yes no) 391) PU);have hNM:w.heap.size≠M:=λe=>by have:=h.blk.lt;omega
 have nD:w.heap.size≠Bm:=λe=>by have:=h.map.lt;omega
 have hs:LO<=(w.alloc (.cells (U8 D hA C J ml Y wide yes no) 391)).heap.size:=by rw[ai];omega
 clear EP h;unfold VN;unfold U8 at*;go_enter func309,ntmps309;go_upto_region 1 with fail;generalize hwx:w.alloc (.cells #[.int .u32 D,.int .u32 hA,.int .u32 C,.int .u32 J,.int .u32 ml,.int .u32 Y,.bool wide,.int .i64 yes,.int .i64 no] 391)=wx at*;clear hwx;have c0:=I.cell 0;have c1:=I.cell 1;have c2:=I.cell 2;have c3:=I.cell 3;have c4:=I.cell 4;have c5:=I.cell 5;have c6:=I.cell 6;have c7:=I.cell 7;have c8:=I.cell 8;simp only[U8,ak,aL,aF] at c0 c1 c2 c3 c4 c5 c6 c7 c8;cases wide with
 |true=>
  go_wp2_with (refine Great.wpList_buildSliceTo rfl 79 Wm 2 _ rfl _ rfl _ rfl underlying79 #[.int .i64 0,.int .u16 32,.int .u32 hA,.int .i64 0,.int .i64 0,.int .i64 0,.int .u16 21,.int .u32 J,.int .i64 0,.int .i64 no] jK ?_)
  refine(Y0 (xs:=[ins 32 hA 0 0,ins 21 J 0 no]) wx HH rfl rfl (by show _+2<=_;omega) hs).mono ?_;rintro e w2 ⟨rfl,v2,h2,f2⟩;have L8:=aT h2;have Lj:=aT (HF.trans f2);have A:=aT (f2.blk I hNM nD jD);have hs2:=aO hs f2.2.1;clear h2 f2 c0 c1 c2 c3 c4 c5 c6 c7 c8;have d0:=A.cell 0;have d1:=A.cell 1;have d2:=A.cell 2;have d3:=A.cell 3;have d4:=A.cell 4;have d5:=A.cell 5;have d6:=A.cell 6;have d7:=A.cell 7;have d8:=A.cell 8;simp only[U8,ak,aL,aF] at d0 d1 d2 d3 d4 d5 d6 d7 d8
  go_wp2_with (refine Great.wpList_buildSliceTo rfl 79 Wm 2 _ rfl _ rfl _ rfl underlying79 #[.int .i64 0,.int .u16 32,.int .u32 D,.int .i64 0,.int .i64 0,.int .i64 0,.int .u16 21,.int .u32 C,.int .i64 yes,.int .i64 no] jK ?_)
  refine(Y0 (xs:=[ins 32 D 0 0,ins 21 C yes no]) w2 L8 rfl rfl (by show(g.l++_).length+2<=_;rw[ay];show _+2+_<=_;omega) hs2).mono ?_;rintro e w3 ⟨rfl,v3,Z,f3⟩;rw[G7] at Z;have T:=aT Z;have U:=aT (Lj.trans f3);clear Z f3;go_wp2_with fail;go_end0;exact⟨rfl,v3,T,U⟩
 |false=>
  go_wp2_with (refine Great.wpList_buildSliceTo rfl 79 Wm 2 _ rfl _ rfl _ rfl underlying79 #[.int .i64 0,.int .u16 32,.int .u32 D,.int .i64 0,.int .i64 0,.int .i64 0,.int .u16 21,.int .u32 C,.int .i64 yes,.int .i64 no] jK ?_)
  refine(Y0 (xs:=[ins 32 D 0 0,ins 21 C yes no]) wx HH rfl rfl (by show _+2<=_;omega) hs).mono ?_;rintro e w3 ⟨rfl,v3,Z,f3⟩;have T:=aT Z;have U:=aT (HF.trans f3);clear Z f3;go_wp2_with fail;go_end0;exact⟨rfl,v3,T,U⟩
theorem Ji{LO M Bm:Nat}{v:Value}{g:G}(I hA D C ml Y:Nat)(wide:Bool)(yes no:Int)(w:World)(h:Zl LO M Bm w v g)(hl:g.l.length+5<=1000000)(PU:LO<=w.heap.size):
 Calls prog 312 #[.pointer (some ⟨M,0,none⟩),.agg (U8 I hA D C ml Y wide yes no)] w (VN LO M Bm g w (Vu hA I C D wide yes no)):=by
 have EP:=Z8.new w 391 (U8 I hA D C ml Y wide yes no);have J:=aT EP;have HH:=aT (h.al (.cells (U8 I hA D C ml Y wide yes no) 391));have HF:=aT (Yh.alloc (LO:=LO) (M:=M) (Bm:=Bm) (a:=w) (.cells (U8 I hA D C ml Y wide yes no) 391) PU);have hNM:w.heap.size≠M:=λe=>by have:=h.blk.lt;omega
 have nD:w.heap.size≠Bm:=λe=>by have:=h.map.lt;omega
 have hs:LO<=(w.alloc (.cells (U8 I hA D C ml Y wide yes no) 391)).heap.size:=by rw[ai];omega
 clear EP h;unfold VN;unfold U8 at*;go_enter func312,ntmps312;go_upto_region 1 with fail;generalize hwx:w.alloc (.cells #[.int .u32 I,.int .u32 hA,.int .u32 D,.int .u32 C,.int .u32 ml,.int .u32 Y,.bool wide,.int .i64 yes,.int .i64 no] 391)=wx at*;clear hwx;have c0:=J.cell 0;have c1:=J.cell 1;have c2:=J.cell 2;have c3:=J.cell 3;have c4:=J.cell 4;have c5:=J.cell 5;have c6:=J.cell 6;have c7:=J.cell 7;have c8:=J.cell 8;simp only[U8,ak,aL,aF] at c0 c1 c2 c3 c4 c5 c6 c7 c8;cases wide with
 |true=>
  go_wp2_with (refine Great.wpList_buildSliceTo rfl 79 Wm 3 _ rfl _ rfl _ rfl underlying79 #[.int .i64 0,.int .u16 32,.int .u32 hA,.int .i64 0,.int .i64 0,.int .i64 0,.int .u16 37,.int .u32 C,.int .i64 yes,.int .i64 0,.int .i64 0,.int .u16 21,.int .u32 C,.int .i64 0,.int .i64 no] jK ?_)
  refine(Y0 (xs:=[ins 32 hA 0 0,ins 37 C yes 0,ins 21 C 0 no]) wx HH rfl rfl (by show _+3<=_;omega) hs).mono ?_;rintro e w2 ⟨rfl,v2,h2,f2⟩;have L8:=aT h2;have Lj:=aT (HF.trans f2);have A:=aT (f2.blk J hNM nD jD);have hs2:=aO hs f2.2.1;clear h2 f2 c0 c1 c2 c3 c4 c5 c6 c7 c8;have d0:=A.cell 0;have d1:=A.cell 1;have d2:=A.cell 2;have d3:=A.cell 3;have d4:=A.cell 4;have d5:=A.cell 5;have d6:=A.cell 6;have d7:=A.cell 7;have d8:=A.cell 8;simp only[U8,ak,aL,aF] at d0 d1 d2 d3 d4 d5 d6 d7 d8
  go_wp2_with (refine Great.wpList_buildSliceTo rfl 79 Wm 2 _ rfl _ rfl _ rfl underlying79 #[.int .i64 0,.int .u16 32,.int .u32 I,.int .i64 0,.int .i64 0,.int .i64 0,.int .u16 53,.int .u32 D,.int .i64 yes,.int .i64 no] jK ?_)
  refine(Y0 (xs:=[ins 32 I 0 0,ins 53 D yes no]) w2 L8 rfl rfl (by show(g.l++_).length+2<=_;rw[ay];show _+3+_<=_;omega) hs2).mono ?_;rintro e w3 ⟨rfl,v3,Z,f3⟩;rw[G7] at Z;have T:=aT Z;have U:=aT (Lj.trans f3);clear Z f3;go_wp2_with fail;go_end0;exact⟨rfl,v3,T,U⟩
 |false=>
  go_wp2_with (refine Great.wpList_buildSliceTo rfl 79 Wm 2 _ rfl _ rfl _ rfl underlying79 #[.int .i64 0,.int .u16 32,.int .u32 I,.int .i64 0,.int .i64 0,.int .i64 0,.int .u16 53,.int .u32 D,.int .i64 yes,.int .i64 no] jK ?_)
  refine(Y0 (xs:=[ins 32 I 0 0,ins 53 D yes no]) wx HH rfl rfl (by show _+2<=_;omega) hs).mono ?_;rintro e w3 ⟨rfl,v3,Z,f3⟩;have T:=aT Z;have U:=aT (HF.trans f3);clear Z f3;go_wp2_with fail;go_end0;exact⟨rfl,v3,T,U⟩
theorem CF{LO M Bm:Nat}{v:Value}{g:G}(D hA C U I T:Nat)(wide:Bool)(yes no:Int)(w:World)(h:Zl LO M Bm w v g)(hl:g.l.length+6<=1000000)(PU:LO<=w.heap.size):
 Calls prog 313 #[.pointer (some ⟨M,0,none⟩),.agg (U8 D hA C U I T wide yes no)] w (VN LO M Bm g w (M6 hA D U C T I wide yes no)):=by
 have EP:=Z8.new w 391 (U8 D hA C U I T wide yes no);have J:=aT EP;have HH:=aT (h.al (.cells (U8 D hA C U I T wide yes no) 391));have HF:=aT (Yh.alloc (LO:=LO) (M:=M) (Bm:=Bm) (a:=w) (.cells (U8 D hA C U I T wide yes no) 391) PU);have hNM:w.heap.size≠M:=λe=>by have:=h.blk.lt;omega
 have nD:w.heap.size≠Bm:=λe=>by have:=h.map.lt;omega
 have hs:LO<=(w.alloc (.cells (U8 D hA C U I T wide yes no) 391)).heap.size:=by rw[ai];omega
 clear EP h;unfold VN;unfold U8 at*;go_enter func313,ntmps313;go_upto_region 1 with fail;generalize hwx:w.alloc (.cells #[.int .u32 D,.int .u32 hA,.int .u32 C,.int .u32 U,.int .u32 I,.int .u32 T,.bool wide,.int .i64 yes,.int .i64 no] 391)=wx at*;clear hwx;have c0:=J.cell 0;have c1:=J.cell 1;have c2:=J.cell 2;have c3:=J.cell 3;have c4:=J.cell 4;have c5:=J.cell 5;have c6:=J.cell 6;have c7:=J.cell 7;have c8:=J.cell 8;simp only[U8,ak,aL,aF] at c0 c1 c2 c3 c4 c5 c6 c7 c8;cases wide with
 |true=>
  go_wp2_with (refine Great.wpList_buildSliceTo rfl 79 Wm 3 _ rfl _ rfl _ rfl underlying79 #[.int .i64 0,.int .u16 32,.int .u32 hA,.int .i64 0,.int .i64 0,.int .i64 0,.int .u16 84,.int .u32 T,.int .i64 0,.int .i64 0,.int .i64 0,.int .u16 21,.int .u32 U,.int .i64 0,.int .i64 no] jK ?_)
  refine(Y0 (xs:=[ins 32 hA 0 0,ins 84 T 0 0,ins 21 U 0 no]) wx HH rfl rfl (by show _+3<=_;omega) hs).mono ?_;rintro e w2 ⟨rfl,v2,h2,f2⟩;have L8:=aT h2;have Lj:=aT (HF.trans f2);have A:=aT (f2.blk J hNM nD jD);have hs2:=aO hs f2.2.1;clear h2 f2 c0 c1 c2 c3 c4 c5 c6 c7 c8;have d0:=A.cell 0;have d1:=A.cell 1;have d2:=A.cell 2;have d3:=A.cell 3;have d4:=A.cell 4;have d5:=A.cell 5;have d6:=A.cell 6;have d7:=A.cell 7;have d8:=A.cell 8;simp only[U8,ak,aL,aF] at d0 d1 d2 d3 d4 d5 d6 d7 d8
  go_wp2_with (refine Great.wpList_buildSliceTo rfl 79 Wm 3 _ rfl _ rfl _ rfl underlying79 #[.int .i64 0,.int .u16 32,.int .u32 D,.int .i64 0,.int .i64 0,.int .i64 0,.int .u16 84,.int .u32 I,.int .i64 0,.int .i64 0,.int .i64 0,.int .u16 21,.int .u32 C,.int .i64 yes,.int .i64 no] jK ?_)
  refine(Y0 (xs:=[ins 32 D 0 0,ins 84 I 0 0,ins 21 C yes no]) w2 L8 rfl rfl (by show(g.l++_).length+3<=_;rw[ay];show _+3+_<=_;omega) hs2).mono ?_;rintro e w3 ⟨rfl,v3,h3,f3⟩;rw[G7] at h3;have Y:=aT h3;have Z:=aT (Lj.trans f3);clear h3 f3;go_wp2_with fail;go_end0;exact⟨rfl,v3,Y,Z⟩
 |false=>
  go_wp2_with (refine Great.wpList_buildSliceTo rfl 79 Wm 3 _ rfl _ rfl _ rfl underlying79 #[.int .i64 0,.int .u16 32,.int .u32 D,.int .i64 0,.int .i64 0,.int .i64 0,.int .u16 84,.int .u32 I,.int .i64 0,.int .i64 0,.int .i64 0,.int .u16 21,.int .u32 C,.int .i64 yes,.int .i64 no] jK ?_)
  refine(Y0 (xs:=[ins 32 D 0 0,ins 84 I 0 0,ins 21 C yes no]) wx HH rfl rfl (by show _+3<=_;omega) hs).mono ?_;rintro e w3 ⟨rfl,v3,h3,f3⟩;have Y:=aT h3;have Z:=aT (HF.trans f3);clear h3 f3;go_wp2_with fail;go_end0;exact⟨rfl,v3,Y,Z⟩
theorem CE {v:Value}{g:G}(D hA C A J I:Nat)(wide:Bool)(yes no:Int)(w:World)(h:Zl LO M Bm w v g)(hl:g.l.length+4<=1000000)(Y:LO<=w.heap.size):
 Calls prog 310 #[.pointer (some ⟨M,0,none⟩),.agg (U8 D hA C A J I wide yes no)] w (VN LO M Bm g w (R1 hA D A C wide no yes)):=by
 have X1:Hid (Z8 (w.alloc (.cells (U8 D hA C A J I wide no yes) 391)) w.heap.size 391 (U8 D hA C A J I wide no yes)):=Z8.new w _ _;have U:=aT (h.al (.cells (U8 D hA C A J I wide no yes) 391));have Lj:=aT (Yh.alloc (LO:=LO) (M:=M) (Bm:=Bm) (a:=w) (.cells (U8 D hA C A J I wide no yes) 391) Y);have hs:LO<=(w.alloc (.cells (U8 D hA C A J I wide no yes) 391)).heap.size:=by rw[ai];omega
 clear h;unfold VN;unfold U8 at*;go_enter func310,ntmps310;go_upto_region 2 with fail;generalize hwx:w.alloc (.cells #[.int .u32 D,.int .u32 hA,.int .u32 C,.int .u32 A,.int .u32 J,.int .u32 I,.bool wide,.int .i64 no,.int .i64 yes] 391)=wx at*;clear hwx;obtain⟨c0,c1,c2,c3,c4,c5,c6,c7,c8⟩:=X1.q9;go_wp2_with fail;refine(ER D hA C A J I wide no yes wx U jO hs).mono ?_;rintro e w3 ⟨rfl,v3,h3,f3⟩;have T:=aT h3;have Z:=aT (Lj.trans f3);clear h3 f3;go_wp2_with fail;go_end0;exact⟨rfl,v3,T,Z⟩
theorem NK {v:Value}{g:G}(D hA C A J I:Nat)(wide:Bool)(yes no:Int)(w:World)(h:Zl LO M Bm w v g)(hl:g.l.length+5<=1000000)(Y:LO<=w.heap.size):
 Calls prog 311 #[.pointer (some ⟨M,0,none⟩),.agg (U8 D hA C A J I wide yes no)] w (VN LO M Bm g w (Vu hA D A C wide no yes)):=by
 have X1:Hid (Z8 (w.alloc (.cells (U8 D hA C A J I wide no yes) 391)) w.heap.size 391 (U8 D hA C A J I wide no yes)):=Z8.new w _ _;have U:=aT (h.al (.cells (U8 D hA C A J I wide no yes) 391));have Lj:=aT (Yh.alloc (LO:=LO) (M:=M) (Bm:=Bm) (a:=w) (.cells (U8 D hA C A J I wide no yes) 391) Y);have hs:LO<=(w.alloc (.cells (U8 D hA C A J I wide no yes) 391)).heap.size:=by rw[ai];omega
 clear h;unfold VN;unfold U8 at*;go_enter func311,ntmps311;go_upto_region 2 with fail;generalize hwx:w.alloc (.cells #[.int .u32 D,.int .u32 hA,.int .u32 C,.int .u32 A,.int .u32 J,.int .u32 I,.bool wide,.int .i64 no,.int .i64 yes] 391)=wx at*;clear hwx;obtain⟨c0,c1,c2,c3,c4,c5,c6,c7,c8⟩:=X1.q9;go_wp2_with fail;refine(Ji D hA C A J I wide no yes wx U jO hs).mono ?_;rintro e w3 ⟨rfl,v3,h3,f3⟩;have T:=aT h3;have Z:=aT (Lj.trans f3);clear h3 f3;go_wp2_with fail;go_end0;exact⟨rfl,v3,T,Z⟩
end Go.Proofs.YtclgigmgbebhgaaGreatDoor
namespace Go.Proofs.YtclgigmgbebhgaaGreatDoor
open Tryz
open Go Go.Proofs Go.RowKit Go.Maps Go.WideMaps Go.ChangeMaps
structure NJ(w0:World)(b:Nat)(w:World)(S:List (Value×Value)):Prop where
 map:ZB w b S
 grown:w0.grownBy w (some b)
theorem TI(w:World)(row:Option Nat):w.grownBy w row:=⟨rfl,rfl,rfl,aP _,λ_ _ _=>rfl⟩
theorem Zi{a b c:World}{row:Option Nat}(h:a.grownBy b row)(k:b.grownBy c row):a.grownBy c row:=
 ⟨k.os.trans h.os,k.tape.trans h.tape,k.output.trans h.output,aO h.size k.size,λi hi A=>(k.block i (acf hi h.size) A).trans (h.block i hi A)⟩
theorem NJ.made(w:World):NJ w w.heap.size (w.alloc (.map #[] 0)) []:=⟨ZB.made w,aeb w _ _⟩
section
variable {P:Program} {ops:Array Oper} {rest:List Oper} {o:Oper} {a:Act} {w:World} {Q:Exit->Act->World->Prop}
theorem YV(T:o.guard=none)(C:o.dst=none)(t:TypeId)(m x y:Operand)(D:o.op=Op.insert t m x y)(k e:TypeId)(K:Keyed P k)(ht:P.underlying t=some (.map k e))(w0:World)(b:Nat)(S:List (Value×Value))(I:NJ w0 b w S)
 (hm:a.eval m=.map (some b)) (A v:Value) (hx:a.eval x=A) (hy:a.eval y=v) (hS:∀p∈S,∃l,keyOf P k p.1=some l) (hk:∃l,keyOf P k A=some l) (hn:∀p∈S,p.1≠A)
 (U:∀w',NJ w0 b w' (S++[(A,v)])->wpList P ops Q rest a w'):wpList P ops Q (o::rest) a w:=by
 refine wpList_plain T λK' hK'=> ?_
 obtain⟨w',J,Z,Y⟩:=Vq ht K I.map hS hk hn v;unfold Oper.wp;simp[execOp,D,hm,hx,hy,J,Result.andThen];refine hK' _ _ ?_;rw[C];exact(U w' ⟨Z,Zi I.grown Y⟩)
end
def ad2(q:IntKind)(p:Value×Value):Bool:=match p.1 with | .int q' n=>q' == q&&(Lit.int q n).wf|_=>false
def mr(k:Int)(p:Value×Value):Bool:=match p.1 with | .int _ n=> !(n == k)|_=>false
theorem RU{P:Program}{t:TypeId}{q:IntKind}(hk:P.underlying t=some (.int q)){S:List (Value×Value)}(h:S.all (ad2 q)=true):∀p∈S,∃l,keyOf P t p.1=some l:=by
 intro p hp;have A:=aje.1 h p hp;obtain⟨x,y⟩:=p;unfold ad2 at A;dsimp only at A ⊢;split at A
 ·rename_i C n;rw[aeg] at A;obtain rfl:C=q:=by simpa using A.1
  exact⟨_,keyOf_int_mk hk A.2⟩
 ·cases A
theorem Li{S:List (Value×Value)}{q:IntKind}{k:Int}(h:S.all (mr k)=true):∀p∈S,p.1≠.int q k:=by
 intro p hp e;have A:=aje.1 h p hp;obtain⟨x,y⟩:=p;dsimp only at e;subst e;simp[mr] at A
end Go.Proofs.YtclgigmgbebhgaaGreatDoor
namespace Go.Proofs.YtclgigmgbebhgaaGreatDoor
open Tryz
open Go Go.Proofs
def YO:Nat:=18446744073709551616
def Vb:Nat:=4294967296
def JP(o m v x:Nat):Bool:=if o=1 then x == v else if o=2 then x != v else if o=3 then decide (x<v) else if o=4 then decide (x<=v) else if o=5 then decide (v<x) else if o=6 then decide (v<=x) else(x &&& m) == v
inductive Yv where
 |asks (c:Z5)
 |always
 |never
def Yj(c:Z5)(v:Nat):Yv:=if v=0 then .never else if v=1 then .asks ⟨c.a,1,0,0⟩ else .asks ⟨c.a,3,0,v⟩
def XC(c:Z5)(v:Nat):Yv:=if v=0 then .always else if v=YO-1 then .asks ⟨c.a,1,0,v⟩ else .asks ⟨c.a,6,0,v⟩
def WM(c:Z5):Yv:=if (c.v &&& c.m)≠c.v then .never else if c.m=0 then .always else if c.m=YO-1 then .asks ⟨c.a,1,0,c.v⟩ else .asks c
def Xo(c:Z5):Yv:=
 if c.o=1\/c.o=2 then .asks c
 else if c.o=3 then Yj c c.v
 else if c.o=4 then(if c.v=YO-1 then .always else Yj c (c.v+1))
 else if c.o=5 then(if c.v=YO-1 then .never else XC c (c.v+1))
 else if c.o=6 then XC c c.v
 else WM c
def Z5.right(c:Z5):Prop:=c.a<=5/\(1<=c.o/\c.o<=7)/\(c.o=7\/c.m=0)/\c.m<YO/\c.v<YO
def Yv.holds:Yv->Nat->Bool
 | .asks c,x=>JP c.o c.m c.v x
 | .always,_=>true
 | .never,_=>false
def Z5.nf(c:Z5):Prop:=c.a<=5/\(c.o=1\/c.o=2\/c.o=3\/c.o=6\/c.o=7)/\(c.o=7\/c.m=0)/\c.m<YO/\c.v<YO
def Yv.nf:Yv->Nat->Prop
 | .asks c,a=>c.nf/\c.a=a
 | .always,_=>True
 | .never,_=>True
theorem zD{o m v x:Nat}(h:o=1\/o=2\/o=3\/o=6\/o=7):JP o m v x=opH o m v x:=by
 rcases h with rfl|rfl|rfl|rfl|rfl<;>rfl
theorem EO{c:Z5}(ha:c.a<=5){v:Nat}(hv:v<YO):(Yj c v).nf c.a/\∀x,x<YO->(Yj c v).holds x=decide (x<v):=by
 unfold Yj;split;·rename_i h;exact⟨trivial,λx _=>by rw[h];rfl⟩
 ·split;·rename_i h;refine⟨⟨⟨ha,.inl rfl,.inr rfl,by show(0:Nat)<YO;decide,by show(0:Nat)<YO;decide⟩,rfl⟩,λx _=> ?_⟩;show(x == 0)=decide (x<v);rw[h,ale,ahc,adg];omega
  ·exact⟨⟨⟨ha,.inr (.inr (.inl rfl)),.inr rfl,by show(0:Nat)<YO;decide,hv⟩,rfl⟩,λx _=>rfl⟩
theorem zB{c:Z5}(ha:c.a<=5){v:Nat}(hv:v<YO):(XC c v).nf c.a/\∀x,x<YO->(XC c v).holds x=decide (v<=x):=by
 unfold XC;split;·rename_i h;exact⟨trivial,λx _=>by rw[h];simp[Yv.holds]⟩
 ·split;·rename_i h;refine⟨⟨⟨ha,.inl rfl,.inr rfl,by show(0:Nat)<YO;decide,hv⟩,rfl⟩,λx hx=> ?_⟩;show(x == v)=decide (v<=x);rw[ale];simp;omega
  ·exact⟨⟨⟨ha,.inr (.inr (.inr (.inl rfl))),.inr rfl,by show(0:Nat)<YO;decide,hv⟩,rfl⟩,λx _=>rfl⟩
theorem mq{x:Nat}(hx:x<YO):x &&& (YO-1)=x:=by
 have:=Nat.and_two_pow_sub_one_eq_mod x 64;rw[show(2:Nat) ^ 64=YO from jD] at this;rw[this,ama hx]
theorem mn{c:Z5}(h:c.right)(ho:c.o=7):(WM c).nf c.a/\∀x,x<YO->(WM c).holds x=((x &&& c.m) == c.v):=by
 obtain⟨ha,_,_,hm,hv⟩:=h;unfold WM;split
 ·rename_i hn;refine⟨trivial,λx _=> ?_⟩;show false=_
  symm
  rw[af];intro e;apply hn;rw[<-e,Nat.and_assoc,Nat.and_self]
 ·rename_i hn;have hn:(c.v &&& c.m)=c.v:=Classical.not_not.1 hn;split;·rename_i A;refine⟨trivial,λx _=> ?_⟩;rw[A,Nat.and_zero] at hn ⊢;rw[<-hn];rfl
  ·split;·rename_i C;refine⟨⟨⟨ha,.inl rfl,.inr rfl,by show(0:Nat)<YO;decide,hv⟩,rfl⟩,λx hx=> ?_⟩;show(x == c.v)=_;rw[C,mq hx]
   ·refine⟨⟨⟨ha,.inr (.inr (.inr (.inr ho))),.inl ho,hm,hv⟩,rfl⟩,λx _=> ?_⟩;show JP c.o c.m c.v x=_;rw[ho];rfl
theorem G6{c:Z5}(h:c.right):(Xo c).nf c.a/\∀x,x<YO->(Xo c).holds x=JP c.o c.m c.v x:=by
 obtain⟨ha,ho,D,hm,hv⟩:=id h;unfold Xo;have A:c.o=1\/c.o=2\/c.o=3\/c.o=4\/c.o=5\/c.o=6\/c.o=7:=jO;rcases A with e|e|e|e|e|e|e
 ·rw[aH (.inl e)];exact⟨⟨⟨ha,.inl e,D,hm,hv⟩,rfl⟩,λx _=>rfl⟩
 ·rw[aH (.inr e)];exact⟨⟨⟨ha,.inr (.inl e),D,hm,hv⟩,rfl⟩,λx _=>rfl⟩
 ·rw[aN jO,aH e,e];exact EO ha hv
 ·rw[aN jO,aN jO,aH e,e];split;·rename_i C;refine⟨trivial,λx hx=> ?_⟩;show true=decide (x<=c.v);rw[C];simp;omega
  ·rename_i C;obtain⟨J,I⟩:=EO (c:=c) ha (v:=c.v+1) (by unfold YO at*;omega);refine⟨J,λx hx=> ?_⟩;rw[I x hx];show decide (x<c.v+1)=decide (x<=c.v);rw[ale];simp;omega
 ·rw[aN jO,aN jO,aN jO,aH e,e];split
  ·rename_i C;refine⟨trivial,λx hx=> ?_⟩;show false=decide (c.v<x);rw[C]
   symm
   rw[apf];omega
  ·rename_i C;obtain⟨J,I⟩:=zB (c:=c) ha (v:=c.v+1) (by unfold YO at*;omega);refine⟨J,λx hx=> ?_⟩;rw[I x hx];rfl
 ·rw[aN jO,aN jO,aN jO,aN jO,aH e,e];exact zB ha hv
 ·rw[aN jO,aN jO,aN jO,aN jO,aN jO,e];exact mn h e
def Zk(c:Z5):Yv:=
 if Vb-1<c.v then(if c.o=2\/c.o=3 then .always else .never)
 else if c.o≠7 then .asks c
 else if c.m%Vb=0 then .always
 else .asks ⟨c.a,c.o,c.m%Vb,c.v⟩
theorem G5{x m:Nat}(hx:x<Vb):x &&& m=x &&& (m%Vb):=by
 have A:(x &&& m)%Vb=x%Vb &&& m%Vb:=by have:=Nat.and_mod_two_pow (a:=x) (b:=m) (n:=32);simpa [Vb] using this
 have C:x &&& m<=x:=Nat.and_le_left;rw[ama hx,ama (azc C hx)] at A;exact A
def Z5.kept(c:Z5):Prop:=c.o=7->(c.v &&& c.m)=c.v
theorem NI{c:Z5}(h:c.nf)(hk:c.kept):(∀x,x<Vb->(Zk c).holds x=JP c.o c.m c.v x)/\(match Zk c with | .asks n=>n.nf/\n.a=c.a/\n.v<Vb/\n.m<Vb|_=>True):=by
 obtain⟨ha,ho,J,hm,hv⟩:=id h;unfold Zk;split
 ·rename_i Z;split
  ·rename_i I;refine⟨λx hx=> ?_,trivial⟩;show true=JP c.o c.m c.v x;rcases I with e|e<;>rw[e]
   ·show true=(x != c.v)
    symm
    rw[azf];omega
   ·show true=decide (x<c.v)
    symm
    rw[adg];omega
  ·rename_i I;refine⟨λx hx=> ?_,trivial⟩;show false=JP c.o c.m c.v x;rcases ho with e|e|e|e|e
   ·rw[e];show false=(x == c.v)
    symm
    rw[af];omega
   ·exact absurd (.inl e) I
   ·exact absurd (.inr e) I
   ·rw[e];show false=decide (c.v<=x)
    symm
    rw[apf];omega
   ·rw[e];show false=((x &&& c.m) == c.v)
    symm
    rw[af];have:x &&& c.m<=x:=Nat.and_le_left;omega
 ·rename_i hs;split;·rename_i A;have T:c.m=0:=J.resolve_left A;exact⟨λx _=>rfl,h,rfl,by unfold Vb at*;omega,by rw[T];decide⟩
  ·rename_i A;have A:c.o=7:=Classical.not_not.1 A;split
   ·rename_i Y;refine⟨λx hx=> ?_,trivial⟩;show true=JP c.o c.m c.v x;have D:=hk A;have U:c.v<Vb:=by unfold Vb at*;omega
    rw[G5 U,Y,Nat.and_zero] at D;rw[A];show true=((x &&& c.m) == c.v);rw[G5 hx,Y,Nat.and_zero,<-D];rfl
   ·have C:c.m%Vb<Vb:=ave _ jD;refine⟨λx hx=> ?_,⟨ha,ho,.inl A,Nat.lt_trans C jD,hv⟩,rfl,by show c.v<Vb;unfold Vb at*;omega,C⟩;show JP c.o (c.m%Vb) c.v x=_;rw[A];show((x &&& c.m%Vb) == c.v)=((x &&& c.m) == c.v);rw[<-G5 hx]
end Go.Proofs.YtclgigmgbebhgaaGreatDoor
