/- TopFirst: part 1: Blk TopAsmP TopGenP TopGenQ TopGenR TopGenS TopGenT TopGenU TopGenV MapG In TopMk TopMk2 TopOp TopLit TopNormP. -/
import Derived.RangeFuncBox
import Derived.RangeFuncNested
import Derived.WalkKit
import Derived.Maps.Keyed
import Derived.Maps.Own
import Derived.RangeFuncBound
import Derived.RangeFuncCalls
import Derived.RangeFuncLeaves
import Derived.OwnWalkIn
import Derived.TacticsInMore
import Derived.Deep.WholeRow
import Derived.Test.YtclgigmgbebhgaaGreatDoorChecked
import Derived.Lib.Hide
import Derived.Laws.OwnMore
import Derived.Deep.RegionHeld3
import Derived.Deep.Cut
import Derived.Deep.DeepCutAuto
import Derived.Deep.LoopGhost
import Derived.Deep.RegionHeldLaw
import Derived.Maps.OwnOps
import Derived.Carry
import Derived.OrdersHeld
import Derived.WalkLawsBesides
set_option linter.unusedVariables false
set_option linter.unusedSimpArgs false
set_option maxRecDepth 100000
set_option maxHeartbeats 16000000
namespace Go.Proofs.YtclgigmgbebhgaaGreatDoor
open Go Go.Proofs
theorem jO{P:Prop}(h:P:=by omega):P:=h
theorem jD{P:Prop}(h:P:=by decide):P:=h
theorem jK{P:Prop}(h:P:=by kernel_rfl):P:=h
theorem jR{P:Prop}(h:P:=by rfl):P:=h
theorem jS{P:Prop}(h:P:=by simp):P:=h
theorem jA{P:Prop}(h:P:=by assumption):P:=h
theorem jX{α:Type}(a:α):∃b,a=b:=⟨a,rfl⟩
theorem jW(i:Nat)(h:(i:Int)+1≤9223372036854775807:=by omega):IntKind.i64.wrap ((i:Int)+1)=(i:Int)+1:=IntWalk.i64_in _ ⟨by omega,h⟩
theorem jZ(i:Nat):(0:Int)≤(i:Int):=by omega
section
variable {P:Program} {ops:Array Oper} {Q:Exit→Act→World→Prop} {md:Region.Mode} {S:World→Prop}
theorem jT(i:Nat)(oi:Oper){v:Value}{fuel:Nat}{listed:Array Bool}{a:Act}{w:World}(h:wpAnyH P md ops Q S fuel (listed.setIfInBounds i true) (a.put oi.dst v) w)(hi:ops[i]? =some oi:=by rfl)(hb:(Region.noSelect ops&&(Region.free md ops listed i&&(Region.ready md ops listed).contains i))=true:=by kernel_rfl)(hw:Region.wanted oi (yielded ops a.tmps)=true:=by rfl)
 (hy:∀w,S w→(execOp a.eval oi).run P w=.ok (.value v) w:=by
   intro w hSw
   try dsimp only at hSw
   try obtain⟨hSw,hSw2⟩:=hSw
   try go_split_ands
   go_simp
   try with_reducible rfl) (hQ:∀c a w,Q (.panic c) (a.put oi.dst v) w→Q (.panic c) a w:=by exact fun _ _ _ h=>h) (hS:S w:=by assumption):wpAnyH P md ops Q S (fuel+1) listed a w:=by
 simp only[Bool.and_eq_true] at hb
 exact wpAnyH_take hi hb.1 hb.2.1 hb.2.2 hQ (Or.inl ⟨hw,hy⟩) hS h
theorem jU(i:Nat)(oi:Oper){fuel:Nat}{listed:Array Bool}{a:Act}{w:World}(h:wpAnyH P md ops Q S fuel (listed.setIfInBounds i true) (a.put oi.dst undef) w)(hi:ops[i]? =some oi:=by rfl)(hb:(Region.noSelect ops&&(Region.free md ops listed i&&(Region.ready md ops listed).contains i))=true:=by kernel_rfl)(hw:Region.wanted oi (yielded ops a.tmps)=false:=by rfl)(hQ:∀c a w,Q (.panic c) (a.put oi.dst undef) w→Q (.panic c) a w:=by exact fun _ _ _ h=>h)(hS:S w:=by assumption):wpAnyH P md ops Q S (fuel+1) listed a w:=by
 simp only[Bool.and_eq_true] at hb
 exact wpAnyH_take hi hb.1 hb.2.1 hb.2.2 hQ (Or.inr ⟨hw,rfl⟩) hS h
end
end Go.Proofs.YtclgigmgbebhgaaGreatDoor
namespace Go.Proofs.YtclgigmgbebhgaaGreatDoor
open Go Go.Proofs Go.RowKit
abbrev aT:=@Lib.hid
abbrev aS:=@List.setIfInBounds_toArray
abbrev aR:=@Nat.le_refl
abbrev aQ:=@List.set_cons_succ
abbrev aP:=@List.set_cons_zero
abbrev aO:=@Nat.le_trans
abbrev aN:=@if_neg
abbrev aM:=@List.getElem?_cons_zero
abbrev aL:=@List.getElem?_eq_getElem
abbrev aJ:=@IntWalk.i64_in
abbrev aH:=@List.getElem?_cons_succ
abbrev aG:=@Below.refl
abbrev aF:=@if_pos
abbrev ay:=@List.length_append
abbrev ax:=@congrArg
abbrev au:=@List.getElem?_toArray
abbrev aq:=@Option.some.inj
abbrev ak:=@List.getElem?_eq_some_iff
abbrev aj:=@World.size_alloc
abbrev ai:=@List.length_cons
abbrev ah:=@List.mem_map
abbrev ag:=@List.mem_of_getElem?
abbrev af:=@beq_eq_false_iff_ne
abbrev ae:=@AllReadyH.cons
abbrev aaa:=@List.mem_singleton
abbrev aab:=@List.length_map
abbrev aac:=@Array.getElem?_eq_some_iff
abbrev aad:=@List.getElem?_append_right
abbrev aae:=@AllReadyH.nil
abbrev aaf:=@bodyPost_ret
abbrev aag:=@List.append_assoc
abbrev aba:=@wpAnyH_ready
abbrev abb:=@List.mem_cons
abbrev abc:=@List.getElem?_append_left
abbrev abd:=@Nat.zero_le
abbrev abe:=@List.take_of_length_le
abbrev abf:=@List.mem_append
abbrev abg:=@List.length_take
abbrev aca:=@List.flatMap_append
abbrev acb:=@decide_eq_true
abbrev acd:=@List.getElem?_map
abbrev ace:=@List.flatMap_cons
abbrev acf:=@Nat.le_of_lt
abbrev acg:=@List.length_nil
abbrev ada:=@List.map_append
abbrev adb:=@List.append_nil
abbrev ade:=@Nat.zero_add
abbrev adf:=@decide_eq_true_eq
abbrev adg:=@Nat.lt_of_lt_of_le
abbrev aea:=@wpList_append_own
abbrev aeb:=@World.grownBy_alloc
abbrev aec:=@Nat.add_zero
abbrev aed:=@List.map_cons
abbrev aee:=@List.getD_eq_getElem?_getD
abbrev aef:=@Bool.and_eq_true
abbrev aeg:=@decide_eq_false
abbrev afa:=@List.pairwise_map
abbrev afb:=@List.pairwise_append
abbrev afc:=@Below.heap_setCell
abbrev afd:=@List.take_add_one
abbrev afe:=@List.length_range
abbrev aff:=@List.mem_cons_of_mem
abbrev afg:=@World.block_lt_of_cell?
abbrev aga:=@Array.getElem?_toList
abbrev agb:=@List.ext_getElem?
abbrev agc:=@of_decide_eq_true
abbrev agd:=@List.mem_cons_self
abbrev age:=@List.pairwise_cons
abbrev agf:=@World.cell?_setCell_other
abbrev aha:=@ByteArray.toList_eq
abbrev ahb:=@List.cons_append
abbrev ahc:=@beq_iff_eq
abbrev ahd:=@List.not_mem_nil
abbrev ahe:=@List.nil_append
abbrev ahf:=@Option.some.injEq
abbrev ahg:=@List.getElem?_eq_none
abbrev aia:=@List.length_drop
abbrev aib:=@List.mem_range
abbrev aic:=@List.size_toArray
abbrev aid:=@List.mem_iff_getElem
abbrev aie:=@MapKept.run_getObj_map
abbrev aif:=@Array.getElem?_setIfInBounds_ne
abbrev aja:=@List.getElem?_take
abbrev ajb:=@Array.getD_eq_getD_getElem?
abbrev ajc:=@callsIn_wide
abbrev ajd:=@Bool.eq_iff_iff
abbrev aje:=@Hid.out
abbrev ajf:=@KeepsOthers.setCell
abbrev ajg:=@List.all_eq_true
abbrev aka:=@List.any_eq_true
abbrev akb:=@List.sum_cons
abbrev akc:=@List.append_cancel_left
abbrev akd:=@List.map_map
abbrev ake:=@run_underlying
abbrev akf:=@Nat.not_lt_zero
abbrev akg:=@wp_region_held_drew
abbrev ala:=@Array.getElem?_modify
abbrev alb:=@List.length_eq_zero_iff
abbrev alc:=@Nat.sub_self
abbrev ald:=@List.mem_of_mem_take
abbrev ale:=@Array.replicate_succ
abbrev alf:=@Array.replicate_zero
abbrev alg:=@Nat.mod_eq_of_lt
abbrev ama:=@List.pairwise_iff_getElem
abbrev amb:=@List.append_toArray
abbrev amc:=@List.range_succ
abbrev amd:=@Nat.lt_succ_self
abbrev ame:=@Ne.symm
abbrev amf:=@List.find?_cons_of_neg
abbrev amg:=@List.drop_of_length_le
abbrev ana:=@wpAnyH_done
abbrev anb:=@World.ownsRow_nil
abbrev anc:=@List.push_toArray
abbrev ane:=@Array.length_toList
abbrev anf:=@List.getElem?_range
abbrev ang:=@Array.getElem?_eq_getElem
abbrev aoa:=@List.take_append_drop
abbrev aob:=@List.length_singleton
abbrev aoc:=@List.getLast?_eq_some_getLast
abbrev aod:=@List.eq_nil_of_length_eq_zero
abbrev aoe:=@List.filter_cons
abbrev aof:=@results_none
abbrev aog:=@run_makeMap
abbrev apa:=@List.mem_of_mem_drop
abbrev apb:=@List.dropLast_concat_getLast
abbrev apc:=@List.pairwise_singleton
abbrev apd:=@decide_eq_false_iff_not
abbrev ape:=@List.mem_filter
abbrev apf:=@List.dropWhile_cons
abbrev apg:=@List.find?_cons_of_pos
abbrev aqa:=@Nat.mul_one
abbrev aqb:=@List.map_nil
abbrev aqc:=@Int.tdiv_eq_ediv_of_nonneg
abbrev aqd:=@List.mem_flatMap
abbrev aqe:=@Nat.succ_ne_zero
abbrev aqf:=@Value.string.inj
abbrev aqg:=@of_decide_eq_false
abbrev ara:=@Nat.add_mul
abbrev arb:=@World.alloc_heap_new
abbrev arc:=@or_false
abbrev ard:=@List.getLast?_append
abbrev arf:=@Prod.mk.injEq
abbrev asa:=@Nat.lt_irrefl
abbrev asb:=@List.map_congr_left
abbrev asc:=@List.flatMap_nil
abbrev ase:=@NoPanic.normal
abbrev asf:=@WalkArith.wf_i64
abbrev asg:=@Bool.or_eq_true
abbrev ata:=@UInt8.lt_iff_toNat_lt
abbrev atb:=@Oper.semAt_some
abbrev atc:=@List.length_filter_le
abbrev atd:=@IntKind.wrap_u8
abbrev ate:=@ByteArray.size_append
abbrev atf:=@Array.size_modify
abbrev atg:=@List.nodup_append
abbrev aua:=@wp_region_noPanic
abbrev aub:=@Int.toNat_natCast
abbrev auc:=@List.drop_eq_getElem_cons
abbrev aud:=@Nat.mul_le_mul_right
abbrev aue:=@Array.size_replicate
abbrev auf:=@List.drop_zero
abbrev aug:=@IntWalk.u64_in
abbrev ava:=@List.mem_reverse
abbrev avb:=@List.length_reverse
abbrev avc:=@World.putObj_heap_other
abbrev avd:=@Option.map_some
abbrev ave:=@Int.natCast_add
abbrev avf:=@Nat.mod_lt
abbrev avg:=@List.getElem?_drop
abbrev awa:=@MapKept.run_setObj_map
abbrev awb:=@List.dropWhile_sublist
abbrev awc:=@wpAnyH_take
abbrev awd:=@List.find?_append
abbrev awe:=@Result.andThen_ok
abbrev awf:=@List.reverse_cons
abbrev awg:=@IntWalk.u32_in
abbrev axa:=@List.Perm.refl
abbrev axb:=@Nat.succ_le_succ
abbrev axc:=@IntKind.wrap_u32
abbrev axd:=@List.reverse_reverse
abbrev axe:=@List.getLast_mem
abbrev axf:=@decide_eq_decide
abbrev axg:=@run_takeDeferred
abbrev aya:=@List.length_pos_iff
abbrev ayb:=@callsIn_of_wp_marks
abbrev ayc:=@List.nodup_cons
abbrev ayd:=@Obj.cells.injEq
abbrev aye:=@List.filter_append
abbrev ayf:=@List.find?_eq_none
abbrev ayg:=@Nat.lt_or_gt_of_ne
abbrev aza:=@Int.cast_ofNat_Int
abbrev azb:=@Nat.lt_of_le_of_lt
abbrev azc:=@getElem!_pos
abbrev azd:=@BitVec.toNat_ofNat
abbrev aze:=@bne_iff_ne
abbrev azf:=@DataW.trod_int
abbrev azg:=@Nat.le_succ
abbrev aAa:=@OwnFrom.and
abbrev aAb:=@Nat.add_assoc
abbrev aAc:=@callsIn_of_wp
end Go.Proofs.YtclgigmgbebhgaaGreatDoor
namespace Go.Proofs.YtclgigmgbebhgaaGreatDoor
open Tryz
open Go Go.Proofs Go.RowKit
variable {z:List Value} {a g h j:Value} {W W':World}
def Z7(W:World)(B:Nat)(t:TypeId)(cs:Array Value):Prop:=W.heap[B]? =some (.cells cs t (0,0))
theorem Z7.lt {B:Nat}{t:TypeId}{cs:Array Value}(h:Z7 W B t cs):B<W.heap.size:=(aac.1 h).1
theorem Z7.cell {B:Nat}{t:TypeId}{cs:Array Value}(h:Z7 W B t cs)(j:Nat):W.cell? ⟨B,j,none⟩=cs[j]? :=by simp[World.cell?,show W.heap[B]? =_ from h]
theorem Z7.frozen {B:Nat}{t:TypeId}{cs:Array Value}(h:Z7 W B t cs)(j:Nat):W.frozen? ⟨B,j,none⟩=false:=by simp[World.frozen?,show W.heap[B]? =_ from h]
theorem Z7.new(W:World)(t:TypeId)(cs:Array Value):Z7 (W.alloc (.cells cs t)) W.heap.size t cs:=arb W _
theorem Z7.kept {row:Option Nat}{B:Nat}{t:TypeId}{cs:Array Value}(h:Z7 W B t cs)(D:W.grownBy W' row)(C:some B≠row):Z7 W' B t cs:=(D.block B h.lt C).trans h
theorem Z7.alloc {B:Nat}{t:TypeId}{cs:Array Value}(h:Z7 W B t cs)(o:Obj):Z7 (W.alloc o) B t cs:=h.kept (aeb W o none) jS
theorem Z7.below{n B:Nat} {t:TypeId}{cs:Array Value}(h:Z7 W B t cs)(hb:Below n W W')(C:B<n):Z7 W' B t cs:=(hb.block B C).trans h
theorem Z7.set {B:Nat}{t:TypeId}{cs:Array Value}(j:Nat)(v:Value)(h:Z7 W B t cs):Z7 (W.setCell ⟨B,j,none⟩ v) B t (cs.setIfInBounds j v):=by
 obtain⟨C,hk⟩:=aac.1 h;show(W.heap.modify B _)[B]? =_;rw[ang (by rw[atf];exact C),Array.getElem_modify_self,hk];rfl
theorem Z7.other {B B':Nat}{t:TypeId}{cs:Array Value}(h:Z7 W B t cs)(C:B≠B')(j:Nat)(u:Value):Z7 (W.setCell ⟨B',j,none⟩ u) B t cs:=(afc W ⟨B',j,none⟩ u B C).trans h
theorem Z7.put {B l:Nat}{t:TypeId}{cs:Array Value}(h:Z7 W B t cs)(o:Obj)(C:B≠l):Z7 (W.putObj l o) B t cs:=by
 show(W.heap.setIfInBounds l o)[B]? =_;rw[aif (ame C)];exact h
theorem QS{β:Type}(B:Nat)(t:TypeId)(f:β->Array Value):Own (λs W=>Z7 W B t (f s)):=λs X Y row hs D C=>
 hs.kept D (λI=>by obtain⟨o,ho,hc⟩:=C B I.symm;rw[show X.heap[B]? =_ from hs] at ho;cases ho;cases hc)
theorem Z7.q2 {B:Nat}{t:TypeId}{b:Value} (C:Z7 W B t (List.toArray (a::b::z))):W.cell? ⟨B,0,none⟩=some a/\W.cell? ⟨B,1,none⟩=some b:=by simp[C.cell]
theorem Z7.q3 {B:Nat}{t:TypeId}{b c:Value} (C:Z7 W B t (List.toArray (a::b::c::z))):W.cell? ⟨B,0,none⟩=some a/\W.cell? ⟨B,1,none⟩=some b/\W.cell? ⟨B,2,none⟩=some c:=by simp[C.cell]
theorem Z7.q4 {B:Nat}{t:TypeId}{b c d:Value} (C:Z7 W B t (List.toArray (a::b::c::d::z))):W.cell? ⟨B,0,none⟩=some a/\W.cell? ⟨B,1,none⟩=some b/\W.cell? ⟨B,2,none⟩=some c/\W.cell? ⟨B,3,none⟩=some d:=by simp[C.cell]
theorem Z7.q5 {B:Nat}{t:TypeId}{b c d e:Value} (C:Z7 W B t (List.toArray (a::b::c::d::e::z))):W.cell? ⟨B,0,none⟩=some a/\W.cell? ⟨B,1,none⟩=some b/\W.cell? ⟨B,2,none⟩=some c/\W.cell? ⟨B,3,none⟩=some d/\W.cell? ⟨B,4,none⟩=some e:=by simp[C.cell]
theorem Z7.q6 {B:Nat}{t:TypeId}{b c d e f:Value} (C:Z7 W B t (List.toArray (a::b::c::d::e::f::z))):W.cell? ⟨B,0,none⟩=some a/\W.cell? ⟨B,1,none⟩=some b/\W.cell? ⟨B,2,none⟩=some c/\W.cell? ⟨B,3,none⟩=some d/\W.cell? ⟨B,4,none⟩=some e/\W.cell? ⟨B,5,none⟩=some f:=by simp[C.cell]
theorem Z7.q7 {B:Nat}{t:TypeId}{b c d e f:Value} (C:Z7 W B t (List.toArray (a::b::c::d::e::f::g::z))):W.cell? ⟨B,0,none⟩=some a/\W.cell? ⟨B,1,none⟩=some b/\W.cell? ⟨B,2,none⟩=some c/\W.cell? ⟨B,3,none⟩=some d/\W.cell? ⟨B,4,none⟩=some e/\W.cell? ⟨B,5,none⟩=some f/\W.cell? ⟨B,6,none⟩=some g:=by simp[C.cell]
theorem Z7.q8 {B:Nat}{t:TypeId}{b c d e f:Value} (C:Z7 W B t (List.toArray (a::b::c::d::e::f::g::h::z))):W.cell? ⟨B,0,none⟩=some a/\W.cell? ⟨B,1,none⟩=some b/\W.cell? ⟨B,2,none⟩=some c/\W.cell? ⟨B,3,none⟩=some d/\W.cell? ⟨B,4,none⟩=some e/\W.cell? ⟨B,5,none⟩=some f/\W.cell? ⟨B,6,none⟩=some g/\W.cell? ⟨B,7,none⟩=some h:=by simp[C.cell]
theorem Z7.q9 {B:Nat}{t:TypeId}{b c d e f i:Value} (C:Z7 W B t (List.toArray (a::b::c::d::e::f::g::h::i::z))):W.cell? ⟨B,0,none⟩=some a/\W.cell? ⟨B,1,none⟩=some b/\W.cell? ⟨B,2,none⟩=some c/\W.cell? ⟨B,3,none⟩=some d/\W.cell? ⟨B,4,none⟩=some e/\W.cell? ⟨B,5,none⟩=some f/\W.cell? ⟨B,6,none⟩=some g/\W.cell? ⟨B,7,none⟩=some h/\W.cell? ⟨B,8,none⟩=some i:=by simp[C.cell]
theorem Z7.q10 {B:Nat}{t:TypeId}{b c d e f i:Value} (C:Z7 W B t (List.toArray (a::b::c::d::e::f::g::h::i::j::z))):W.cell? ⟨B,0,none⟩=some a/\W.cell? ⟨B,1,none⟩=some b/\W.cell? ⟨B,2,none⟩=some c/\W.cell? ⟨B,3,none⟩=some d/\W.cell? ⟨B,4,none⟩=some e/\W.cell? ⟨B,5,none⟩=some f/\W.cell? ⟨B,6,none⟩=some g/\W.cell? ⟨B,7,none⟩=some h/\W.cell? ⟨B,8,none⟩=some i/\W.cell? ⟨B,9,none⟩=some j:=by simp[C.cell]
theorem Z7.q11 {B:Nat}{t:TypeId}{b c d e f i k:Value} (C:Z7 W B t (List.toArray (a::b::c::d::e::f::g::h::i::j::k::z))):W.cell? ⟨B,0,none⟩=some a/\W.cell? ⟨B,1,none⟩=some b/\W.cell? ⟨B,2,none⟩=some c/\W.cell? ⟨B,3,none⟩=some d/\W.cell? ⟨B,4,none⟩=some e/\W.cell? ⟨B,5,none⟩=some f/\W.cell? ⟨B,6,none⟩=some g/\W.cell? ⟨B,7,none⟩=some h/\W.cell? ⟨B,8,none⟩=some i/\W.cell? ⟨B,9,none⟩=some j/\W.cell? ⟨B,10,none⟩=some k:=by simp[C.cell]
theorem Z7.e0 {B:Nat}{t:TypeId}(C:Z7 W B t (List.toArray (a::z))):W.cell? ⟨B,0,none⟩=some a:=by simp[C.cell]
theorem Z7.e1 {B:Nat}{t:TypeId}{b:Value} (C:Z7 W B t (List.toArray (a::b::z))):W.cell? ⟨B,1,none⟩=some b:=by simp[C.cell]
theorem Z7.e2 {B:Nat}{t:TypeId}{b c:Value} (C:Z7 W B t (List.toArray (a::b::c::z))):W.cell? ⟨B,2,none⟩=some c:=by simp[C.cell]
theorem Z7.e3 {B:Nat}{t:TypeId}{b c d:Value} (C:Z7 W B t (List.toArray (a::b::c::d::z))):W.cell? ⟨B,3,none⟩=some d:=by simp[C.cell]
theorem Z7.e4 {B:Nat}{t:TypeId}{b c d e:Value} (C:Z7 W B t (List.toArray (a::b::c::d::e::z))):W.cell? ⟨B,4,none⟩=some e:=by simp[C.cell]
theorem Z7.e5 {B:Nat}{t:TypeId}{b c d e f:Value} (C:Z7 W B t (List.toArray (a::b::c::d::e::f::z))):W.cell? ⟨B,5,none⟩=some f:=by simp[C.cell]
theorem Z7.e9 {B:Nat}{t:TypeId}{b c d e f i:Value} (C:Z7 W B t (List.toArray (a::b::c::d::e::f::g::h::i::j::z))):W.cell? ⟨B,9,none⟩=some j:=by simp[C.cell]
end Go.Proofs.YtclgigmgbebhgaaGreatDoor
namespace Go.Proofs.YtclgigmgbebhgaaGreatDoor
open Tryz
open Go Go.Proofs
variable {wide:Bool} {m:Int} {K:Int->Prop} {a h:Nat} {w Bk:Nat->Nat}
structure Z9 where
 mark:Int
 (code k:Nat)
 (t f:Int)
structure ZN where
 (code jt jf k:Nat)
def YS(c:Nat):Bool:=c == 0x15 || c == 0x25 || c == 0x35 || c == 0x45
def YF(c a k:Nat):Bool:=if c=0x15 then a == k else if c=0x25 then decide (k<a) else if c=0x35 then decide (k<=a) else(a &&& k) != 0
def UU(m:Int):List Z9->List Z9
 |[]=>[]
 |y::ys=>if y.mark=m then ys else UU m ys
theorem Ez(m:Int):∀l,(UU m l).length<=l.length
 |[]=>aR _
 |y::ys=>by
  unfold UU;split;·simp
  ·exact aO (Ez m ys) jS
def goto(m:Int)(l:List Z9):List Z9:=if m=0 then l else UU m l
theorem Ey(m:Int)(l:List Z9):(goto m l).length<=l.length:=by
 unfold goto;split;·exact aR _
 ·exact Ez m l
def Wd(w:Nat->Nat)(l:List Z9)(a:Nat):Option Nat:=
 match l with
 |[]=>none
 |x::r=>
  if x.mark≠0 then Wd w r a
  else if x.code=0x20 then Wd w r (w x.k)
  else if x.code=0x54 then Wd w r (a &&& x.k)
  else if x.code=0x05 then Wd w (goto x.t r) a
  else if x.code=0x06 then some x.k
  else if YS x.code=true then Wd w (goto (if YF x.code a x.k=true then x.t else x.f) r) a
  else none
termination_by l.length
decreasing_by
 all_goals simp
 all_goals exact Nat.lt_succ_of_le (Ey _ _)
def Zh(w:Nat->Nat)(l:List ZN)(a:Nat):Option Nat:=
 match l with
 |[]=>none
 |i::r=>
  if i.code=0x20 then Zh w r (w i.k)
  else if i.code=0x54 then Zh w r (a &&& i.k)
  else if i.code=0x05 then Zh w (r.drop i.k) a
  else if i.code=0x06 then some i.k
  else if YS i.code=true then Zh w (r.drop (if YF i.code a i.k=true then i.jt else i.jf)) a
  else none
termination_by l.length
decreasing_by
 all_goals simp
 all_goals omega
theorem mH(w:Nat->Nat)(a:Nat):Wd w [] a=none:=by unfold Wd;rfl
theorem tA {x:Z9}(h:x.mark≠0)(r:List Z9)(a:Nat):Wd w (x::r) a=Wd w r a:=by
 conv=>lhs;unfold Wd
 rw[aF h]
theorem QR {x:Z9}(h:x.mark=0)(r:List Z9)(a:Nat):Wd w (x::r) a=(if x.code=0x20 then Wd w r (w x.k)
 else if x.code=0x54 then Wd w r (a &&& x.k)
 else if x.code=0x05 then Wd w (goto x.t r) a
 else if x.code=0x06 then some x.k
 else if YS x.code=true then Wd w (goto (if YF x.code a x.k=true then x.t else x.f) r) a
 else none):=by
 conv=>lhs;unfold Wd
 rw[aN (λe=>e h)]
theorem IM(w:Nat->Nat)(a:Nat):Zh w [] a=none:=by unfold Zh;rfl
theorem V8(w:Nat->Nat)(i:ZN)(r:List ZN)(a:Nat):Zh w (i::r) a=(if i.code=0x20 then Zh w r (w i.k)
 else if i.code=0x54 then Zh w r (a &&& i.k)
 else if i.code=0x05 then Zh w (r.drop i.k) a
 else if i.code=0x06 then some i.k
 else if YS i.code=true then Zh w (r.drop (if YF i.code a i.k=true then i.jt else i.jf)) a
 else none):=by
 conv=>lhs;unfold Zh
def marks(l:List Z9):List Int:=(l.filter (λx=>x.mark != 0)).map (·.mark)
def Z6(l:List Z9):List Z9:=l.filter (λx=>x.mark == 0)
theorem WX{x:Z9}(h:x.mark≠0)(r:List Z9):Z6 (x::r)=Z6 r:=by
 unfold Z6;rw[aoe,aN (by simpa using h)]
theorem Yw{x:Z9}(h:x.mark=0)(r:List Z9):Z6 (x::r)=x::Z6 r:=by
 unfold Z6;rw[aoe,aF (by simpa using h)]
theorem Yg(a b:List Z9):Z6 (a++b)=Z6 a++Z6 b:=by unfold Z6;rw[aye]
theorem WQ(a b:List Z9):marks (a++b)=marks a++marks b:=by unfold marks;rw[aye,ada]
theorem Zp{x:Z9}(h:x.mark≠0)(r:List Z9):marks (x::r)=x.mark::marks r:=by
 unfold marks;rw[aoe,aF (by simpa using h)];rfl
theorem YY{x:Z9}(h:x.mark=0)(r:List Z9):marks (x::r)=marks r:=by
 unfold marks;rw[aoe,aN (by simp[h])]
def ZR:List Z9->Prop
 |[]=>True
 |x::r=>ZR r/\(if x.mark≠0 then x.mark∉marks r else(x.t≠0->x.t∈marks r)/\(x.f≠0->x.f∈marks r))
theorem ZR.tail:∀(p:List Z9) {s:List Z9},ZR (p++s)->ZR s
 |[],_,h=>h
 |_::p,_,h=>ZR.tail p h.1
theorem OD:∀(p:List Z9) (m:Int) (s:List Z9),m≠0->m∉marks p->UU m (p++s)=UU m s
 |[],_,_,_,_=>rfl
 |x::p,m,s,h0,h=>by
  have hx:x.mark≠m:=by
   intro e;by_cases hz:x.mark=0;·exact h0 (e.symm.trans hz)
   ·rw[Zp hz] at h;exact h (by rw[e];simp)
  rw[ahb];show(if x.mark=m then _ else _)=_;rw[aN hx];refine OD p m s h0 (λe=>h ?_);by_cases hz:x.mark=0;·rw[YY hz];exact e
  ·rw[Zp hz];exact aff _ e
theorem ZR.fresh:∀(p:List Z9) {s:List Z9} {m:Int},ZR (p++s)->m∈marks s->m∉marks p
 |[],_,_,_,_=>by simp[marks]
 |x::p,s,m,h,hm=>by
  have D:=ZR.fresh p h.1 hm;by_cases hz:x.mark=0;·rw[YY hz];exact D
  ·rw[Zp hz];intro e;rcases abb.1 e with rfl|e
   ·have C:=h.2;rw[aF hz] at C;have C:x.mark∉marks (p++s):=C;rw[WQ] at C;exact C (abf.2 (.inr hm))
   ·exact D e
def place(l:List Z9)(m:Int):Nat:=(Z6 l).length-(Z6 (UU m l)).length
def target(l:List Z9)(n:Nat)(m:Int):Nat:=if m=0 then n+1 else place l m
def encI(x:Z9)(ZU far:Bool)(p y z:Nat):List ZN:=
 if ZU=true then []
 else if far=true then [⟨x.code,0,1,x.k⟩,⟨0x05,0,0,y-(p+1)-1⟩,⟨0x05,0,0,z-(p+2)-1⟩]
 else if x.code=0x05 then [⟨x.code,0,0,y-p-1⟩]
 else if YS x.code=true then [⟨x.code,y-p-1,z-p-1,x.k⟩]
 else [⟨x.code,0,0,x.k⟩]
structure UK(l:List Z9)(out:List ZN)(at_:Nat->Nat)(ZU far:Nat->Bool):Prop where
 code:∀x∈Z6 l,x.code=0x20\/x.code=0x54\/x.code=0x05\/x.code=0x06\/YS x.code=true
 next:∀(n:Nat) (x:Z9),(Z6 l)[n]? =some x->at_ (n+1)=at_ n+(encI x (ZU n) (far n) (at_ n) (at_ (target l n x.t)) (at_ (target l n x.f))).length
 write:∀(n:Nat) (x:Z9),(Z6 l)[n]? =some x->out.drop (at_ n)=encI x (ZU n) (far n) (at_ n) (at_ (target l n x.t)) (at_ (target l n x.f))++out.drop (at_ (n+1))
 last:out.drop (at_ (Z6 l).length)=[]
 branch:∀(n:Nat) (x:Z9),(Z6 l)[n]? =some x->far n=true->YS x.code=true
 plain:∀(n:Nat) (x:Z9),(Z6 l)[n]? =some x->x.code=0x20\/x.code=0x54->x.t=0
 yes:∀(n:Nat) (x:Z9),(Z6 l)[n]? =some x->ZU n=false->x.code≠0x06->ZU (target l n x.t)=false
 no:∀(n:Nat) (x:Z9),(Z6 l)[n]? =some x->ZU n=false->YS x.code=true->ZU (target l n x.f)=false
theorem UK.mono{l:List Z9}{out:List ZN}{at_:Nat->Nat}{ZU far:Nat->Bool}(h:UK l out at_ ZU far):∀(d n:Nat),n+d<=(Z6 l).length->at_ n<=at_ (n+d)
 |0,n,_=>aR _
 |d+1,n,hn=>by have C:=h.mono d n jO;obtain⟨x,hx⟩:∃x,(Z6 l)[n+d]? =some x:=⟨_,aL jO⟩;have:=h.next _ _ hx;rw[<-aAb,this];omega
theorem Ex{p:List Z9}{x:Z9}{r:List Z9}(hf:ZR (p++x::r)) (hm:m≠0)(h:m∈marks r):place (p++x::r) m=(Z6 (p++x::r)).length-(Z6 (UU m r)).length:=by
 unfold place;have e:p++x::r=(p++[x])++r:=jS;have C:m∉marks (p++[x]):=ZR.fresh (p++[x]) (by rw[<-e];exact hf) h;rw[e,OD (p++[x]) m r hm C]
theorem K1:∀(l:List Z9) (m:Int),(Z6 (UU m l)).length<=(Z6 l).length
 |[],_=>aR _
 |y::ys,m=>by
  have C:=K1 ys m;have h:(Z6 ys).length<=(Z6 (y::ys)).length:=by
   by_cases hz:y.mark=0;·rw[Yw hz];simp
   ·rw[WX hz];exact aR _
  unfold UU;split;·exact h
  ·exact aO C h
theorem Rz:∀(l:List Z9) (m:Int),m≠0->m∈marks l->∃p,l=p++UU m l
 |[],m,_,h=>by simp[marks] at h
 |y::ys,m,h0,h=>by
  unfold UU;by_cases e:y.mark=m;·rw[aF e];exact⟨[y],rfl⟩
  ·rw[aN e]
   have C:m∈marks ys:=by
    by_cases hz:y.mark=0;·rwa [YY hz] at h
    ·rw[Zp hz] at h;rcases abb.1 h with rfl|h;·exact absurd rfl e
     ·exact h
   obtain⟨p,hp⟩:=Rz ys m h0 C;exact⟨y::p,by rw[ahb,<-hp]⟩
theorem Vi{p:List Z9}{x:Z9}{r:List Z9}(hf:ZR (p++x::r))(hx:x.mark=0) (h:m≠0->m∈marks r):
 ∃q,p++x::r=q++goto m r/\target (p++x::r) (Z6 p).length m=(Z6 (p++x::r)).length-(Z6 (goto m r)).length/\(Z6 p).length+1<=target (p++x::r) (Z6 p).length m/\(Z6 (goto m r)).length<=(Z6 (p++x::r)).length:=by
 have hN:(Z6 (p++x::r)).length=(Z6 p).length+1+(Z6 r).length:=by rw[Yg,Yw hx,ay,ai];omega
 unfold goto target;by_cases C:m=0;·rw[aF C,aF C];exact⟨p++[x],jS,jO,aR _,jO⟩
 ·rw[aN C,aN C];have hm:=h C;obtain⟨q,D⟩:=Rz r m C hm;have hs:=K1 r m;refine⟨p++x::q,by rw[aag,ahb,<-D],Ex hf C hm,?_,jO⟩;rw[Ex hf C hm];omega
theorem ZR.here:∀(p:List Z9) {x:Z9} {r:List Z9},ZR (p++x::r)->x.mark=0->(x.t≠0->x.t∈marks r)/\(x.f≠0->x.f∈marks r)
 |[],x,r,h,hx=>by have:=h.2;rwa [aN (λe=>e hx)] at this
 |_::p,x,r,h,hx=>ZR.here p h.1 hx
theorem dU{p:List Z9}{x:Z9}{r:List Z9}(hx:x.mark=0):(Z6 (p++x::r))[(Z6 p).length]? =some x:=by
 rw[Yg,Yw hx,aad (aR _),alc];rfl
theorem Pd{c:Nat}(h:YS c=true):c≠0x20/\c≠0x54/\c≠0x05/\c≠0x06:=by
 unfold YS at h;simp only[asg,ahc] at h;omega
theorem Vm{α:Type}{l:List α}{p:Nat}{i:α}{rest:List α}(h:l.drop p=i::rest):l.drop (p+1)=rest:=by
 have:=ax (List.drop 1) h;rw[List.drop_drop] at this;exact this
theorem Nt{α:Type}{l:List α}{p:Nat}{i:α}{rest:List α}(h:l.drop p=i::rest)(d:Nat):rest.drop d=l.drop (p+1+d):=by
 rw[<-Vm h,List.drop_drop]
theorem Ns {out:List ZN}{p jt jf k:Nat}{rest:List ZN}(h:out.drop p=⟨0x05,jt,jf,k⟩::rest):Zh w (out.drop p) a=Zh w (out.drop (p+1+k)) a:=by
 rw[h,V8,<-Nt h];rfl
theorem zy {out:List ZN}{p:Nat}{i:ZN}{rest:List ZN}(h:out.drop p=i::rest)(hb:YS i.code=true):Zh w (out.drop p) a=Zh w (out.drop (p+1+(if YF i.code a i.k=true then i.jt else i.jf))) a:=by
 have hc:=Pd hb;rw[h,V8,aN hc.1,aN hc.2.1,aN hc.2.2.1,aN hc.2.2.2,aF hb,Nt h]
theorem xN {out:List ZN}{p:Nat}{i:ZN}{rest:List ZN}(h:out.drop p=i::rest)(hc:i.code=0x20):Zh w (out.drop p) a=Zh w (out.drop (p+1)) (w i.k):=by
 rw[h,V8,aF hc,Vm h]
theorem tz {out:List ZN}{p:Nat}{i:ZN}{rest:List ZN}(h:out.drop p=i::rest)(hc:i.code=0x54):Zh w (out.drop p) a=Zh w (out.drop (p+1)) (a &&& i.k):=by
 rw[h,V8,aN jO,aF hc,Vm h]
theorem tu {out:List ZN}{p:Nat}{i:ZN}{rest:List ZN}(h:out.drop p=i::rest)(hc:i.code=0x06):Zh w (out.drop p) a=some i.k:=by
 rw[h,V8,aN jO,aN jO,aN jO,aF hc]
theorem Lk{w:Nat->Nat}{l:List Z9}{out:List ZN}{at_:Nat->Nat}{ZU far:Nat->Bool}(hf:ZR l)(h:UK l out at_ ZU far):
 ∀(k:Nat) (s p:List Z9) (a:Nat),s.length<=k->l=p++s->ZU (Z6 p).length=false->Zh w (out.drop (at_ (Z6 p).length)) a=Wd w s a
 |k,[],p,a,_,e,_=>by rw[adb] at e;subst e;rw[h.last,IM,mH]
 |0,x::r,p,a,hk,_,_=>by simp at hk
 |k+1,x::r,p,a,hk,e,hu=>by
  simp only[ai] at hk;by_cases hx:x.mark=0
  ·subst e;have D:=dU (p:=p) (r:=r) hx;obtain⟨Z,ff⟩:=ZR.here p hf hx
   have hN:(Z6 (p++x::r)).length=(Z6 p).length+1+(Z6 r).length:=by rw[Yg,Yw hx,ay,ai];omega
   have hw:=h.write _ _ D;have hn:=h.next _ _ D;have go:∀m,(m≠0->m∈marks r)->ZU (target (p++x::r) (Z6 p).length m)=false->∀a,Zh w (out.drop (at_ (target (p++x::r) (Z6 p).length m))) a=Wd w (goto m r) a:=by
    intro m hm Y a;obtain⟨q,hq,ht,_,hle⟩:=Vi hf hx hm;have tT:(Z6 q).length=target (p++x::r) (Z6 p).length m:=by rw[ht];have:=ax (λl=>(Z6 l).length) hq;simp only[Yg,ay] at this;rw[Yg,ay];omega
    rw[<-tT] at Y ⊢;exact Lk hf h k (goto m r) q a (aO (Ey m r) jO) hq Y
   have behind:∀m,(m≠0->m∈marks r)->at_ ((Z6 p).length+1)<=at_ (target (p++x::r) (Z6 p).length m):=by
    intro m hm;obtain⟨_,_,ht,dT,hle⟩:=Vi hf hx hm;obtain⟨d,hd⟩:∃d,target (p++x::r) (Z6 p).length m=(Z6 p).length+1+d:=⟨_,(Nat.add_sub_cancel' dT).symm⟩;have hb:target (p++x::r) (Z6 p).length m<=(Z6 (p++x::r)).length:=by rw[ht];omega
    rw[hd] at hb ⊢;exact h.mono d _ hb
   have b1:=behind x.t Z;have b2:=behind x.f ff;rw[QR hx];unfold encI at hw hn;rw[hu,aN jD] at hw hn;generalize hP:at_ (Z6 p).length=P at*;by_cases I:far (Z6 p).length=true
   ·have C:=h.branch _ _ D I;rw[aF I] at hw hn;simp only[ai,acg] at hn;have hc:=Pd C;have U:=h.yes _ _ D hu hc.2.2.2;have J:=h.no _ _ D hu C;rw[aN hc.1,aN hc.2.1,aN hc.2.2.1,aN hc.2.2.2,aF C,zy hw C];have w1:=Vm hw;have w2:=Vm w1;by_cases hb:YF x.code a x.k=true;·rw[aF hb,aF hb];show Zh w (out.drop (P+1+0)) a=_;rw[aec,Ns w1,show P+1+1+(at_ (target (p++x::r) (Z6 p).length x.t)-(P+1)-1)=at_ (target (p++x::r) (Z6 p).length x.t) from jO];exact go x.t Z U a
    ·rw[aN hb,aN hb];show Zh w (out.drop (P+1+1)) a=_;rw[Ns w2,show P+1+1+1+(at_ (target (p++x::r) (Z6 p).length x.f)-(P+2)-1)=at_ (target (p++x::r) (Z6 p).length x.f) from jO];exact go x.f ff J a
   ·rw[aN I] at hw hn;by_cases T:x.code=0x05;·rw[aF T] at hw hn;simp only[ai,acg] at hn;have U:=h.yes _ _ D hu jO;rw[T] at hw;rw[aN jO,aN jO,aF T,Ns hw,show P+1+(at_ (target (p++x::r) (Z6 p).length x.t)-P-1)=at_ (target (p++x::r) (Z6 p).length x.t) from jO];exact go x.t Z U a
    ·rw[aN T] at hw hn;by_cases C:YS x.code=true
     ·rw[aF C] at hw hn;simp only[ai,acg] at hn;have hc:=Pd C;have U:=h.yes _ _ D hu hc.2.2.2;have J:=h.no _ _ D hu C;rw[aN hc.1,aN hc.2.1,aN hc.2.2.1,aN hc.2.2.2,aF C,zy hw C];by_cases hb:YF x.code a x.k=true;·rw[aF hb,aF hb];show Zh w (out.drop (P+1+(at_ (target (p++x::r) (Z6 p).length x.t)-P-1))) a=_;rw[show P+1+(at_ (target (p++x::r) (Z6 p).length x.t)-P-1)=at_ (target (p++x::r) (Z6 p).length x.t) from jO];exact go x.t Z U a
      ·rw[aN hb,aN hb];show Zh w (out.drop (P+1+(at_ (target (p++x::r) (Z6 p).length x.f)-P-1))) a=_;rw[show P+1+(at_ (target (p++x::r) (Z6 p).length x.f)-P-1)=at_ (target (p++x::r) (Z6 p).length x.f) from jO];exact go x.f ff J a
     ·rw[aN C] at hw hn;simp only[ai,acg] at hn
      have nx:x.code=0x20\/x.code=0x54->∀a,Zh w (out.drop (P+1)) a=Wd w r a:=by
       intro h6 a;have hp:(Z6 (p++[x])).length=(Z6 p).length+1:=by rw[Yg,Yw hx];simp[Z6]
       have J:=h.yes _ _ D hu jO;rw[h.plain _ _ D h6] at J;have J:ZU ((Z6 p).length+1)=false:=J;have:=Lk (w:=w) hf h k r (p++[x]) a jO jS (by rw[hp];exact J);rw[hp,hn] at this;simpa using this
      rcases h.code x (ag D) with hc|hc|hc|hc|hc;·rw[aF hc,xN hw hc];exact nx (.inl hc) _
      ·rw[aN jO,aF hc,tz hw hc];exact nx (.inr hc) _
      ·exact absurd hc T
      ·rw[aN jO,aN jO,aN T,aF hc,tu hw hc]
      ·exact absurd hc C
  ·have hp:(Z6 (p++[x])).length=(Z6 p).length:=by
    rw[Yg,WX hx];simp[Z6]
   rw[tA hx,<-hp];exact Lk hf h k r (p++[x]) a jO (by rw[e];simp) (by rw[hp];exact hu)
def JF(w:Nat->Nat)(F:List Z9)(m:Int)(a:Nat):Option Nat:=Wd w (UU m F) a
theorem GI {F p r:List Z9}{x:Z9}(hF:ZR F)(e:F=p++x::r)(m:Int)(h:m≠0->m∈marks r)(a:Nat):Wd w (goto m r) a=if m=0 then Wd w r a else JF w F m a:=by
 unfold goto JF;split;·rfl
 ·rename_i D;have hm:=h D;have e2:F=(p++[x])++r:=by rw[e];simp
  have C:m∉marks (p++[x]):=ZR.fresh (p++[x]) (by rw[<-e2];exact hF) hm;rw[e2,OD (p++[x]) m r D C]
theorem af1 {F p r:List Z9}{x:Z9}(hF:ZR F)(e:F=p++x::r)(hx:x.mark=0)(hb:YS x.code=true)(a:Nat):
 Wd w (x::r) a=if YF x.code a x.k=true then(if x.t=0 then Wd w r a else JF w F x.t a) else(if x.f=0 then Wd w r a else JF w F x.f a):=by
 have hc:=Pd hb;obtain⟨C,ff⟩:=ZR.here p (e▸hF) hx;rw[QR hx,aN hc.1,aN hc.2.1,aN hc.2.2.1,aN hc.2.2.2,aF hb];split;·exact GI hF e x.t C a
 ·exact GI hF e x.f ff a
theorem Lj {F p r:List Z9}{k:Nat}{t f:Int}(hF:ZR F)(e:F=p++⟨0,0x05,k,t,f⟩::r)(ht:t≠0)(a:Nat):Wd w (⟨0,0x05,k,t,f⟩::r) a=JF w F t a:=by
 obtain⟨C,_⟩:=ZR.here p (e▸hF) rfl;rw[QR rfl];dsimp only;rw[aN jD,aN jD,aF rfl,GI hF e t C a,aN ht]
theorem W5(w:Nat->Nat)(r:List Z9)(k:Nat)(t f:Int)(a:Nat):Wd w (⟨0,0x20,k,t,f⟩::r) a=Wd w r (w k):=by
 rw[QR rfl];dsimp only;rw[aF rfl]
theorem Cb(w:Nat->Nat)(r:List Z9)(k:Nat)(t f:Int)(a:Nat):Wd w (⟨0,0x54,k,t,f⟩::r) a=Wd w r (a &&& k):=by
 rw[QR rfl];dsimp only;rw[aN jD,aF rfl]
theorem dR(w:Nat->Nat)(r:List Z9)(k:Nat)(t f:Int)(a:Nat):Wd w (⟨0,0x06,k,t,f⟩::r) a=some k:=by
 rw[QR rfl];dsimp only;rw[aN jD,aN jD,aN jD,aF rfl]
def Zq(m:Int):Z9:=⟨m,0,0,0,0⟩
def ins(code k:Nat)(t f:Int):Z9:=⟨0,code,k,t,f⟩
theorem Tr {F p r:List Z9} (hF:ZR F)(e:F=p++Zq m::r)(hm:m≠0)(a:Nat):JF w F m a=Wd w r a:=by
 have C:m∉marks p:=by refine ZR.fresh p (s:=Zq m::r) (by rw[<-e];exact hF) ?_;rw[Zp (show(Zq m).mark≠0 from hm)];exact agd
 unfold JF;rw[e,OD p m _ hm C];unfold UU;rw[aF (show(Zq m).mark=m from rfl)]
structure Z5 where
 (a o m v:Nat)
def opH(o m v x:Nat):Bool:=if o=1 then x == v else if o=2 then x != v else if o=3 then decide (x<v) else if o=6 then decide (v<=x) else(x &&& m) == v
def lo(n:Nat):Nat:=n%4294967296
def hi(n:Nat):Nat:=n/4294967296
def Yv(a:Nat):Nat:=16+8*a
def Y5(a:Nat):Nat:=16+8*a+4
def Ry(UJ Xh h l:Nat)(wide:Bool)(yes no:Int):List Z9:=(if wide then [ins 0x20 UJ 0 0,ins 0x15 h 0 no] else [])++[ins 0x20 Xh 0 0,ins 0x15 l yes no]
def Vh(UJ Xh h l:Nat)(wide:Bool)(yes no:Int):List Z9:=(if wide then [ins 0x20 UJ 0 0,ins 0x25 h yes 0,ins 0x15 h 0 no] else [])++[ins 0x20 Xh 0 0,ins 0x35 l yes no]
def MG(UJ Xh h l mh ml:Nat)(wide:Bool)(yes no:Int):List Z9:=(if wide then [ins 0x20 UJ 0 0,ins 0x54 mh 0 0,ins 0x15 h 0 no] else [])++[ins 0x20 Xh 0 0,ins 0x54 ml 0 0,ins 0x15 l yes no]
def XC(c:Z5)(wide:Bool)(yes no:Int):List Z9:=
 if c.o=1 then Ry (Y5 c.a) (Yv c.a) (hi c.v) (lo c.v) wide yes no
 else if c.o=2 then Ry (Y5 c.a) (Yv c.a) (hi c.v) (lo c.v) wide no yes
 else if c.o=3 then Vh (Y5 c.a) (Yv c.a) (hi c.v) (lo c.v) wide no yes
 else if c.o=6 then Vh (Y5 c.a) (Yv c.a) (hi c.v) (lo c.v) wide yes no
 else MG (Y5 c.a) (Yv c.a) (hi c.v) (lo c.v) (hi c.m) (lo c.m) wide yes no
def WH(w:Nat->Nat)(wide:Bool)(a:Nat):Nat:=if wide then w (Y5 a)*4294967296+w (Yv a) else w (Yv a)
theorem Zk {F p r:List Z9}{c k:Nat}{t f:Int}(hF:ZR F)(e:F=p++ins c k t f::r)(hb:YS c=true)(a:Nat):
 Wd w (ins c k t f::r) a=if YF c a k=true then(if t=0 then Wd w r a else JF w F t a) else(if f=0 then Wd w r a else JF w F f a):=af1 hF e rfl hb a
theorem XI(a k:Nat):YF 0x15 a k=(a == k):=rfl
theorem mG(a k:Nat):YF 0x25 a k=decide (k<a):=rfl
theorem GH(a k:Nat):YF 0x35 a k=decide (k<=a):=rfl
theorem zx(a k:Nat):YF 0x45 a k=((a &&& k) != 0):=rfl
def GG(w:Nat->Nat):Prop:=∀k,w k<4294967296
theorem zw{w:Nat->Nat}{F p r:List Z9}{UJ Xh v:Nat}{wide:Bool}{yes no:Int}(hF:ZR F)(hw:GG w)(e:F=p++(Ry UJ Xh (hi v) (lo v) wide yes no++r))(hy:yes≠0)(hn:no≠0)(hv:wide=true\/v<4294967296)(a:Nat):
 ∃a',Wd w (Ry UJ Xh (hi v) (lo v) wide yes no++r) a=JF w F (if (if wide then w UJ*4294967296+w Xh else w Xh)=v then yes else no) a':=by
 have hl:=hw Xh;have I:=hw UJ;unfold Ry at e ⊢;unfold hi lo at*;cases wide with
 |false=>
  have hv:v<4294967296:=hv.resolve_left jD;have e1:F=(p++[ins 0x20 Xh 0 0])++ins 0x15 (v%4294967296) yes no::r:=by rw[e];simp
  refine⟨w Xh,?_⟩;show Wd w (ins 0x20 Xh 0 0::ins 0x15 (v%4294967296) yes no::r) a=_;rw[show ins 0x20 Xh 0 0=⟨0,0x20,Xh,0,0⟩ from rfl,W5,Zk hF e1 rfl,XI,aN hy,aN hn,alg hv];by_cases h:w Xh=v;·rw[aF (by simpa using h),aF (by simpa using h)]
  ·rw[aN (by simpa using h),aN (by simpa using h)]
 |true=>
  have e1:F=(p++[ins 0x20 UJ 0 0])++ins 0x15 (v/4294967296) 0 no::ins 0x20 Xh 0 0::ins 0x15 (v%4294967296) yes no::r:=by rw[e];simp
  have e2:F=(p++[ins 0x20 UJ 0 0,ins 0x15 (v/4294967296) 0 no,ins 0x20 Xh 0 0])++ins 0x15 (v%4294967296) yes no::r:=by rw[e];simp
  show ∃a',Wd w (ins 0x20 UJ 0 0::ins 0x15 (v/4294967296) 0 no::ins 0x20 Xh 0 0::ins 0x15 (v%4294967296) yes no::r) a=_;rw[show ins 0x20 UJ 0 0=⟨0,0x20,UJ,0,0⟩ from rfl,W5,Zk hF e1 rfl,XI,aN hn,aF rfl,aF rfl];by_cases D:w UJ=v/4294967296
  ·rw[aF (by simpa using D),show ins 0x20 Xh 0 0=⟨0,0x20,Xh,0,0⟩ from rfl,W5,Zk hF e2 rfl,XI,aN hy,aN hn];refine⟨w Xh,?_⟩;by_cases C:w Xh=v%4294967296;·rw[aF (by simpa using C),aF jO]
   ·rw[aN (by simpa using C),aN jO]
  ·rw[aN (by simpa using D),aN jO];exact⟨_,rfl⟩
theorem Ew{w:Nat->Nat}{F p r:List Z9}{UJ Xh v:Nat}{wide:Bool}{yes no:Int}(hF:ZR F)(hw:GG w)(e:F=p++(Vh UJ Xh (hi v) (lo v) wide yes no++r))(hy:yes≠0)(hn:no≠0)(hv:wide=true\/v<4294967296)(a:Nat):
 ∃a',Wd w (Vh UJ Xh (hi v) (lo v) wide yes no++r) a=JF w F (if v<=(if wide then w UJ*4294967296+w Xh else w Xh) then yes else no) a':=by
 have hl:=hw Xh;have J:=hw UJ;unfold Vh at e ⊢;unfold hi lo at*;cases wide with
 |false=>
  have hv:v<4294967296:=hv.resolve_left jD;have e1:F=(p++[ins 0x20 Xh 0 0])++ins 0x35 (v%4294967296) yes no::r:=by rw[e];simp
  refine⟨w Xh,?_⟩;show Wd w (ins 0x20 Xh 0 0::ins 0x35 (v%4294967296) yes no::r) a=_;rw[show ins 0x20 Xh 0 0=⟨0,0x20,Xh,0,0⟩ from rfl,W5,Zk hF e1 rfl,GH,aN hy,aN hn,alg hv];by_cases h:v<=w Xh;·rw[aF (by simpa using h),aF (by simpa using h)]
  ·rw[aN (by simpa using h),aN (by simpa using h)]
 |true=>
  have e1:F=(p++[ins 0x20 UJ 0 0])++ins 0x25 (v/4294967296) yes 0::ins 0x15 (v/4294967296) 0 no::ins 0x20 Xh 0 0::ins 0x35 (v%4294967296) yes no::r:=by rw[e];simp
  have e2:F=(p++[ins 0x20 UJ 0 0,ins 0x25 (v/4294967296) yes 0])++ins 0x15 (v/4294967296) 0 no::ins 0x20 Xh 0 0::ins 0x35 (v%4294967296) yes no::r:=by rw[e];simp
  have e3:F=(p++[ins 0x20 UJ 0 0,ins 0x25 (v/4294967296) yes 0,ins 0x15 (v/4294967296) 0 no,ins 0x20 Xh 0 0])++ins 0x35 (v%4294967296) yes no::r:=by rw[e];simp
  show ∃a',Wd w (ins 0x20 UJ 0 0::ins 0x25 (v/4294967296) yes 0::ins 0x15 (v/4294967296) 0 no::ins 0x20 Xh 0 0::ins 0x35 (v%4294967296) yes no::r) a=_;rw[show ins 0x20 UJ 0 0=⟨0,0x20,UJ,0,0⟩ from rfl,W5,Zk hF e1 rfl,mG,aN hy,aF rfl,aF rfl];by_cases D:v/4294967296<w UJ;·rw[aF (by simpa using D),aF jO];exact⟨_,rfl⟩
  ·rw[aN (by simpa using D),Zk hF e2 rfl,XI,aN hn,aF rfl];by_cases I:w UJ=v/4294967296
   ·rw[aF (by simpa using I),show ins 0x20 Xh 0 0=⟨0,0x20,Xh,0,0⟩ from rfl,W5,Zk hF e3 rfl,GH,aN hy,aN hn];refine⟨w Xh,?_⟩;by_cases C:v%4294967296<=w Xh;·rw[aF (by simpa using C),aF jO]
    ·rw[aN (by simpa using C),aN jO]
   ·rw[aN (by simpa using I),aN jO];exact⟨_,rfl⟩
theorem xM(x m v:Nat):(x &&& m=v)↔((x/4294967296 &&& m/4294967296)=v/4294967296/\(x%4294967296 &&& m%4294967296)=v%4294967296):=by
 have C:(x &&& m)/4294967296=x/4294967296 &&& m/4294967296:=by have:=Nat.and_div_two_pow (a:=x) (b:=m) (n:=32);simpa using this
 have D:(x &&& m)%4294967296=x%4294967296 &&& m%4294967296:=by have:=Nat.and_mod_two_pow (a:=x) (b:=m) (n:=32);simpa using this
 rw[<-C,<-D];constructor;·rintro rfl;exact⟨rfl,rfl⟩
 ·rintro⟨e1,e2⟩;rw[<-Nat.div_add_mod (x &&& m) 4294967296,e1,e2,Nat.div_add_mod]
theorem mF{w:Nat->Nat}{F p r:List Z9}{UJ Xh v m:Nat}{wide:Bool}{yes no:Int}(hF:ZR F)(hw:GG w)(e:F=p++(MG UJ Xh (hi v) (lo v) (hi m) (lo m) wide yes no++r))(hy:yes≠0)(hn:no≠0)(hv:wide=true\/(v<4294967296/\m<4294967296))(a:Nat):
 ∃a',Wd w (MG UJ Xh (hi v) (lo v) (hi m) (lo m) wide yes no++r) a=JF w F (if ((if wide then w UJ*4294967296+w Xh else w Xh) &&& m)=v then yes else no) a':=by
 have hl:=hw Xh;have I:=hw UJ;unfold MG at e ⊢;unfold hi lo at*;cases wide with
 |false=>
  obtain⟨hv,hm⟩:=hv.resolve_left jD;have e1:F=(p++[ins 0x20 Xh 0 0,ins 0x54 (m%4294967296) 0 0])++ins 0x15 (v%4294967296) yes no::r:=by rw[e];simp
  refine⟨w Xh &&& m,?_⟩;show Wd w (ins 0x20 Xh 0 0::ins 0x54 (m%4294967296) 0 0::ins 0x15 (v%4294967296) yes no::r) a=_;rw[show ins 0x20 Xh 0 0=⟨0,0x20,Xh,0,0⟩ from rfl,W5,show ins 0x54 (m%4294967296) 0 0=⟨0,0x54,m%4294967296,0,0⟩ from rfl,Cb,Zk hF e1 rfl,XI,aN hy,aN hn,alg hv,alg hm];by_cases h:w Xh &&& m=v;·rw[aF (by simpa using h),aF (by simpa using h)]
  ·rw[aN (by simpa using h),aN (by simpa using h)]
 |true=>
  have e1:F=(p++[ins 0x20 UJ 0 0,ins 0x54 (m/4294967296) 0 0])++ins 0x15 (v/4294967296) 0 no::ins 0x20 Xh 0 0::ins 0x54 (m%4294967296) 0 0::ins 0x15 (v%4294967296) yes no::r:=by rw[e];simp
  have e2:F=(p++[ins 0x20 UJ 0 0,ins 0x54 (m/4294967296) 0 0,ins 0x15 (v/4294967296) 0 no,ins 0x20 Xh 0 0,ins 0x54 (m%4294967296) 0 0])++ins 0x15 (v%4294967296) yes no::r:=by rw[e];simp
  have hx:=xM (w UJ*4294967296+w Xh) m v;rw[show(w UJ*4294967296+w Xh)/4294967296=w UJ from jO,show(w UJ*4294967296+w Xh)%4294967296=w Xh from jO] at hx;show ∃a',Wd w (ins 0x20 UJ 0 0::ins 0x54 (m/4294967296) 0 0::ins 0x15 (v/4294967296) 0 no::ins 0x20 Xh 0 0::ins 0x54 (m%4294967296) 0 0::ins 0x15 (v%4294967296) yes no::r) a=_;rw[show ins 0x20 UJ 0 0=⟨0,0x20,UJ,0,0⟩ from rfl,W5,show ins 0x54 (m/4294967296) 0 0=⟨0,0x54,m/4294967296,0,0⟩ from rfl,Cb,Zk hF e1 rfl,XI,aN hn,aF rfl,aF rfl];by_cases D:(w UJ &&& m/4294967296)=v/4294967296
  ·rw[aF (by simpa using D),show ins 0x20 Xh 0 0=⟨0,0x20,Xh,0,0⟩ from rfl,W5,show ins 0x54 (m%4294967296) 0 0=⟨0,0x54,m%4294967296,0,0⟩ from rfl,Cb,Zk hF e2 rfl,XI,aN hy,aN hn];refine⟨w Xh &&& m%4294967296,?_⟩;by_cases C:(w Xh &&& m%4294967296)=v%4294967296;·rw[aF (by simpa using C),aF (hx.2 ⟨D,C⟩)]
   ·rw[aN (by simpa using C),aN (λe=>C (hx.1 e).2)]
  ·rw[aN (by simpa using D),aN (λe=>D (hx.1 e).1)];exact⟨_,rfl⟩
def Z5.ok(c:Z5)(wide:Bool):Prop:=(c.o=1\/c.o=2\/c.o=3\/c.o=6\/c.o=7)/\(wide=true\/(c.v<4294967296/\c.m<4294967296))
theorem mE {F p r:List Z9}{c:Z5} {yes no:Int}(hF:ZR F)(hw:GG w)(hc:c.ok wide)(e:F=p++(XC c wide yes no++r))(hy:yes≠0)(hn:no≠0)(a:Nat):
 ∃a',Wd w (XC c wide yes no++r) a=JF w F (if opH c.o c.m c.v (WH w wide c.a)=true then yes else no) a':=by
 obtain⟨ho,hv⟩:=hc;have D:wide=true\/c.v<4294967296:=hv.imp id (λh=>h.1);have I:∀(P:Prop) [Decidable P] (x y:Int),(if P then x else y)=(if ¬P then y else x):=λP _ x y=>by by_cases h:P<;>simp[h]
 unfold XC at e ⊢;unfold WH opH;rcases ho with h|h|h|h|h
 ·rw[h] at e ⊢;simp only[if_true,Nat.reduceEqDiff,if_false] at e ⊢;obtain⟨a',C⟩:=zw hF hw e hy hn D a;exact⟨a',by rw[C];simp⟩
 ·rw[h] at e ⊢;simp only[if_true,Nat.reduceEqDiff,if_false] at e ⊢;obtain⟨a',C⟩:=zw hF hw e hn hy D a;exact⟨a',by rw[C,I];simp⟩
 ·rw[h] at e ⊢;simp only[if_true,Nat.reduceEqDiff,if_false] at e ⊢;obtain⟨a',C⟩:=Ew hF hw e hn hy D a;exact⟨a',by rw[C,I];simp⟩
 ·rw[h] at e ⊢;simp only[if_true,Nat.reduceEqDiff,if_false] at e ⊢;obtain⟨a',C⟩:=Ew hF hw e hy hn D a;exact⟨a',by rw[C];simp⟩
 ·rw[h] at e ⊢;simp only[if_true,Nat.reduceEqDiff,if_false] at e ⊢;obtain⟨a',C⟩:=mF hF hw e hy hn hv a;exact⟨a',by rw[C];simp⟩
structure G where
 l:List Z9
 n:Nat
 b:List (Nat×Nat)
def look:List (Nat×Nat)->Nat->Nat
 |[],_=>0
 |(c,m)::r,x=>if c=x then m else look r x
theorem Rx:∀(b:List (Nat×Nat)) (c m x:Nat),look b c=0->(∀p∈b,p.2≠0)->look (b++[(c,m)]) x=if c=x then m else look b x
 |[],c,m,x,_,_=>rfl
 |(c0,m0)::r,c,m,x,h,hp=>by
  have D:m0≠0:=hp (c0,m0) jS;have C:c0≠c:=by rintro rfl;simp[look] at h;exact D h
  have I:look r c=0:=by unfold look at h;rwa [aN C] at h
  have J:=Rx r c m x I (λp T=>hp p (by simp[T]));rw[ahb];show(if c0=x then m0 else look (r++[(c,m)]) x)=if c=x then m else(if c0=x then m0 else look r x)
  rw[J];by_cases e:c0=x;·rw[aF e,aF e,aN (λe2=>C (e.trans e2.symm))]
  ·rw[aN e,aN e]
def G.put(g:G)(xs:List Z9):G:=⟨g.l++xs,g.n,g.b⟩
def G.here(g:G)(m:Nat):G:=⟨g.l++[Zq m],g.n,g.b⟩
def G.mark(g:G):G:=⟨g.l,g.n+1,g.b⟩
def G.goes(g:G)(c:Nat):G:=if look g.b c=0 then⟨g.l,g.n+1,g.b++[(c,g.n+1)]⟩ else g
def G.MF(g:G)(t:Int):Prop:=∃c,look g.b c≠0/\((look g.b c:Nat):Int)=t
def PF(O:Int->Prop):List Z9->Prop
 |[]=>True
 |x::r=>PF O r/\(if x.mark≠0 then x.mark∉marks r else(x.t≠0->x.t∈marks r\/O x.t)/\(x.f≠0->x.f∈marks r\/O x.f))
theorem PF.app{O O':Int->Prop}:∀{a b:List Z9},PF O a->PF O' b->(∀m∈marks a,m∉marks b)->(∀t,O t->t∈marks b\/O' t)->PF O' (a++b)
 |[],_,_,hb,_,_=>hb
 |x::a,b,ha,hb,hd,ho=>by
  have D:=PF.app ha.1 hb (λm hm=>hd m (by
   by_cases hz:x.mark=0;·rw[YY hz];exact hm
   ·rw[Zp hz];exact aff _ hm)) ho
  refine⟨D,?_⟩;have C:=ha.2;by_cases hz:x.mark=0
  ·rw[aN (λe=>e hz)] at C ⊢
   have one:∀t,(t≠0->t∈marks a\/O t)->t≠0->t∈marks (a++b)\/O' t:=by
    intro t ht I;rw[WQ,abf];rcases ht I with h|h;·exact .inl (.inl h)
    ·rcases ho t h with h|h;·exact .inl (.inr h)
     ·exact .inr h
   exact⟨one _ C.1,one _ C.2⟩
  ·rw[aF hz] at C ⊢
   have:x.mark∉marks (a++b):=by
    rw[WQ,abf];rintro(h|h);·exact C h
    ·exact hd x.mark (by rw[Zp hz];simp) h
   exact this
theorem PF.mono{O O':Int->Prop}(h:∀t,O t->O' t):∀{a:List Z9},PF O a->PF O' a
 |[],_=>trivial
 |x::a,ha=>by
  refine⟨PF.mono h ha.1,?_⟩;have C:=ha.2;by_cases hz:x.mark=0;·rw[aN (λe=>e hz)] at C ⊢;exact⟨λe=>(C.1 e).imp id (h _),λe=>(C.2 e).imp id (h _)⟩
  ·rw[aF hz] at C ⊢;exact C
theorem PF.formed:∀{a:List Z9},PF (λ_=>False) a->ZR a
 |[],_=>trivial
 |x::a,h=>by
  refine⟨PF.formed h.1,?_⟩;have C:=h.2;by_cases hz:x.mark=0;·rw[aN (λe=>e hz)] at C ⊢;exact⟨λe=>(C.1 e).resolve_right id,λe=>(C.2 e).resolve_right id⟩
  ·rw[aF hz] at C ⊢;exact C
structure Y8(g:G)(K:Int->Prop):Prop where
 all:∀t:Int,(1<=t/\t<=g.n)↔(t∈marks g.l\/K t\/g.MF t)
 xL:∀t,K t->t∉marks g.l/\¬g.MF t
 xK:∀t,g.MF t->t∉marks g.l
 pf:PF (λt=>K t\/g.MF t) g.l
 one:∀c d,look g.b c=look g.b d->look g.b c≠0->c=d
 pos:∀p∈g.b,p.2≠0
def Sg(g:G)(K:Int->Prop)(t:Int):Prop:=t=0\/K t\/g.MF t
def Plain(g:G)(K:Int->Prop)(xs:List Z9):Prop:=∀x∈xs,x.mark=0/\Sg g K x.t/\Sg g K x.f
theorem Rw:∀{xs:List Z9},(∀x∈xs,x.mark=0)->marks xs=[]
 |[],_=>rfl
 |x::r,h=>by rw[YY (h x jS),Rw (λy hy=>h y (by simp[hy]))]
theorem Ev{O:Int->Prop}:∀{xs:List Z9},(∀x∈xs,x.mark=0/\(x.t=0\/O x.t)/\(x.f=0\/O x.f))->PF O xs
 |[],_=>trivial
 |x::r,h=>by have hx:=h x jS;refine⟨Ev (λy hy=>h y (by simp[hy])),?_⟩;rw[aN (λe=>e hx.1)];exact⟨λe=>.inr (hx.2.1.resolve_left e),λe=>.inr (hx.2.2.resolve_left e)⟩
theorem Y8.put{g:G} (h:Y8 g K){xs:List Z9}(hx:Plain g K xs):Y8 (g.put xs) K:=by
 have hm:marks (g.put xs).l=marks g.l:=by show marks (g.l++xs)=_;rw[WQ,Rw (λx hy=>(hx x hy).1),adb]
 have hb:∀t,(g.put xs).MF t↔g.MF t:=λt=>Iff.rfl
 refine⟨λt=>by rw[hm];exact h.all t,λt hk=>by rw[hm];exact h.xL t hk,λt ht=>by rw[hm];exact h.xK t ht,?_,h.one,h.pos⟩;refine PF.app h.pf (Ev (λx hy=>⟨(hx x hy).1,(hx x hy).2.1,(hx x hy).2.2⟩)) (λm _=> ?_) (λt ht=>.inr ht);rw[Rw (λx hy=>(hx x hy).1)];simp
theorem Y8.mark{g:G} (h:Y8 g K):Y8 g.mark (λt=>K t\/t=((g.n+1:Nat):Int)):=by
 have fresh:∀t:Int,t=((g.n+1:Nat):Int)->t∉marks g.l/\¬g.MF t:=by
  intro t e;have:=(h.all t).2;constructor;·intro hm;have:=this (.inl hm);omega
  ·intro hm;have:=this (.inr (.inr hm));omega
 refine⟨λt=> ?_,λt hk=> ?_,h.xK,PF.mono (λt ht=>ht.imp .inl id) h.pf,h.one,h.pos⟩
 ·have:=h.all t;show(1<=t/\t<=((g.n+1:Nat):Int))↔(t∈marks g.l\/(K t\/t=((g.n+1:Nat):Int))\/g.MF t);constructor
  ·rintro⟨C,D⟩;by_cases e:t=((g.n+1:Nat):Int);·exact .inr (.inl (.inr e))
   ·rcases this.1 ⟨C,jO⟩ with h|h|h;·exact .inl h
    ·exact .inr (.inl (.inl h))
    ·exact .inr (.inr h)
  ·rintro(h|(h|h)|h);·have:=this.2 (.inl h);omega
   ·have:=this.2 (.inr (.inl h));omega
   ·omega
   ·have:=this.2 (.inr (.inr h));omega
 ·rcases hk with hk|hk;·exact h.xL t hk
  ·exact fresh t hk
theorem Y8.here{g:G} {m:Nat}(h:Y8 g (λt=>K t\/t=(m:Int)))(hm:m≠0)(hk:¬K m):Y8 (g.here m) K:=by
 have C:marks (g.here m).l=marks g.l++[(m:Int)]:=by show marks (g.l++[Zq m])=_;rw[WQ,Zp (show(Zq m).mark≠0 by show(m:Int)≠0;omega)];rfl
 have hn:=h.xL (m:Int) (.inr rfl);refine⟨λt=> ?_,λt ht=> ?_,λt ht=> ?_,?_,h.one,h.pos⟩
 ·rw[C,abf,aaa];have:=h.all t;show(1<=t/\t<=(g.n:Int))↔_;rw[this];constructor
  ·rintro(h|(h|h)|h);·exact .inl (.inl h)
   ·exact .inr (.inl h)
   ·exact .inl (.inr h)
   ·exact .inr (.inr h)
  ·rintro((h|h)|h|h);·exact .inl h
   ·exact .inr (.inl (.inr h))
   ·exact .inr (.inl (.inl h))
   ·exact .inr (.inr h)
 ·rw[C,abf,aaa];have:=h.xL t (.inl ht);refine⟨?_,this.2⟩;rintro(h|h);·exact this.1 h
  ·exact hk (h▸ht)
 ·rw[C,abf,aaa];rintro(D|D);·exact h.xK t ht D
  ·exact hn.2 (D▸ht)
 ·refine PF.app h.pf (b:=[Zq m]) ?_ ?_ ?_;·refine⟨trivial,?_⟩;rw[aF (show(Zq m).mark≠0 by show(m:Int)≠0;omega)];simp[marks]
  ·intro t ht D;rw[Zp (show(Zq m).mark≠0 by show(m:Int)≠0;omega)] at D;have:t=(m:Int):=by simpa [marks,Zq] using D
   exact hn.1 (this▸ht)
  ·intro t ht;rw[Zp (show(Zq m).mark≠0 by show(m:Int)≠0;omega)];rcases ht with(ht|ht)|ht;·exact .inr (.inl ht)
   ·exact .inl (by rw[ht];simp[Zq])
   ·exact .inr (.inr ht)
theorem Y8.goes{g:G} (h:Y8 g K)(c:Nat):Y8 (g.goes c) K/\look (g.goes c).b c≠0/\(∀d,look g.b d≠0->look (g.goes c).b d=look g.b d)/\(g.goes c).l=g.l:=by
 unfold G.goes;by_cases T:look g.b c=0
 ·rw[aF T];have hl:∀x,look (g.b++[(c,g.n+1)]) x=if c=x then g.n+1 else look g.b x:=λx=>Rx g.b c (g.n+1) x T h.pos
  have fresh:((g.n+1:Nat):Int)∉marks g.l/\¬K ((g.n+1:Nat):Int)/\¬g.MF ((g.n+1:Nat):Int):=by
   have:=(h.all ((g.n+1:Nat):Int)).2;refine⟨λhm=> ?_,λhm=> ?_,λhm=> ?_⟩;·have:=this (.inl hm);omega
   ·have:=this (.inr (.inl hm));omega
   ·have:=this (.inr (.inr hm));omega
  have U:∀t,(G.MF ⟨g.l,g.n+1,g.b++[(c,g.n+1)]⟩ t)↔(g.MF t\/t=((g.n+1:Nat):Int)):=by
   intro t;constructor
   ·rintro⟨x,hx,e⟩;have e2:((look (g.b++[(c,g.n+1)]) x:Nat):Int)=t:=e;have I:look (g.b++[(c,g.n+1)]) x≠0:=hx;rw[hl] at e2 I;by_cases hc:c=x;·rw[aF hc] at e2;exact .inr e2.symm
    ·rw[aN hc] at e2 I;exact .inl ⟨x,I,e2⟩
   ·rintro(⟨x,hx,e⟩|e)
    ·have hc:c≠x:=by rintro rfl;exact hx T
     refine⟨x,?_,?_⟩;·show look (g.b++[(c,g.n+1)]) x≠0;rw[hl,aN hc];exact hx
     ·show((look (g.b++[(c,g.n+1)]) x:Nat):Int)=t;rw[hl,aN hc];exact e
    ·refine⟨c,?_,?_⟩;·show look (g.b++[(c,g.n+1)]) c≠0;rw[hl,aF rfl];omega
     ·show((look (g.b++[(c,g.n+1)]) c:Nat):Int)=t;rw[hl,aF rfl];exact e.symm
  refine⟨⟨λt=> ?_,λt ht=> ?_,λt ht=> ?_,?_,λx y e hx=> ?_,λp hp=> ?_⟩,?_,λd hd=> ?_,rfl⟩
  ·rw[U];have:=h.all t;show(1<=t/\t<=((g.n+1:Nat):Int))↔(t∈marks g.l\/K t\/g.MF t\/t=((g.n+1:Nat):Int));constructor
   ·rintro⟨Y,D⟩;by_cases e:t=((g.n+1:Nat):Int);·exact .inr (.inr (.inr e))
    ·rcases this.1 ⟨Y,jO⟩ with h|h|h;·exact .inl h
     ·exact .inr (.inl h)
     ·exact .inr (.inr (.inl h))
   ·rintro(h|h|h|h);·have:=this.2 (.inl h);omega
    ·have:=this.2 (.inr (.inl h));omega
    ·have:=this.2 (.inr (.inr h));omega
    ·omega
  ·rw[U];have:=h.xL t ht;refine⟨this.1,?_⟩;rintro(D|D);·exact this.2 D
   ·exact fresh.2.1 (D▸ht)
  ·rcases (U t).1 ht with D|D;·exact h.xK t D
   ·rw[D];exact fresh.1
  ·refine PF.mono (λt ht=> ?_) h.pf;rcases ht with ht|ht;·exact .inl ht
   ·exact .inr ((U t).2 (.inl ht))
  ·have e:look (g.b++[(c,g.n+1)]) x=look (g.b++[(c,g.n+1)]) y:=e;have hx:look (g.b++[(c,g.n+1)]) x≠0:=hx;rw[hl] at e hx;rw[hl] at e;by_cases J:c=x
   ·by_cases C:c=y;·exact J.symm.trans C
    ·rw[aF J,aN C] at e;exact absurd ⟨y,by rw[<-e];omega,by rw[<-e]⟩ fresh.2.2
   ·rw[aN J] at e hx;by_cases C:c=y;·rw[aF C] at e;exact absurd ⟨x,hx,by rw[e]⟩ fresh.2.2
    ·rw[aN C] at e;exact h.one x y e hx
  ·rcases abf.1 hp with hp|hp;·exact h.pos p hp
   ·rcases aaa.1 hp with rfl;show g.n+1≠0;omega
  ·show look (g.b++[(c,g.n+1)]) c≠0;rw[hl,aF rfl];omega
  ·show look (g.b++[(c,g.n+1)]) d=_;rw[hl,aN];rintro rfl;exact hd T
 ·rw[aN T];exact⟨h,T,λ_ _=>rfl,rfl⟩
theorem Eu{c:Z5} {yes no:Int}:∀x∈XC c wide yes no,x.mark=0/\(x.t=0\/x.t=yes\/x.t=no)/\(x.f=0\/x.f=yes\/x.f=no):=by
 have same:∀(h l C D:Nat) (y n:Int),∀x∈Ry h l C D wide y n,x.mark=0/\(x.t=0\/x.t=y\/x.t=n)/\(x.f=0\/x.f=y\/x.f=n):=by
  intro h l C D y n x hx;unfold Ry ins at hx;cases wide<;>simp at hx
  ·rcases hx with rfl|rfl<;>simp
  ·rcases hx with rfl|rfl|rfl|rfl<;>simp
 have least:∀(h l C D:Nat) (y n:Int),∀x∈Vh h l C D wide y n,x.mark=0/\(x.t=0\/x.t=y\/x.t=n)/\(x.f=0\/x.f=y\/x.f=n):=by
  intro h l C D y n x hx;unfold Vh ins at hx;cases wide<;>simp at hx
  ·rcases hx with rfl|rfl<;>simp
  ·rcases hx with rfl|rfl|rfl|rfl|rfl<;>simp
 have mask:∀(h l C D I J:Nat) (y n:Int),∀x∈MG h l C D I J wide y n,x.mark=0/\(x.t=0\/x.t=y\/x.t=n)/\(x.f=0\/x.f=y\/x.f=n):=by
  intro h l C D I J y n x hx;unfold MG ins at hx;cases wide<;>simp at hx
  ·rcases hx with rfl|rfl|rfl<;>simp
  ·rcases hx with rfl|rfl|rfl|rfl|rfl|rfl<;>simp
 intro x hx;unfold XC at hx;split at hx;·exact same _ _ _ _ _ _ x hx
 ·split at hx;·have:=same _ _ _ _ _ _ x hx;exact⟨this.1,this.2.1.imp id Or.symm,this.2.2.imp id Or.symm⟩
  ·split at hx;·have:=least _ _ _ _ _ _ x hx;exact⟨this.1,this.2.1.imp id Or.symm,this.2.2.imp id Or.symm⟩
   ·split at hx;·exact least _ _ _ _ _ _ x hx
    ·exact mask _ _ _ _ _ _ _ _ x hx
structure Ym(g g':G):Prop where
 l:∃xs,g'.l=g.l++xs
 n:g.n<=g'.n
 b:∀c,look g.b c≠0->look g'.b c=look g.b c
theorem Ym.refl(g:G):Ym g g:=⟨⟨[],jS⟩,aR _,λ_ _=>rfl⟩
theorem Ym.trans{a b c:G}(h:Ym a b)(k:Ym b c):Ym a c:=by
 obtain⟨xs,D⟩:=h.l;obtain⟨ys,C⟩:=k.l;exact⟨⟨xs++ys,by rw[C,D,aag]⟩,aO h.n k.n,λx hx=>by rw[k.b x (by rw[h.b x hx];exact hx),h.b x hx]⟩
theorem Ym.put(g:G)(xs:List Z9):Ym g (g.put xs):=⟨⟨xs,rfl⟩,aR _,λ_ _=>rfl⟩
theorem Ym.here(g:G)(m:Nat):Ym g (g.here m):=⟨⟨[Zq m],rfl⟩,aR _,λ_ _=>rfl⟩
theorem Ym.mark(g:G):Ym g g.mark:=⟨⟨[],by simp[G.mark]⟩,azg _,λ_ _=>rfl⟩
theorem Ym.goes{g:G} (h:Y8 g K)(c:Nat):Ym g (g.goes c):=by
 obtain⟨_,_,C,D⟩:=h.goes c;refine⟨⟨[],by rw[D];simp⟩,?_,C⟩;unfold G.goes;split;·exact azg _
 ·exact aR _
theorem Ym.MF{g g':G}(h:Ym g g'){t:Int}(ht:g.MF t):g'.MF t:=by
 obtain⟨c,C,D⟩:=ht;exact⟨c,by rw[h.b c C];exact C,by rw[h.b c C];exact D⟩
theorem Y8.congr{g:G}{K':Int->Prop}(h:Y8 g K)(e:∀t,K t↔K' t):Y8 g K':=
 ⟨λt=>by rw[h.all t,e t],λt ht=>h.xL t ((e t).2 ht),h.xK,PF.mono (λt ht=>ht.imp (e t).1 id) h.pf,h.one,h.pos⟩
def Ze(wide:Bool)(next:Nat):List Z5->G->G
 |[],g=>g
 |c::cs,g=>Ze wide next cs ((g.mark.put (XC c wide ((g.n+1:Nat):Int) next)).here (g.n+1))
theorem QQ(wide:Bool)(next:Nat):∀(cs:List Z5) (g:G),Ym g (Ze wide next cs g)
 |[],g=>Ym.refl g
 |c::cs,g=>(((Ym.mark g).trans (Ym.put _ _)).trans (Ym.here _ _)).trans (QQ wide next cs _)
theorem Pc(wide:Bool)(next:Nat){K:Int->Prop}:∀(cs:List Z5) (g:G),Y8 g K->K next->Y8 (Ze wide next cs g) K/\(Ze wide next cs g).b=g.b
 |[],g,h,_=>⟨h,rfl⟩
 |c::cs,g,h,hn=>by
  have U:=h.mark;have I:Y8 (g.mark.put (XC c wide ((g.n+1:Nat):Int) next)) (λt=>K t\/t=((g.n+1:Nat):Int)):=U.put (λx hx=>by
   have:=Eu x hx;have C:∀t:Int,(t=0\/t=((g.n+1:Nat):Int)\/t=(next:Int))->Sg g.mark (λt=>K t\/t=((g.n+1:Nat):Int)) t:=by
    rintro t (e|e|e);·exact .inl e
    ·exact .inr (.inl (.inr e))
    ·exact .inr (.inl (.inl (by rw[e];exact hn)))
   exact⟨this.1,C _ this.2.1,C _ this.2.2⟩)
  have hk:¬K ((g.n+1:Nat):Int):=λe=>by have:=(h.all ((g.n+1:Nat):Int)).2 (.inr (.inl e));omega
  have D:=I.here (m:=g.n+1) jO hk;obtain⟨T,J⟩:=Pc wide next cs _ D hn;exact⟨T,J⟩
def GF(w:Nat->Nat)(wide:Bool)(cs:List Z5):Bool:=cs.all λc=>opH c.o c.m c.v (WH w wide c.a)
theorem Et{w:Nat->Nat}{F:List Z9}{wide:Bool}{next:Nat}(hF:ZR F)(hw:GG w)(hn:next≠0):∀(cs:List Z5) (g:G) (s rest:List Z9),(∀c∈cs,c.ok wide)->F=g.l++s->F=(Ze wide next cs g).l++rest->∀a,∃a',Wd w s a=if GF w wide cs=true then Wd w rest a' else JF w F next a'
 |[],g,s,rest,_,e1,e2,a=>by have:s=rest:=akc (e1.symm.trans e2);subst this;exact⟨a,by simp[GF]⟩
 |c::cs,g,s,rest,hc,e1,e2,a=>by
  obtain⟨xs,D⟩:=(QQ wide next cs ((g.mark.put (XC c wide ((g.n+1:Nat):Int) next)).here (g.n+1))).l;have e3:F=(g.l++XC c wide ((g.n+1:Nat):Int) next++[Zq ((g.n+1:Nat):Int)])++(xs++rest):=by rw[e2];show(Ze wide next cs ((g.mark.put (XC c wide ((g.n+1:Nat):Int) next)).here (g.n+1))).l++rest=_;rw[D,aag];rfl
  have hs:s=XC c wide ((g.n+1:Nat):Int) next++(Zq ((g.n+1:Nat):Int)::(xs++rest)):=by refine(akc (?_:g.l++_=g.l++_):_=_);rw[<-e1,e3];simp
  obtain⟨a1,I⟩:=mE (yes:=((g.n+1:Nat):Int)) (no:=(next:Int)) hF hw (hc c jS) (by rw[<-hs];exact e1) jO jO a;rw[hs,I];unfold GF;rw[List.all_cons];by_cases C:opH c.o c.m c.v (WH w wide c.a)=true
  ·rw[aF C,C,Bool.true_and];have e4:F=(g.l++XC c wide ((g.n+1:Nat):Int) next)++Zq ((g.n+1:Nat):Int)::(xs++rest):=by rw[e3];simp
   rw[Tr hF e4 jO];exact Et hF hw hn cs _ (xs++rest) rest (λd hd=>hc d (by simp[hd])) e3 e2 a1
  ·rw[aN C];have:opH c.o c.m c.v (WH w wide c.a)=false:=by simpa using C
   refine⟨a1,?_⟩;rw[this,Bool.false_and,aN jD]
abbrev Z3:=List Z5×Nat
def XK(wide:Bool)(ow:Nat):List Z3->G->G
 |[],g=>g.put [ins 0x05 0 ow 0]
 |(cs,code)::rs,g=>XK wide ow rs ((((Ze wide (g.n+1) cs g.mark).goes code).put [ins 0x05 0 (look ((Ze wide (g.n+1) cs g.mark).goes code).b code) 0]).here (g.n+1))
def Pb(w:Nat->Nat)(wide:Bool)(d:Nat):List Z3->Nat
 |[]=>d
 |(cs,code)::rs=>if GF w wide cs=true then code else Pb w wide d rs
theorem Pa(wide:Bool)(ow:Nat){K:Int->Prop}:∀(rs:List Z3) (g:G),Y8 g K->Sg g K ow->Y8 (XK wide ow rs g) K/\Ym g (XK wide ow rs g)
 |[],g,h,ho=>⟨h.put (λx hx=>by rcases aaa.1 hx with rfl;exact⟨rfl,ho,.inl rfl⟩),Ym.put _ _⟩
 |(cs,code)::rs,g,h,ho=>by
  have h1:=h.mark;obtain⟨D,J⟩:=Pc wide (g.n+1) cs g.mark h1 (.inr rfl);have Y:=(Ym.mark g).trans (QQ wide (g.n+1) cs g.mark);obtain⟨U,C,_,_⟩:=D.goes code;have T:=Y.trans (Ym.goes D code);have h4:=U.put (xs:=[ins 0x05 0 (look ((Ze wide (g.n+1) cs g.mark).goes code).b code) 0]) (λx hx=>by rcases aaa.1 hx with rfl;exact⟨rfl,.inr (.inr ⟨code,C,rfl⟩),.inl rfl⟩)
  have hk:¬K ((g.n+1:Nat):Int):=λe=>by have:=(h.all ((g.n+1:Nat):Int)).2 (.inr (.inl e));omega
  have h5:=h4.here (m:=g.n+1) jO hk;have I:=(T.trans (Ym.put _ [ins 0x05 0 (look ((Ze wide (g.n+1) cs g.mark).goes code).b code) 0])).trans (Ym.here _ (g.n+1));obtain⟨Z,h7⟩:=Pa wide ow rs _ h5 (ho.imp id (λh=>h.imp id I.MF));exact⟨Z,I.trans h7⟩
def O9(w:Nat->Nat)(F:List Z9)(Bk:Nat->Nat):Prop:=∀c,Bk c≠0->∀a,JF w F (Bk c) a=some c
def XM(b:List (Nat×Nat))(Bk:Nat->Nat):Prop:=∀c,look b c≠0->Bk c=look b c
theorem XM.back{g g':G} (h:XM g'.b Bk)(l:Ym g g'):XM g.b Bk:=λc hc=>by
 have:=l.b c hc;rw[h c (by rw[this];exact hc),this]
theorem Es{w:Nat->Nat}{F:List Z9}{Bk:Nat->Nat}{wide:Bool}{ow d:Nat}{K:Int->Prop}(hF:ZR F)(hw:GG w)(hB:O9 w F Bk)(ho:ow≠0)(hd:∀a,JF w F ow a=some d):
 ∀(rs:List Z3) (g:G) (s rest:List Z9),(∀r∈rs,∀c∈r.1,c.ok wide)->Y8 g K->Sg g K ow->XM (XK wide ow rs g).b Bk->F=g.l++s->F=(XK wide ow rs g).l++rest->∀a,Wd w s a=some (Pb w wide d rs)
 |[],g,s,rest,_,_,_,_,e1,e2,a=>by
  have e3:F=g.l++([ins 0x05 0 ow 0]++rest):=by rw[e2,<-aag];rfl
  have hs:s=ins 0x05 0 ow 0::rest:=akc (e1.symm.trans e3);rw[hs];rw[show ins 0x05 0 ow 0=⟨0,0x05,0,ow,0⟩ from rfl,Lj hF (p:=g.l) (by rw[e3];rfl) jO a,hd];rfl
 |(cs,code)::rs,g,s,rest,hc,h,mD,hA,e1,e2,a=>by
  have h1:=h.mark;obtain⟨h2,h2b⟩:=Pc wide (g.n+1) cs g.mark h1 (.inr rfl);obtain⟨h3,D,_,I⟩:=h2.goes code;have hk:¬K ((g.n+1:Nat):Int):=λe=>by have:=(h.all ((g.n+1:Nat):Int)).2 (.inr (.inl e));omega
  have h4:=h3.put (xs:=[ins 0x05 0 (look ((Ze wide (g.n+1) cs g.mark).goes code).b code) 0]) (λx hx=>by rcases aaa.1 hx with rfl;exact⟨rfl,.inr (.inr ⟨code,D,rfl⟩),.inl rfl⟩)
  have h5:=h4.here (m:=g.n+1) jO hk;have l3:=((Ym.mark g).trans (QQ wide (g.n+1) cs g.mark)).trans (Ym.goes h2 code);have l5:=(l3.trans (Ym.put _ [ins 0x05 0 (look ((Ze wide (g.n+1) cs g.mark).goes code).b code) 0])).trans (Ym.here _ (g.n+1));have C:=mD.imp id (λh=>h.imp id l5.MF);obtain⟨h6,l6⟩:=Pa wide ow rs _ h5 C;obtain⟨xs,Z⟩:=l6.l;obtain⟨M,U⟩:∃M,M=look ((Ze wide (g.n+1) cs g.mark).goes code).b code:=⟨_,rfl⟩;have J:Bk code=M:=by rw[U];exact(hA.back l6) code D
  have Y:M≠0:=by rw[U];exact D
  have e3:F=(Ze wide (g.n+1) cs g.mark).l++(ins 0x05 0 M 0::Zq ((g.n+1:Nat):Int)::(xs++rest)):=by rw[e2];show(XK wide ow rs ((((Ze wide (g.n+1) cs g.mark).goes code).put [ins 0x05 0 (look ((Ze wide (g.n+1) cs g.mark).goes code).b code) 0]).here (g.n+1))).l++rest=_;rw[Z];show(((Ze wide (g.n+1) cs g.mark).goes code).l++[ins 0x05 0 (look ((Ze wide (g.n+1) cs g.mark).goes code).b code) 0]++[Zq ((g.n+1:Nat):Int)]++xs)++rest=_;rw[<-U,I];simp
  obtain⟨a1,h7⟩:=Et (next:=g.n+1) hF hw jO cs g.mark s (ins 0x05 0 M 0::Zq ((g.n+1:Nat):Int)::(xs++rest)) (λc hcc=>hc (cs,code) jS c hcc) e1 e3 a;rw[h7];show _=some (if GF w wide cs=true then code else Pb w wide d rs);by_cases T:GF w wide cs=true;·rw[aF T,aF T,show ins 0x05 0 M 0=⟨0,0x05,0,(M:Int),0⟩ from rfl,Lj hF (p:=(Ze wide (g.n+1) cs g.mark).l) (by rw[e3];rfl) jO a1,<-J];exact hB code (by rw[J];exact Y) a1
  ·rw[aN T,aN T];have e4:F=((Ze wide (g.n+1) cs g.mark).l++[ins 0x05 0 M 0])++Zq ((g.n+1:Nat):Int)::(xs++rest):=by rw[e3];simp
   rw[Tr hF e4 jO];refine Es hF hw hB ho hd rs _ (xs++rest) rest (λr hr=>hc r (by simp[hr])) h5 C hA ?_ (by rw[e2];rfl) a1;show F=(((Ze wide (g.n+1) cs g.mark).goes code).l++[ins 0x05 0 (look ((Ze wide (g.n+1) cs g.mark).goes code).b code) 0]++[Zq ((g.n+1:Nat):Int)])++(xs++rest);rw[I,<-U,e3];simp
def ZH(ow:Nat)(l:List (Nat×Nat))(g:G):G:=
 match l with
 |[]=>g.put [ins 0x05 0 ow 0]
 |[(k,m)]=>g.put [ins 0x15 k m ow]
 |x::y::r=>ZH ow ((x::y::r).drop ((x::y::r).length/2)) ((ZH ow ((x::y::r).take ((x::y::r).length/2)) (g.mark.put [ins 0x35 ((x::y::r).getD ((x::y::r).length/2) (0,0)).1 ((g.n+1:Nat):Int) 0])).here (g.n+1))
termination_by l.length
decreasing_by
 all_goals simp
 all_goals omega
theorem XA(ow:Nat)(g:G):ZH ow [] g=g.put [ins 0x05 0 ow 0]:=by unfold ZH;rfl
theorem Xz(ow k m:Nat)(g:G):ZH ow [(k,m)] g=g.put [ins 0x15 k m ow]:=by unfold ZH;rfl
theorem XU(ow:Nat)(l:List (Nat×Nat))(h:2<=l.length)(g:G):ZH ow l g=ZH ow (l.drop (l.length/2)) ((ZH ow (l.take (l.length/2)) (g.mark.put [ins 0x35 (l.getD (l.length/2) (0,0)).1 ((g.n+1:Nat):Int) 0])).here (g.n+1)):=by
 match l,h with
 |x::y::r,_=>conv=>lhs;unfold ZH
def Vz(l:List (Nat×Nat))(a:Nat):Option Nat:=(l.find? (λp=>p.1 == a)).map (·.2)
def Sd(l:List (Nat×Nat)):Prop:=l.Pairwise (λp q=>p.1<q.1)
theorem WW(ow:Nat){K:Int->Prop}:∀(k:Nat) (l:List (Nat×Nat)) (g:G),l.length<=k->Y8 g K->Sg g K ow->(∀p∈l,Sg g K (p.2:Int))->Y8 (ZH ow l g) K/\Ym g (ZH ow l g)
 |k,[],g,_,h,ho,_=>by
  rw[XA];exact⟨h.put (λx hx=>by rcases aaa.1 hx with rfl;exact⟨rfl,ho,.inl rfl⟩),Ym.put _ _⟩
 |k,[(q,m)],g,_,h,ho,hm=>by
  rw[Xz];exact⟨h.put (λx hx=>by rcases aaa.1 hx with rfl;exact⟨rfl,hm (q,m) jS,ho⟩),Ym.put _ _⟩
 |0,x::y::r,g,hk,_,_,_=>by simp at hk
 |k+1,x::y::r,g,hk,h,ho,hm=>by
  have U:2<=(x::y::r).length:=jS;rw[XU ow _ U];generalize x::y::r=l at*;have h1:=h.mark;have I:¬K ((g.n+1:Nat):Int):=λe=>by have:=(h.all ((g.n+1:Nat):Int)).2 (.inr (.inl e));omega
  have Z:Y8 (g.mark.put [ins 0x35 (l.getD (l.length/2) (0,0)).1 ((g.n+1:Nat):Int) 0]) (λt=>K t\/t=((g.n+1:Nat):Int)):=h1.put (λx hx=>by rcases aaa.1 hx with rfl;exact⟨rfl,.inr (.inl (.inr rfl)),.inl rfl⟩)
  have J:Ym g (g.mark.put [ins 0x35 (l.getD (l.length/2) (0,0)).1 ((g.n+1:Nat):Int) 0]):=(Ym.mark g).trans (Ym.put _ _);have up:∀{t:Int} {g':G},Ym g g'->Sg g K t->Sg g' (λt=>K t\/t=((g.n+1:Nat):Int)) t:=λC ht=>ht.imp id (λh=>h.imp .inl C.MF)
  have D:∀{t:Int} {g':G},Ym g g'->Sg g K t->Sg g' K t:=λC ht=>ht.imp id (λh=>h.imp id C.MF)
  obtain⟨h4,l4⟩:=WW ow k (l.take (l.length/2)) _ (by rw[abg];omega) Z (up J ho) (λp hp=>up J (hm p (ald hp)));have h5:=h4.here (m:=g.n+1) jO I;have T:=(J.trans l4).trans (Ym.here _ (g.n+1));obtain⟨h6,Y⟩:=WW ow k (l.drop (l.length/2)) _ (by rw[aia];omega) h5 (D T ho) (λp hp=>D T (hm p (apa hp)));exact⟨h6,T.trans Y⟩
theorem tq{l:List (Nat×Nat)}(hr:Sd l) (C:h<l.length) (ha:a<(l.getD h (0,0)).1):Vz l a=Vz (l.take h) a:=by
 unfold Vz
 conv=>lhs;rw[<-aoa h l]
 rw[awd];have:(l.drop h).find? (λp=>p.1 == a)=none:=by
  rw[ayf];intro p hp;obtain⟨j,I,rfl⟩:=aid.1 hp;rw[List.getElem_drop];rw[aia] at I;have D:l.getD h (0,0)=l[h]:=by rw[aee,aL C];rfl
  rw[D] at ha;have:l[h].1<=l[h+j].1:=by
   by_cases e:j=0;·subst e;simp
   ·exact acf (ama.1 hr h (h+j) C jO jO)
  simp;omega
 rw[this];simp
theorem xJ{l:List (Nat×Nat)}(hr:Sd l) (C:h<l.length) (ha:(l.getD h (0,0)).1<=a):Vz l a=Vz (l.drop h) a:=by
 unfold Vz
 conv=>lhs;rw[<-aoa h l]
 rw[awd];have:(l.take h).find? (λp=>p.1 == a)=none:=by
  rw[ayf];intro p hp;obtain⟨j,D,rfl⟩:=aid.1 hp;rw[List.getElem_take];rw[abg] at D;have I:l.getD h (0,0)=l[h]:=by rw[aee,aL C];rfl
  rw[I] at ha;have:l[j].1<l[h].1:=ama.1 hr j h jO C jO;simp;omega
 rw[this];simp
theorem QP{w:Nat->Nat}{F:List Z9}{ow:Nat}{K:Int->Prop}(hF:ZR F)(ho:ow≠0):
 ∀(k:Nat) (l:List (Nat×Nat)) (g:G) (s rest:List Z9),l.length<=k->Sd l->(∀p∈l,p.2≠0)->Y8 g K->Sg g K ow->(∀p∈l,Sg g K (p.2:Int))->F=g.l++s->F=(ZH ow l g).l++rest->∀a,Wd w s a=JF w F ((Vz l a).getD ow:Nat) a
 |k,[],g,s,rest,_,_,_,_,_,_,e1,e2,a=>by
  rw[XA] at e2;have e3:F=g.l++([ins 0x05 0 ow 0]++rest):=by rw[e2,<-aag];rfl
  have hs:s=ins 0x05 0 ow 0::rest:=akc (e1.symm.trans e3);rw[hs,show ins 0x05 0 ow 0=⟨0,0x05,0,ow,0⟩ from rfl,Lj hF (p:=g.l) (by rw[e3];rfl) jO a];rfl
 |k,[(q,m)],g,s,rest,_,_,hp,_,_,_,e1,e2,a=>by
  rw[Xz] at e2;have hm:m≠0:=hp (q,m) jS;have e3:F=g.l++([ins 0x15 q m ow]++rest):=by rw[e2,<-aag];rfl
  have hs:s=ins 0x15 q m ow::rest:=akc (e1.symm.trans e3);rw[hs,Zk hF (p:=g.l) (by rw[e3];rfl) rfl,XI];unfold Vz;by_cases h:a=q;·subst h;rw[aF jS,aN (show ¬(m:Int)=0 from jO)];simp
  ·rw[aN (by simpa using h),aN (show ¬(ow:Int)=0 from jO),amf (by simpa using λe=>h e.symm)];rfl
 |0,x::y::r,g,s,rest,hk,_,_,_,_,_,_,_,_=>by simp at hk
 |k+1,x::y::r,g,s,rest,hk,hr,hp,h,mD,hm,e1,e2,a=>by
  have h2:2<=(x::y::r).length:=jS;rw[XU ow _ h2] at e2;generalize x::y::r=l at*;have hh:l.length/2<l.length:=jO;have h1:=h.mark;have Z:¬K ((g.n+1:Nat):Int):=λe=>by have:=(h.all ((g.n+1:Nat):Int)).2 (.inr (.inl e));omega
  have h3:Y8 (g.mark.put [ins 0x35 (l.getD (l.length/2) (0,0)).1 ((g.n+1:Nat):Int) 0]) (λt=>K t\/t=((g.n+1:Nat):Int)):=h1.put (λx hx=>by rcases aaa.1 hx with rfl;exact⟨rfl,.inr (.inl (.inr rfl)),.inl rfl⟩)
  have I:Ym g (g.mark.put [ins 0x35 (l.getD (l.length/2) (0,0)).1 ((g.n+1:Nat):Int) 0]):=(Ym.mark g).trans (Ym.put _ _);have up:∀{t:Int} {g':G},Ym g g'->Sg g K t->Sg g' (λt=>K t\/t=((g.n+1:Nat):Int)) t:=λD ht=>ht.imp id (λh=>h.imp .inl D.MF)
  have C:∀{t:Int} {g':G},Ym g g'->Sg g K t->Sg g' K t:=λD ht=>ht.imp id (λh=>h.imp id D.MF)
  obtain⟨h4,l4⟩:=WW ow _ (l.take (l.length/2)) _ (aR _) h3 (up I mD) (λp hp=>up I (hm p (ald hp)));have h5:=h4.here (m:=g.n+1) jO Z;have J:=(I.trans l4).trans (Ym.here _ (g.n+1));obtain⟨h6,l6⟩:=WW ow _ (l.drop (l.length/2)) _ (aR _) h5 (C J mD) (λp hp=>C J (hm p (apa hp)));obtain⟨xs,T⟩:=l4.l;obtain⟨ys,Y⟩:=l6.l;have e4:F=((ZH ow (l.take (l.length/2)) (g.mark.put [ins 0x35 (l.getD (l.length/2) (0,0)).1 ((g.n+1:Nat):Int) 0])).here (g.n+1)).l++(ys++rest):=by rw[e2,Y,aag]
  have e5:F=(ZH ow (l.take (l.length/2)) (g.mark.put [ins 0x35 (l.getD (l.length/2) (0,0)).1 ((g.n+1:Nat):Int) 0])).l++(Zq ((g.n+1:Nat):Int)::(ys++rest)):=by rw[e4];show((ZH ow (l.take (l.length/2)) (g.mark.put [ins 0x35 (l.getD (l.length/2) (0,0)).1 ((g.n+1:Nat):Int) 0])).l++[Zq ((g.n+1:Nat):Int)])++(ys++rest)=_;rw[aag];rfl
  have e6:F=(g.mark.put [ins 0x35 (l.getD (l.length/2) (0,0)).1 ((g.n+1:Nat):Int) 0]).l++(xs++(Zq ((g.n+1:Nat):Int)::(ys++rest))):=by rw[e5,T,aag]
  have e7:F=g.l++(ins 0x35 (l.getD (l.length/2) (0,0)).1 ((g.n+1:Nat):Int) 0::(xs++(Zq ((g.n+1:Nat):Int)::(ys++rest)))):=by rw[e6];show(g.l++[ins 0x35 (l.getD (l.length/2) (0,0)).1 ((g.n+1:Nat):Int) 0])++_=_;rw[aag];rfl
  have hs:=akc (e1.symm.trans e7);rw[hs,Zk hF e7 rfl,GH];by_cases ha:(l.getD (l.length/2) (0,0)).1<=a;·rw[aF (acb ha),aN (show ¬((g.n+1:Nat):Int)=0 from jO),Tr hF e5 jO,xJ hr hh ha];exact QP hF ho k (l.drop (l.length/2)) _ (ys++rest) rest (by rw[aia];omega) (hr.sublist (List.drop_sublist _ _)) (λp U=>hp p (apa U)) h5 (C J mD) (λp hp=>C J (hm p (apa hp))) e4 e2 a
  ·rw[aN (by rw[aeg ha];decide),aF rfl,tq hr hh jO];exact QP hF ho k (l.take (l.length/2)) _ _ _ (by rw[abg];omega) (hr.sublist (List.take_sublist _ _)) (λp U=>hp p (ald U)) h3 (up I mD) (λp hp=>up I (hm p (ald hp))) e6 e5 a
def Zw:List (Nat×Nat)->G->G
 |[],g=>g
 |p::r,g=>Zw r (g.goes p.2)
def WG(ow:Nat)(l:List (Nat×Nat))(g:G):G:=ZH ow (l.map λp=>(p.1,look (Zw l (g.put [ins 0x20 16 0 0])).b p.2)) (Zw l (g.put [ins 0x20 16 0 0]))
def dQ(w:Nat->Nat)(d:Nat)(l:List (Nat×Nat)):Nat:=((l.find? (λp=>p.1 == w 16)).map (·.2)).getD d
theorem Rv{K:Int->Prop}:∀(l:List (Nat×Nat)) (g:G),Y8 g K->Y8 (Zw l g) K/\Ym g (Zw l g)/\(Zw l g).l=g.l/\∀p∈l,look (Zw l g).b p.2≠0
 |[],g,h=>⟨h,Ym.refl g,rfl,λp hp=>by cases hp⟩
 |p::r,g,h=>by
  obtain⟨U,D,h3,T⟩:=h.goes p.2;obtain⟨Z,I,Y,J⟩:=Rv r _ U;refine⟨Z,(Ym.goes h p.2).trans I,Y.trans T,λq C=> ?_⟩;rcases abb.1 C with rfl|C
  ·show look (Zw r (g.goes q.2)).b q.2≠0;rw[I.b _ D];exact D
  ·exact J q C
theorem O8{g:G} (k:Nat):Plain g K [ins 0x20 k 0 0]:=λx hx=>by
 rcases aaa.1 hx with rfl;exact⟨rfl,.inl rfl,.inl rfl⟩
theorem Sg.up{g g':G} {t:Int}(h:Ym g g')(ht:Sg g K t):Sg g' K t:=ht.imp id (λe=>e.imp id h.MF)
theorem tj(ow:Nat) (l:List (Nat×Nat))(g:G)(h:Y8 g K)(ho:Sg g K ow):Y8 (WG ow l g) K/\Ym g (WG ow l g):=by
 have Y:=h.put (O8 (g:=g) (K:=K) 16);have D:=Ym.put g [ins 0x20 16 0 0];obtain⟨J,C,_,U⟩:=Rv l _ Y;obtain⟨T,I⟩:=WW ow _ (l.map λp=>(p.1,look (Zw l (g.put [ins 0x20 16 0 0])).b p.2)) _ (aR _) J (Sg.up (D.trans C) ho) (λp hp=>by obtain⟨q,Z,rfl⟩:=ah.1 hp;exact .inr (.inr ⟨q.2,U q Z,rfl⟩))
 exact⟨T,(D.trans C).trans I⟩
theorem th(l:List (Nat×Nat))(f:Nat->Nat)(a:Nat):Vz (l.map λp=>(p.1,f p.2)) a=((l.find? (λp=>p.1 == a)).map (·.2)).map f:=by
 unfold Vz
 induction l with
 |nil=>rfl
 |cons p r C=>
  rw[aed];by_cases h:p.1=a;·rw[apg (by simpa using h),apg (by simpa using h)];rfl
  ·rw[amf (by simpa using h),amf (by simpa using h)];exact C
theorem mC{w:Nat->Nat}{F:List Z9}{Bk:Nat->Nat}{ow d:Nat}{K:Int->Prop}(hF:ZR F)(hB:O9 w F Bk)(ho:ow≠0)(hd:∀a,JF w F ow a=some d)
 (l:List (Nat×Nat)) (g:G) (s rest:List Z9) (hr:Sd l) (h:Y8 g K) (Y:Sg g K ow) (hA:XM (WG ow l g).b Bk) (e1:F=g.l++s) (e2:F=(WG ow l g).l++rest) (a:Nat):Wd w s a=some (dQ w d l):=by
 have h1:=h.put (O8 (g:=g) (K:=K) 16);have l1:=Ym.put g [ins 0x20 16 0 0];obtain⟨h2,l2,h3,I⟩:=Rv l _ h1;have hm:∀p∈(l.map λp=>(p.1,look (Zw l (g.put [ins 0x20 16 0 0])).b p.2)),Sg (Zw l (g.put [ins 0x20 16 0 0])) K (p.2:Int):=λp hp=>by obtain⟨q,U,rfl⟩:=ah.1 hp;exact .inr (.inr ⟨q.2,I q U,rfl⟩)
 have Z:∀p∈(l.map λp=>(p.1,look (Zw l (g.put [ins 0x20 16 0 0])).b p.2)),p.2≠0:=λp hp=>by obtain⟨q,U,rfl⟩:=ah.1 hp;exact I q U
 have C:=Sg.up (l1.trans l2) Y;obtain⟨h5,l5⟩:=WW ow _ (l.map λp=>(p.1,look (Zw l (g.put [ins 0x20 16 0 0])).b p.2)) _ (aR _) h2 C hm;have J:XM (Zw l (g.put [ins 0x20 16 0 0])).b Bk:=XM.back (g':=WG ow l g) hA l5;obtain⟨xs,T⟩:=l5.l;have e3:F=(Zw l (g.put [ins 0x20 16 0 0])).l++(xs++rest):=by rw[e2,<-aag,<-T];rfl
 have e4:F=g.l++(ins 0x20 16 0 0::(xs++rest)):=by rw[e3,h3];show(g.l++[ins 0x20 16 0 0])++_=_;rw[aag];rfl
 have hs:=akc (e1.symm.trans e4);rw[hs,show ins 0x20 16 0 0=⟨0,0x20,16,0,0⟩ from rfl,W5];have D:Sd (l.map λp=>(p.1,look (Zw l (g.put [ins 0x20 16 0 0])).b p.2)):=by unfold Sd;rw[afa];exact hr
 rw[QP hF ho _ _ _ (xs++rest) rest (aR _) D Z h2 C hm e3 e2 (w 16),th l (λc=>look (Zw l (g.put [ins 0x20 16 0 0])).b c)];unfold dQ;cases hf:l.find? (λp=>p.1 == w 16) with
 |none=>exact hd _
 |some p=>
  have hp:=List.mem_of_find?_eq_some hf;show JF w F ((look (Zw l (g.put [ins 0x20 16 0 0])).b p.2:Nat):Int) (w 16)=some p.2;rw[<-J p.2 (I p hp)];exact hB p.2 (by rw[J p.2 (I p hp)];exact I p hp) _
inductive ZM where
 |rules (wide:Bool) (rs:List Z3)
 |subs (l:List (Nat×Nat))
def VM(ow:Nat):ZM->G->G
 | .rules wide rs,g=>XK wide ow rs g
 | .subs l,g=>WG ow l g
def td(w:Nat->Nat)(d:Nat):ZM->Nat
 | .rules wide rs=>Pb w wide d rs
 | .subs l=>dQ w d l
def GD:ZM->Prop
 | .rules wide rs=>∀r∈rs,∀c∈r.1,c.ok wide
 | .subs l=>Sd l
theorem Er(ow:Nat){K:Int->Prop}(p:ZM)(g:G)(h:Y8 g K)(ho:Sg g K ow):Y8 (VM ow p g) K/\Ym g (VM ow p g):=by
 cases p with
 |rules wide rs=>exact Pa wide ow rs g h ho
 |subs l=>exact tj ow l g h ho
theorem mA{w:Nat->Nat}{F:List Z9}{Bk:Nat->Nat}{ow d:Nat}{K:Int->Prop}(hF:ZR F)(hw:GG w)(D:O9 w F Bk)(ho:ow≠0)(hd:∀a,JF w F ow a=some d)
 (p:ZM) (g:G) (s rest:List Z9) (hp:GD p) (h:Y8 g K) (C:Sg g K ow) (hA:XM (VM ow p g).b Bk) (e1:F=g.l++s) (e2:F=(VM ow p g).l++rest) (a:Nat):Wd w s a=some (td w d p):=by
 cases p with
 |rules wide rs=>exact Es hF hw D ho hd rs g s rest hp h C hA e1 e2 a
 |subs l=>exact mC hF D ho hd l g s rest hp h C hA e1 e2 a
def X7(ow:Nat):List ZM->Nat->G->G
 |[],_,g=>g
 |p::ps,m,g=>X7 ow ps (m+1) (VM ow p (g.here m))
def Span(m k:Nat)(t:Int):Prop:=(m:Int)<=t/\t<((m+k:Nat):Int)
theorem Y8.marks{g:G}{K:Int->Prop}(h:Y8 g K):∀k:Nat,Y8 ⟨g.l,g.n+k,g.b⟩ (λt=>K t\/Span (g.n+1) k t)
 |0=>h.congr (λt=>⟨.inl,λe=>e.resolve_right (λe=>by unfold Span at e;omega)⟩)
 |k+1=>by
  have D:=(Y8.marks h k).mark;refine D.congr (λt=> ?_);show((K t\/Span (g.n+1) k t)\/t=((g.n+k+1:Nat):Int))↔(K t\/Span (g.n+1) (k+1) t);unfold Span;constructor
  ·rintro((e|e)|e);·exact .inl e
   ·exact .inr ⟨e.1,jO⟩
   ·exact .inr ⟨jO,jO⟩
  ·rintro(e|e);·exact .inl (.inl e)
   ·by_cases C:t=((g.n+k+1:Nat):Int);·exact .inr C
    ·exact .inl (.inr ⟨e.1,jO⟩)
theorem UI(ow:Nat){K:Int->Prop}:∀(ps:List ZM) (m:Nat) (g:G),m≠0->(∀t,Span m ps.length t->¬K t)->Y8 g (λt=>K t\/Span m ps.length t)->Sg g K ow->Y8 (X7 ow ps m g) K/\Ym g (X7 ow ps m g)
 |[],m,g,_,_,h,_=>⟨h.congr (λt=>⟨λe=>e.resolve_right (λe=>by unfold Span at e;simp at e;omega),.inl⟩),Ym.refl g⟩
 |p::ps,m,g,hm,hk,h,ho=>by
  have D:¬(K (m:Int)\/Span (m+1) ps.length (m:Int)):=by
   rintro(e|e);·exact hk m ⟨jO,by simp only[ai];omega⟩ e
   ·unfold Span at e;omega
  have Z:Y8 g (λt=>(K t\/Span (m+1) ps.length t)\/t=(m:Int)):=h.congr (λt=>by
   unfold Span;simp only[ai];constructor
   ·rintro(e|e);·exact .inl (.inl e)
    ·by_cases C:t=(m:Int);·exact .inr C
     ·exact .inl (.inr ⟨jO,jO⟩)
   ·rintro((e|e)|e);·exact .inl e
    ·exact .inr ⟨jO,jO⟩
    ·exact .inr ⟨jO,jO⟩)
  have C:=Z.here hm D;have I:=Ym.here g m;obtain⟨T,J⟩:=Er ow p _ C ((Sg.up I ho).imp id (λe=>e.imp .inl id));obtain⟨Y,U⟩:=UI ow ps (m+1) _ jO (λt ht=>hk t (by unfold Span at ht ⊢;simp only[ai];omega)) T (Sg.up (I.trans J) ho);exact⟨Y,(I.trans J).trans U⟩
theorem K0{w:Nat->Nat}{F:List Z9}{Bk:Nat->Nat}{ow d:Nat}{K:Int->Prop}(hF:ZR F)(hw:GG w)(hB:O9 w F Bk)(ho:ow≠0)(hd:∀a,JF w F ow a=some d):
 ∀(ps:List ZM) (m:Nat) (g:G) (rest:List Z9),m≠0->(∀t,Span m ps.length t->¬K t)->Y8 g (λt=>K t\/Span m ps.length t)->Sg g K ow->(∀p∈ps,GD p)->XM (X7 ow ps m g).b Bk->F=(X7 ow ps m g).l++rest->
  ∀i p,ps[i]? =some p->∀a,JF w F ((m+i:Nat):Int) a=some (td w d p)
 |[],m,g,rest,_,_,_,_,_,_,_,i,p,hi,_=>by simp at hi
 |q::ps,m,g,rest,hm,hk,h,mD,mz,hA,e2,i,p,hi,a=>by
  have Y:¬(K (m:Int)\/Span (m+1) ps.length (m:Int)):=by
   rintro(e|e);·exact hk m ⟨jO,by simp only[ai];omega⟩ e
   ·unfold Span at e;omega
  have h1:Y8 g (λt=>(K t\/Span (m+1) ps.length t)\/t=(m:Int)):=h.congr (λt=>by
   unfold Span;simp only[ai];constructor
   ·rintro(e|e);·exact .inl (.inl e)
    ·by_cases J:t=(m:Int);·exact .inr J
     ·exact .inl (.inr ⟨jO,jO⟩)
   ·rintro((e|e)|e);·exact .inl e
    ·exact .inr ⟨jO,jO⟩
    ·exact .inr ⟨jO,jO⟩)
  have J:=h1.here hm Y;have l2:=Ym.here g m;have D:Sg (g.here m) (λt=>K t\/Span (m+1) ps.length t) ow:=(Sg.up l2 mD).imp id (λe=>e.imp .inl id);obtain⟨h3,l3⟩:=Er ow q _ J D;have I:∀t,Span (m+1) ps.length t->¬K t:=λt ht=>hk t (by unfold Span at ht ⊢;simp only[ai];omega)
  have C:=Sg.up (l2.trans l3) mD;obtain⟨h4,Z⟩:=UI ow ps (m+1) _ jO I h3 C;cases i with
  |zero=>
   obtain rfl:q=p:=aq hi;obtain⟨xs,T⟩:=l3.l;obtain⟨ys,U⟩:=Z.l;have e3:F=(VM ow q (g.here m)).l++(ys++rest):=by rw[e2,<-aag,<-U];rfl
   have e4:F=(g.here m).l++(xs++(ys++rest)):=by rw[e3,T,aag]
   have e5:F=g.l++Zq (m:Int)::(xs++(ys++rest)):=by rw[e4];show(g.l++[Zq (m:Int)])++_=_;rw[aag];rfl
   rw[aec,Tr hF e5 jO];exact mA hF hw hB ho hd q _ _ (ys++rest) (mz q jS) J D (XM.back (g':=X7 ow (q::ps) m g) hA Z) e4 e3 a
  |succ i=>
   have:=K0 hF hw hB ho hd ps (m+1) _ rest jO I h3 C (λp hp=>mz p (by simp[hp])) hA e2 i p (by simpa using hi) a;rw[show m+(i+1)=m+1+i from jO];exact this
def Vg:List (Nat×ZM)->Nat->List (Nat×Nat)
 |[],_=>[]
 |p::r,m=>(p.1,m)::Vg r (m+1)
theorem T4:∀(ps:List (Nat×ZM)) (m:Nat),∀q∈Vg ps m,Span m ps.length (q.2:Int)/\∃p∈ps,p.1=q.1
 |[],_,q,C=>by cases C
 |p::r,m,q,C=>by
  rcases abb.1 C with rfl|C;·exact⟨⟨jO,by simp only[ai];omega⟩,p,jS,rfl⟩
  ·obtain⟨T,I,J,D⟩:=T4 r (m+1) q C;unfold Span at T ⊢;exact⟨⟨jO,by simp only[ai];omega⟩,I,by simp[J],D⟩
theorem KZ:∀(ps:List (Nat×ZM)) (m:Nat),ps.Pairwise (λp q=>p.1<q.1)->Sd (Vg ps m)
 |[],_,_=>List.Pairwise.nil
 |p::r,m,h=>by obtain⟨J,I⟩:=age.1 h;refine age.2 ⟨λq T=> ?_,KZ r (m+1) I⟩;obtain⟨_,D,C,U⟩:=T4 r (m+1) q T;have:=J D C;show p.1<q.1;omega
theorem IK:∀(ps:List (Nat×ZM)) (m a:Nat),(Vz (Vg ps m) a=none/\ps.find? (λp=>p.1 == a)=none)\/∃i p,ps[i]? =some p/\Vz (Vg ps m) a=some (m+i)/\ps.find? (λp=>p.1 == a)=some p
 |[],m,a=>.inl ⟨rfl,rfl⟩
 |p::r,m,a=>by
  by_cases h:p.1=a;·refine .inr ⟨0,p,rfl,?_,apg (by simpa using h)⟩;unfold Vz Vg;rw[apg (by simpa using h)];rfl
  ·have e1:Vz (Vg (p::r) m) a=Vz (Vg r (m+1)) a:=by
    unfold Vz;show((((p.1,m)::Vg r (m+1)).find? (λp=>p.1 == a)).map (·.2))=_;rw[amf (by simpa using h)]
   have e2:(p::r).find? (λp=>p.1 == a)=r.find? (λp=>p.1 == a):=amf (by simpa using h);rw[e1,e2];rcases IK r (m+1) a with C|⟨i,q,C,D,I⟩;·exact .inl C
   ·exact .inr ⟨i+1,q,by simpa using C,by rw[D];congr 1;omega,I⟩
def Y3(d:Nat)(ps:List (Nat×ZM))(g:G):G:=
 X7 (look (g.goes d).b d) (ps.map (·.2)) ((g.goes d).n+1) (ZH (look (g.goes d).b d) (Vg ps ((g.goes d).n+1)) ⟨(g.goes d).l,(g.goes d).n+ps.length,(g.goes d).b⟩)
def UH(w:Nat->Nat)(d:Nat)(ps:List (Nat×ZM))(a:Nat):Nat:=((ps.find? (λp=>p.1 == a)).map (λp=>td w d p.2)).getD d
def WE(ps:List (Nat×ZM)):Prop:=ps.Pairwise (λp q=>p.1<q.1)/\∀p∈ps,GD p.2
theorem OC{d:Nat}{ps:List (Nat×ZM)}{g:G} (h:Y8 g K):
 look (g.goes d).b d≠0/\Ym g (g.goes d)/\(g.goes d).l=g.l/\
 Y8 ⟨(g.goes d).l,(g.goes d).n+ps.length,(g.goes d).b⟩ (λt=>K t\/Span ((g.goes d).n+1) ps.length t)/\
 (∀t,Span ((g.goes d).n+1) ps.length t->¬K t)/\
 Y8 (ZH (look (g.goes d).b d) (Vg ps ((g.goes d).n+1)) ⟨(g.goes d).l,(g.goes d).n+ps.length,(g.goes d).b⟩) (λt=>K t\/Span ((g.goes d).n+1) ps.length t)/\
 Ym g (ZH (look (g.goes d).b d) (Vg ps ((g.goes d).n+1)) ⟨(g.goes d).l,(g.goes d).n+ps.length,(g.goes d).b⟩)/\
 Ym ⟨(g.goes d).l,(g.goes d).n+ps.length,(g.goes d).b⟩ (ZH (look (g.goes d).b d) (Vg ps ((g.goes d).n+1)) ⟨(g.goes d).l,(g.goes d).n+ps.length,(g.goes d).b⟩):=by
 obtain⟨Y,D,_,h4⟩:=h.goes d;have U:=Ym.goes h d;have T:=Y.marks ps.length;have J:Ym (g.goes d) ⟨(g.goes d).l,(g.goes d).n+ps.length,(g.goes d).b⟩:=⟨⟨[],jS⟩,by show(g.goes d).n<=(g.goes d).n+ps.length;omega,λ_ _=>rfl⟩;have Z:∀{K:Int->Prop} {g':G},Ym (g.goes d) g'->Sg g' K (look (g.goes d).b d:Nat):=λC=>.inr (.inr (C.MF ⟨d,D,rfl⟩))
 obtain⟨h6,I⟩:=WW (look (g.goes d).b d) _ (Vg ps ((g.goes d).n+1)) _ (aR _) T (Z J) (λp hp=>.inr (.inl (.inr (T4 _ _ p hp).1)));refine⟨D,U,h4,T,λt ht hk=> ?_,h6,(U.trans J).trans I,I⟩;have:=(Y.all t).2 (.inr (.inl hk));unfold Span at ht;omega
theorem X8{d:Nat}{ps:List (Nat×ZM)}{g:G} (h:Y8 g K):Y8 (Y3 d ps g) K/\Ym g (Y3 d ps g)/\look (Y3 d ps g).b d≠0:=by
 obtain⟨C,l1,_,_,hk,Z,l6,l7⟩:=OC (d:=d) (ps:=ps) h;have Y:∀{K:Int->Prop} {g':G},Ym (g.goes d) g'->Sg g' K (look (g.goes d).b d:Nat):=λD=>.inr (.inr (D.MF ⟨d,C,rfl⟩))
 have T:Ym (g.goes d) ⟨(g.goes d).l,(g.goes d).n+ps.length,(g.goes d).b⟩:=⟨⟨[],jS⟩,by show(g.goes d).n<=(g.goes d).n+ps.length;omega,λ_ _=>rfl⟩;have I:=T.trans l7;obtain⟨U,J⟩:=UI (look (g.goes d).b d) (ps.map (·.2)) ((g.goes d).n+1) _ jO (by rw[aab];exact hk) (by rw[aab];exact Z) (Y I);refine⟨U,l6.trans J,?_⟩;have:=(I.trans J).b d C;show look (X7 _ _ _ _).b d≠0;rw[this];exact C
theorem T3 {F:List Z9} {d:Nat} (hF:ZR F)(hw:GG w)(hB:O9 w F Bk)
 (ps:List (Nat×ZM)) (g:G) (s rest:List Z9) (I:WE ps) (h:Y8 g K) (hA:XM (Y3 d ps g).b Bk) (e1:F=g.l++s) (e2:F=(Y3 d ps g).l++rest) (a:Nat):Wd w s a=some (UH w d ps a):=by
 obtain⟨C,l1,h4,h5,hk,h6,l6,l7⟩:=OC (d:=d) (ps:=ps) h;have tB:∀{K:Int->Prop} {g':G},Ym (g.goes d) g'->Sg g' K (look (g.goes d).b d:Nat):=λY=>.inr (.inr (Y.MF ⟨d,C,rfl⟩))
 have l5:Ym (g.goes d) ⟨(g.goes d).l,(g.goes d).n+ps.length,(g.goes d).b⟩:=⟨⟨[],jS⟩,by show(g.goes d).n<=(g.goes d).n+ps.length;omega,λ_ _=>rfl⟩;have l8:=l5.trans l7;obtain⟨h9,l9⟩:=UI (look (g.goes d).b d) (ps.map (·.2)) ((g.goes d).n+1) _ jO (by rw[aab];exact hk) (by rw[aab];exact h6) (tB l8);have D:Bk d=look (g.goes d).b d:=by have hx:=(l8.trans l9).b d C;rw[hA d (by show look (X7 _ _ _ _).b d≠0;rw[hx];exact C)];exact hx
 have hd:∀a,JF w F ((look (g.goes d).b d:Nat):Int) a=some d:=by rw[<-D];exact hB d (by rw[D];exact C)
 obtain⟨ys,U⟩:=l9.l;have e3:F=(ZH (look (g.goes d).b d) (Vg ps ((g.goes d).n+1)) ⟨(g.goes d).l,(g.goes d).n+ps.length,(g.goes d).b⟩).l++(ys++rest):=by rw[e2,<-aag,<-U];rfl
 have e4:F=(G.mk (g.goes d).l ((g.goes d).n+ps.length) (g.goes d).b).l++s:=by show F=(g.goes d).l++s;rw[h4];exact e1
 rw[QP hF C _ _ _ s (ys++rest) (aR _) (KZ ps _ I.1) (λp hp=>by have:=(T4 _ _ p hp).1;unfold Span at this;omega) h5 (tB l5) (λp hp=>.inr (.inl (.inr (T4 _ _ p hp).1))) e4 e3 a];unfold UH;rcases IK ps ((g.goes d).n+1) a with⟨Z,J⟩|⟨i,p,f0,Z,J⟩
 ·rw[Z,J];exact hd a
 ·rw[Z,J]
  exact K0 hF hw hB C hd (ps.map (·.2)) ((g.goes d).n+1) _ rest jO (by rw[aab];exact hk) (by rw[aab];exact h6) (tB l8) (λq hq=>by obtain⟨q',T,rfl⟩:=ah.1 hq;exact I.2 q' T) hA e2 i p.2 (by rw[acd,f0];rfl) a
def Zm:Nat:=0x80000000
def VT:Nat:=0x40000000
def NONE:Nat:=0xffffffff
def Un(Vl:Bool)(d:Nat)(LG Co:List (Nat×ZM))(g:G):G:=
 let g1:=(g.goes d).put [ins 0x15 NONE (look (g.goes d).b d) 0]
 if Vl=false then Y3 d LG ((g1.goes Zm).put [ins 0x45 VT (look (g1.goes Zm).b Zm) 0])
 else Y3 d Co ((Y3 d LG (g1.mark.put [ins 0x45 VT ((g1.n+1:Nat):Int) 0])).here (g1.n+1))
def xI(w:Nat->Nat)(Vl:Bool)(d:Nat)(LG Co:List (Nat×ZM))(a:Nat):Nat:=
 if a=NONE then d else if a &&& VT≠0 then(if Vl=false then Zm else UH w d Co a) else UH w d LG a
theorem Vf{g:G} (h:Y8 g K){c k:Nat}{t:Int}(ht:Sg g K t):Y8 (g.put [ins c k t 0]) K:=h.put (λx hx=>by
 rcases aaa.1 hx with rfl;exact⟨rfl,ht,.inl rfl⟩)
theorem zv{Vl:Bool}{d:Nat}{LG Co:List (Nat×ZM)}{g:G}{K:Int->Prop}(h:Y8 g K):Y8 (Un Vl d LG Co g) K/\Ym g (Un Vl d LG Co g):=by
 obtain⟨h1,D,_,_⟩:=h.goes d;have l1:=Ym.goes h d;have C:=Vf (c:=0x15) (k:=NONE) h1 (.inr (.inr ⟨d,D,rfl⟩));have l2:=l1.trans (Ym.put (g.goes d) [ins 0x15 NONE (look (g.goes d).b d) 0]);unfold Un;dsimp only;generalize (g.goes d).put [ins 0x15 NONE (look (g.goes d).b d) 0]=g1 at*;cases Vl with
 |false=>
  rw[aF rfl];obtain⟨I,Z,_,_⟩:=C.goes Zm;have l3:=l2.trans (Ym.goes C Zm);have Y:=Vf (c:=0x45) (k:=VT) I (.inr (.inr ⟨Zm,Z,rfl⟩));have J:=l3.trans (Ym.put (g1.goes Zm) [ins 0x45 VT (look (g1.goes Zm).b Zm) 0]);obtain⟨U,T,_⟩:=X8 (d:=d) (ps:=LG) Y;exact⟨U,J.trans T⟩
 |true=>
  rw[aN jD];have I:=C.mark;have Y:Y8 (g1.mark.put [ins 0x45 VT ((g1.n+1:Nat):Int) 0]) (λt=>K t\/t=((g1.n+1:Nat):Int)):=Vf (c:=0x45) (k:=VT) I (.inr (.inl (.inr rfl)));have J:Ym g (g1.mark.put [ins 0x45 VT ((g1.n+1:Nat):Int) 0]):=(l2.trans (Ym.mark g1)).trans (Ym.put _ _);obtain⟨U,T,_⟩:=X8 (d:=d) (ps:=LG) Y;have hk:¬K ((g1.n+1:Nat):Int):=λe=>by have:=(C.all ((g1.n+1:Nat):Int)).2 (.inr (.inl e));omega
  have h6:=U.here (m:=g1.n+1) jO hk;obtain⟨h7,l7,_⟩:=X8 (d:=d) (ps:=Co) h6;exact⟨h7,((J.trans T).trans (Ym.here _ _)).trans l7⟩
theorem dP{w:Nat->Nat}{F:List Z9}{Bk:Nat->Nat}{Vl:Bool}{d:Nat}{LG Co:List (Nat×ZM)}{g:G}{K:Int->Prop}(hF:ZR F)(hw:GG w)(hB:O9 w F Bk)(U:WE LG)(ok1:WE Co)(s rest:List Z9)(h:Y8 g K)(hA:XM (Un Vl d LG Co g).b Bk)(e1:F=g.l++s)(e2:F=(Un Vl d LG Co g).l++rest)(a:Nat):
 Wd w s a=some (xI w Vl d LG Co a):=by
 obtain⟨h1,I,_,h1l⟩:=h.goes d;have l1:=Ym.goes h d;have h2:=Vf (c:=0x15) (k:=NONE) h1 (.inr (.inr ⟨d,I,rfl⟩));have l2:=Ym.put (g.goes d) [ins 0x15 NONE (look (g.goes d).b d) 0];have C:((g.goes d).put [ins 0x15 NONE (look (g.goes d).b d) 0]).l=g.l++[ins 0x15 NONE (look (g.goes d).b d) 0]:=by show(g.goes d).l++_=_;rw[h1l]
 unfold Un at hA e2;dsimp only at hA e2;obtain⟨M,hM⟩:∃M,M=look (g.goes d).b d:=⟨_,rfl⟩;have hM0:M≠0:=by rw[hM];exact I
 rw[<-hM] at hA e2 h2 l2 C;generalize (g.goes d).put [ins 0x15 NONE M 0]=g1 at*;have fin:∀{g':G},Ym g1 g'->XM g'.b Bk->Bk d=M/\∀a,JF w F (M:Int) a=some d:=λhle hag=>by have hb:=(XM.back (XM.back hag hle) l2) d I;rw[<-hM] at hb;refine⟨hb,?_⟩;have:=hB d (by rw[hb];exact hM0);rw[hb] at this;exact this
 unfold xI;cases Vl with
 |false=>
  rw[aF rfl] at hA e2;obtain⟨h3,J,_,h3l⟩:=h2.goes Zm;have l3:=Ym.goes h2 Zm;have Y:=Vf (c:=0x45) (k:=VT) h3 (.inr (.inr ⟨Zm,J,rfl⟩));have l4:=Ym.put (g1.goes Zm) [ins 0x45 VT (look (g1.goes Zm).b Zm) 0];obtain⟨h5,T,_⟩:=X8 (d:=d) (ps:=LG) Y;obtain⟨xs,D⟩:=T.l;have Z:Bk Zm=look (g1.goes Zm).b Zm:=(XM.back (XM.back hA T) l4) Zm J;have e3:F=((g1.goes Zm).put [ins 0x45 VT (look (g1.goes Zm).b Zm) 0]).l++(xs++rest):=by rw[e2,D,aag]
  have e4:F=g1.l++(ins 0x45 VT (look (g1.goes Zm).b Zm) 0::(xs++rest)):=by rw[e3];show((g1.goes Zm).l++[_])++_=_;rw[h3l,aag];rfl
  have e5:F=g.l++(ins 0x15 NONE M 0::ins 0x45 VT (look (g1.goes Zm).b Zm) 0::(xs++rest)):=by rw[e4,C];simp
  have hs:=akc (e1.symm.trans e5);rw[hs,Zk hF e5 rfl,XI];by_cases ha:a=NONE;·rw[aF (by simpa using ha),aN (show ¬(M:Int)=0 from jO),aF ha];exact(fin ((l3.trans l4).trans T) hA).2 a
  ·rw[aN (by simpa using ha),aF rfl,aN ha,Zk hF e4 rfl,zx];by_cases hb:a &&& VT=0;·rw[aN (by simpa using hb),aF rfl,aN (by simpa using hb)];exact T3 hF hw hB LG _ _ rest U Y hA e3 e2 a
   ·rw[aF (by simpa using hb),aN (show ¬((look (g1.goes Zm).b Zm:Nat):Int)=0 from jO),aF (by simpa using hb),aF rfl,<-Z];exact hB Zm (by rw[Z];exact J) a
 |true=>
  rw[aN jD] at hA e2;have h3:=h2.mark;have Y:Y8 (g1.mark.put [ins 0x45 VT ((g1.n+1:Nat):Int) 0]) (λt=>K t\/t=((g1.n+1:Nat):Int)):=Vf (c:=0x45) (k:=VT) h3 (.inr (.inl (.inr rfl)));have l4:Ym g1 (g1.mark.put [ins 0x45 VT ((g1.n+1:Nat):Int) 0]):=(Ym.mark g1).trans (Ym.put _ _);obtain⟨h5,T,_⟩:=X8 (d:=d) (ps:=LG) Y;have hk:¬K ((g1.n+1:Nat):Int):=λe=>by have:=(h2.all ((g1.n+1:Nat):Int)).2 (.inr (.inl e));omega
  have h6:=h5.here (m:=g1.n+1) jO hk;have l6:=Ym.here (Y3 d LG (g1.mark.put [ins 0x45 VT ((g1.n+1:Nat):Int) 0])) (g1.n+1);obtain⟨h7,l7,_⟩:=X8 (d:=d) (ps:=Co) h6;obtain⟨xs,D⟩:=T.l;obtain⟨ys,hys⟩:=l7.l;have e3:F=((Y3 d LG (g1.mark.put [ins 0x45 VT ((g1.n+1:Nat):Int) 0])).here (g1.n+1)).l++(ys++rest):=by rw[e2,hys,aag]
  have e4:F=(Y3 d LG (g1.mark.put [ins 0x45 VT ((g1.n+1:Nat):Int) 0])).l++(Zq ((g1.n+1:Nat):Int)::(ys++rest)):=by rw[e3];show((Y3 d LG _).l++[_])++_=_;rw[aag];rfl
  have e5:F=(g1.mark.put [ins 0x45 VT ((g1.n+1:Nat):Int) 0]).l++(xs++(Zq ((g1.n+1:Nat):Int)::(ys++rest))):=by rw[e4,D,aag]
  have e6:F=g1.l++(ins 0x45 VT ((g1.n+1:Nat):Int) 0::(xs++(Zq ((g1.n+1:Nat):Int)::(ys++rest)))):=by rw[e5];show(g1.l++[_])++_=_;rw[aag];rfl
  have e7:F=g.l++(ins 0x15 NONE M 0::ins 0x45 VT ((g1.n+1:Nat):Int) 0::(xs++(Zq ((g1.n+1:Nat):Int)::(ys++rest)))):=by rw[e6,C];simp
  have hs:=akc (e1.symm.trans e7);have hA6:=XM.back hA l7;have xH:XM (Y3 d LG (g1.mark.put [ins 0x45 VT ((g1.n+1:Nat):Int) 0])).b Bk:=XM.back hA6 l6;rw[hs,Zk hF e7 rfl,XI];by_cases ha:a=NONE;·rw[aF (by simpa using ha),aN (show ¬(M:Int)=0 from jO),aF ha];exact(fin (l4.trans T) xH).2 a
  ·rw[aN (by simpa using ha),aF rfl,aN ha,Zk hF e6 rfl,zx];by_cases hb:a &&& VT=0;·rw[aN (by simpa using hb),aF rfl,aN (by simpa using hb)];exact T3 hF hw hB LG _ _ _ U Y xH e5 e4 a
   ·rw[aF (by simpa using hb),aN (show ¬((g1.n+1:Nat):Int)=0 from jO),aF (by simpa using hb),aN jD,Tr hF e4 jO];exact T3 hF hw hB Co _ _ rest ok1 h6 hA e3 e2 a
def Qy:Nat:=0xc000003e
def O7:Nat:=0x40000003
def O6:Nat:=0xc00000b7
def O5:Nat:=0xc00000f3
def Zv(b:List (Nat×Nat))(cs:List Nat):List Z9:=cs.flatMap λc=>[Zq (look b c),ins 0x06 c 0 0]
def KY:G:=⟨[ins 0x20 4 0 0,ins 0x15 Qy 1 0,ins 0x15 O7 2 0,ins 0x15 O6 3 0,ins 0x15 O5 4 0],4,[]⟩
def XH:G:=(KY.goes Zm).put [ins 0x05 0 (look (KY.goes Zm).b Zm) 0]
def Ve(m:Nat)(g:G):G:=(g.here m).put [ins 0x20 0 0 0]
structure YE where
 Vl:Bool
 d:Nat
 (p0 p1 p2 p3 p4:List (Nat×ZM))
def YE.ok(p:YE):Prop:=WE p.p0/\WE p.p1/\WE p.p2/\WE p.p3/\WE p.p4
def gA(p:YE):G:=Un p.Vl p.d p.p0 p.p1 (Ve 1 XH)
def gB(p:YE):G:=Y3 p.d p.p2 (Ve 2 (gA p))
def gC(p:YE):G:=Y3 p.d p.p3 (Ve 3 (gB p))
def gD(p:YE):G:=Y3 p.d p.p4 (Ve 4 (gC p))
def ZL(p:YE)(cs:List Nat):List Z9:=(gD p).l++Zv (gD p).b cs
def Ep(w:Nat->Nat)(p:YE):Nat:=
 if w 4=Qy then xI w p.Vl p.d p.p0 p.p1 (w 0)
 else if w 4=O7 then UH w p.d p.p2 (w 0)
 else if w 4=O6 then UH w p.d p.p3 (w 0)
 else if w 4=O5 then UH w p.d p.p4 (w 0)
 else Zm
def Sc(m k:Nat)(t:Int):Prop:=(m:Int)<=t/\t<=(k:Int)
theorem Eo:Y8 KY (Sc 1 4):=by
 have T:Y8 ⟨[ins 0x20 4 0 0],0,[]⟩ (λ_=>False):=by
  refine⟨λt=> ?_,λt e=>e.elim,λt ⟨c,e,_⟩=>(e rfl).elim,?_,λc d _ e=>(e rfl).elim,λp hp=>by cases hp⟩
  ·show(1<=t/\t<=((0:Nat):Int))↔(t∈([]:List Int)\/False\/_);constructor;·intro h;omega
   ·rintro(h|h|⟨c,h,_⟩)
    ·cases h
    ·exact h.elim
    ·exact(h rfl).elim
  ·exact⟨trivial,by rw[aN (λe=>e rfl)];exact⟨λe=>(e rfl).elim,λe=>(e rfl).elim⟩⟩
 have J:=Vf (c:=0x15) (k:=Qy) (t:=1) T.mark (.inr (.inl (.inr rfl)));have D:=Vf (c:=0x15) (k:=O7) (t:=2) J.mark (.inr (.inl (.inr rfl)));have C:=Vf (c:=0x15) (k:=O6) (t:=3) D.mark (.inr (.inl (.inr rfl)));have I:=Vf (c:=0x15) (k:=O5) (t:=4) C.mark (.inr (.inl (.inr rfl)));refine Y8.congr (g:=KY) I (λt=> ?_);unfold Sc;constructor
 ·rintro((((h|h)|h)|h)|h);·exact h.elim
  ·have h:t=1:=h;omega
  ·have h:t=2:=h;omega
  ·have h:t=3:=h;omega
  ·have h:t=4:=h;omega
 ·intro h;have:t=1\/t=2\/t=3\/t=4:=jO;rcases this with rfl|rfl|rfl|rfl;·exact .inl (.inl (.inl (.inr rfl)))
  ·exact .inl (.inl (.inr rfl))
  ·exact .inl (.inr rfl)
  ·exact .inr rfl
theorem OA:Y8 XH (Sc 1 4)/\Ym KY XH/\look XH.b Zm≠0:=by
 obtain⟨D,C,_,_⟩:=Eo.goes Zm;exact⟨Vf D (.inr (.inr ⟨Zm,C,rfl⟩)),(Ym.goes Eo Zm).trans (Ym.put _ _),C⟩
theorem UG{g:G}{m:Nat}(hm:m≠0)(h:Y8 g (Sc m 4))(I:m<=4):Y8 (Ve m g) (Sc (m+1) 4)/\Ym g (Ve m g):=by
 have C:Y8 g (λt=>Sc (m+1) 4 t\/t=(m:Int)):=h.congr (λt=>by
  unfold Sc;constructor
  ·intro e;by_cases e2:t=(m:Int);·exact .inr e2
   ·exact .inl ⟨jO,e.2⟩
  ·rintro(e|e);·exact⟨jO,e.2⟩
   ·exact⟨jO,jO⟩)
 have D:=C.here hm (λe=>by unfold Sc at e;omega);exact⟨D.put (O8 0),(Ym.here g m).trans (Ym.put _ _)⟩
theorem TZ(p:YE):Y8 (gA p) (Sc 2 4)/\Y8 (gB p) (Sc 3 4)/\Y8 (gC p) (Sc 4 4)/\Y8 (gD p) (λ_=>False)/\Ym XH (gA p)/\Ym (gA p) (gB p)/\Ym (gB p) (gC p)/\Ym (gC p) (gD p):=by
 obtain⟨U,_,_⟩:=OA;obtain⟨h1,l1⟩:=UG jD U jD;obtain⟨C,l2⟩:=zv (Vl:=p.Vl) (d:=p.d) (LG:=p.p0) (Co:=p.p1) h1;obtain⟨Z,J⟩:=UG (m:=2) jD C jD;obtain⟨I,l4,_⟩:=X8 (d:=p.d) (ps:=p.p2) Z;obtain⟨h5,l5⟩:=UG (m:=3) jD I jD;obtain⟨D,T,_⟩:=X8 (d:=p.d) (ps:=p.p3) h5;obtain⟨h7,Y⟩:=UG (m:=4) jD D jD;obtain⟨h8,l8,_⟩:=X8 (d:=p.d) (ps:=p.p4) h7;exact⟨C,I,D,h8.congr (λt=>⟨λe=>by unfold Sc at e;omega,λe=>e.elim⟩),l1.trans l2,J.trans l4,l5.trans T,Y.trans l8⟩
def Oz(p:YE)(cs:List Nat):Prop:=cs.Nodup/\∀c,c∈cs↔look (gD p).b c≠0
theorem WD(b:List (Nat×Nat)):∀cs:List Nat,(∀c∈cs,look b c≠0)->marks (Zv b cs)=cs.map λc=>((look b c:Nat):Int)
 |[],_=>rfl
 |c::cs,h=>by have C:=WD b cs (λd hd=>h d (by simp[hd]));have hc:=h c jS;show marks ([Zq (look b c),ins 0x06 c 0 0]++Zv b cs)=_;rw[WQ,C,Zp (show(Zq (look b c)).mark≠0 by show((look b c:Nat):Int)≠0;omega),YY (show(ins 0x06 c 0 0).mark=0 from rfl)];rfl
theorem IJ{b:List (Nat×Nat)}(one:∀c d,look b c=look b d->look b c≠0->c=d):∀cs:List Nat,cs.Nodup->(∀c∈cs,look b c≠0)->PF (λ_=>False) (Zv b cs)
 |[],_,_=>trivial
 |c::cs,hn,h=>by
  obtain⟨I,C⟩:=ayc.1 hn;have D:=IJ one cs C (λd hd=>h d (by simp[hd]));have hc:=h c jS;show PF _ ([Zq (look b c),ins 0x06 c 0 0]++Zv b cs);refine⟨⟨D,?_⟩,?_⟩;·rw[aN (λe=>e rfl)];exact⟨λe=>(e rfl).elim,λe=>(e rfl).elim⟩
  ·rw[aF (show(Zq (look b c)).mark≠0 by show((look b c:Nat):Int)≠0;omega)];show((look b c:Nat):Int)∉marks (ins 0x06 c 0 0::Zv b cs);rw[YY rfl,WD b cs (λd hd=>h d (by simp[hd]))];intro e;obtain⟨d,hd,e2⟩:=ah.1 e;have e2:look b d=look b c:=jO;exact I (one c d e2.symm hc▸hd)
theorem Vt{p:YE}{cs:List Nat}(hc:Oz p cs):ZR (ZL p cs):=by
 obtain⟨_,_,_,h,_⟩:=TZ p;have hl:∀c∈cs,look (gD p).b c≠0:=λc hm=>(hc.2 c).1 hm
 refine PF.formed (PF.app h.pf (IJ h.one cs hc.1 hl) (λm hm e=> ?_) (λt ht=> ?_));·rw[WD _ cs hl] at e;obtain⟨c,C,rfl⟩:=ah.1 e;exact h.xK _ ⟨c,hl c C,rfl⟩ hm
 ·rcases ht with ht|⟨c,C,rfl⟩;·exact ht.elim
  ·left
   rw[WD _ cs hl];exact ah.2 ⟨c,(hc.2 c).2 C,rfl⟩
theorem II(b:List (Nat×Nat)):∀(cs:List Nat) (c:Nat),c∈cs->∃x y,Zv b cs=x++Zq (look b c)::ins 0x06 c 0 0::y
 |e::cs,c,h=>by
  rcases abb.1 h with rfl|h;·exact⟨[],Zv b cs,rfl⟩
  ·obtain⟨x,y,C⟩:=II b cs c h;refine⟨[Zq (look b e),ins 0x06 e 0 0]++x,y,?_⟩;show [Zq (look b e),ins 0x06 e 0 0]++Zv b cs=_;rw[C,aag]
theorem GC {p:YE}{cs:List Nat}(hc:Oz p cs):O9 w (ZL p cs) (look (gD p).b):=by
 intro c h a;obtain⟨x,y,e⟩:=II (gD p).b cs c ((hc.2 c).2 h);have e2:ZL p cs=((gD p).l++x)++Zq (look (gD p).b c)::ins 0x06 c 0 0::y:=by unfold ZL;rw[e,aag]
 rw[Tr (Vt hc) e2 jO,show ins 0x06 c 0 0=⟨0,0x06,c,0,0⟩ from rfl,dR]
theorem GA {F:List Z9}{g g':G}{m:Nat}{rest:List Z9}(hF:ZR F)(hm:m≠0)(l:Ym (Ve m g) g')(e:F=g'.l++rest)(a:Nat):
 ∃s,F=(Ve m g).l++s/\JF w F (m:Int) a=Wd w s (w 0):=by
 obtain⟨xs,C⟩:=l.l;have e2:F=(Ve m g).l++(xs++rest):=by rw[e,C,aag]
 have e3:F=g.l++Zq (m:Int)::ins 0x20 0 0 0::(xs++rest):=by rw[e2];show(g.l++[Zq (m:Int)]++[ins 0x20 0 0 0])++_=_;simp
 refine⟨_,e2,?_⟩;rw[Tr hF e3 jO,show ins 0x20 0 0 0=⟨0,0x20,0,0,0⟩ from rfl,W5]
theorem sZ {p:YE}{cs:List Nat}(hw:GG w)(D:p.ok)(hc:Oz p cs)(a:Nat):Wd w (ZL p cs) a=some (Ep w p):=by
 have hF:=Vt hc;have J:=GC (w:=w) hc;obtain⟨h0,l0,hk⟩:=OA;obtain⟨iA,iB,iC,iD,lA,lB,lC,lD⟩:=TZ p;have aD:XM (gD p).b (look (gD p).b):=λ_ _=>rfl
 have aC:=XM.back aD lD;have aB:=XM.back aC lC;have aA:=XM.back aB lB;have aK:=XM.back aA lA;obtain⟨T,hD⟩:=lD.l;obtain⟨xC,hC⟩:=lC.l;obtain⟨xB,hB'⟩:=lB.l;obtain⟨xA,hA⟩:=lA.l;have eD:ZL p cs=(gD p).l++Zv (gD p).b cs:=rfl;have eC:ZL p cs=(gC p).l++(T++Zv (gD p).b cs):=by rw[eD,hD,aag]
 have eB:ZL p cs=(gB p).l++(xC++(T++Zv (gD p).b cs)):=by rw[eC,hC,aag]
 have eA:ZL p cs=(gA p).l++(xB++(xC++(T++Zv (gD p).b cs))):=by rw[eB,hB',aag]
 obtain⟨rest,C⟩:∃rest,ZL p cs=XH.l++rest:=⟨xA++(xB++(xC++(T++Zv (gD p).b cs))),by rw[eA,hA,aag]⟩;have t0:=UG (m:=1) jD h0 jD;have t2:=UG (m:=2) jD iA jD;have t3:=UG (m:=3) jD iB jD;have t4:=UG (m:=4) jD iC jD;have j1:∀a,JF w (ZL p cs) ((1:Nat):Int) a=some (xI w p.Vl p.d p.p0 p.p1 (w 0)):=by intro a;obtain⟨s,e1,e2⟩:=GA (w:=w) hF (m:=1) jD (zv (Vl:=p.Vl) (d:=p.d) (LG:=p.p0) (Co:=p.p1) t0.1).2 eA a;rw[e2];exact dP hF hw J D.1 D.2.1 s _ t0.1 aA e1 eA (w 0)
 have j2:∀a,JF w (ZL p cs) ((2:Nat):Int) a=some (UH w p.d p.p2 (w 0)):=by intro a;obtain⟨s,e1,e2⟩:=GA (w:=w) hF (m:=2) jD (X8 (d:=p.d) (ps:=p.p2) t2.1).2.1 eB a;rw[e2];exact T3 hF hw J p.p2 _ s _ D.2.2.1 t2.1 aB e1 eB (w 0)
 have j3:∀a,JF w (ZL p cs) ((3:Nat):Int) a=some (UH w p.d p.p3 (w 0)):=by intro a;obtain⟨s,e1,e2⟩:=GA (w:=w) hF (m:=3) jD (X8 (d:=p.d) (ps:=p.p3) t3.1).2.1 eC a;rw[e2];exact T3 hF hw J p.p3 _ s _ D.2.2.2.1 t3.1 aC e1 eC (w 0)
 have j4:∀a,JF w (ZL p cs) ((4:Nat):Int) a=some (UH w p.d p.p4 (w 0)):=by intro a;obtain⟨s,e1,e2⟩:=GA (w:=w) hF (m:=4) jD (X8 (d:=p.d) (ps:=p.p4) t4.1).2.1 eD a;rw[e2];exact T3 hF hw J p.p4 _ s _ D.2.2.2.2 t4.1 aD e1 eD (w 0)
 have hkl:XH.l=[ins 0x20 4 0 0,ins 0x15 Qy 1 0,ins 0x15 O7 2 0,ins 0x15 O6 3 0,ins 0x15 O5 4 0,ins 0x05 0 (look XH.b Zm) 0]:=rfl;have I:=aK Zm hk;rw[hkl] at C;have r1:ZL p cs=[ins 0x20 4 0 0]++ins 0x15 Qy 1 0::ins 0x15 O7 2 0::ins 0x15 O6 3 0::ins 0x15 O5 4 0::ins 0x05 0 (look XH.b Zm) 0::rest:=C;have r2:ZL p cs=[ins 0x20 4 0 0,ins 0x15 Qy 1 0]++ins 0x15 O7 2 0::ins 0x15 O6 3 0::ins 0x15 O5 4 0::ins 0x05 0 (look XH.b Zm) 0::rest:=C;have r3:ZL p cs=[ins 0x20 4 0 0,ins 0x15 Qy 1 0,ins 0x15 O7 2 0]++ins 0x15 O6 3 0::ins 0x15 O5 4 0::ins 0x05 0 (look XH.b Zm) 0::rest:=C;have r4:ZL p cs=[ins 0x20 4 0 0,ins 0x15 Qy 1 0,ins 0x15 O7 2 0,ins 0x15 O6 3 0]++ins 0x15 O5 4 0::ins 0x05 0 (look XH.b Zm) 0::rest:=C;have r5:ZL p cs=[ins 0x20 4 0 0,ins 0x15 Qy 1 0,ins 0x15 O7 2 0,ins 0x15 O6 3 0,ins 0x15 O5 4 0]++⟨0,0x05,0,(look XH.b Zm:Nat),0⟩::rest:=C;have start:Wd w (ZL p cs) a=Wd w (ins 0x15 Qy 1 0::ins 0x15 O7 2 0::ins 0x15 O6 3 0::ins 0x15 O5 4 0::ins 0x05 0 (look XH.b Zm) 0::rest) (w 4):=by rw[C];exact W5 w _ 4 0 0 a
 rw[start];unfold Ep;rw[Zk hF r1 rfl,XI];by_cases c0:w 4=Qy;·rw[aF (by simpa using c0),aN jD,aF c0];exact j1 _
 ·rw[aN (by simpa using c0),aF rfl,aN c0,Zk hF r2 rfl,XI];by_cases U:w 4=O7;·rw[aF (by simpa using U),aN jD,aF U];exact j2 _
  ·rw[aN (by simpa using U),aF rfl,aN U,Zk hF r3 rfl,XI];by_cases Y:w 4=O6;·rw[aF (by simpa using Y),aN jD,aF Y];exact j3 _
   ·rw[aN (by simpa using Y),aF rfl,aN Y,Zk hF r4 rfl,XI];by_cases Z:w 4=O5;·rw[aF (by simpa using Z),aN jD,aF Z];exact j4 _
    ·rw[aN (by simpa using Z),aF rfl,aN Z];have hj:=Lj (w:=w) hF r5 jO (w 4);rw[show ins 0x05 0 (look XH.b Zm:Nat) 0=⟨0,0x05,0,(look XH.b Zm:Nat),0⟩ from rfl,hj,<-I];exact J Zm (by rw[I];exact hk) _
end Go.Proofs.YtclgigmgbebhgaaGreatDoor
namespace Go.Proofs.YtclgigmgbebhgaaGreatDoor
open Tryz
open Go Go.Proofs Go.RowKit Go.Maps Go.WideMaps Go.ChangeMaps
variable {W W':World}
def Zz(W:World)(B:Nat)(S:List (Value×Value)):Prop:=∃es clock,W.heap[B]? =some (.map es clock)/\es.toList.map (λe=>(e.key,e.val))=S/\MapKept.Stamped es clock
theorem Zz.lt {B:Nat}{S:List (Value×Value)}(h:Zz W B S):B<W.heap.size:=by
 obtain⟨es,c,h,_⟩:=h;exact(aac.1 h).1
theorem Zz.kept {row:Option Nat}{B:Nat}{S:List (Value×Value)}(h:Zz W B S)(I:W.grownBy W' row)(C:some B≠row):Zz W' B S:=by
 have hl:=h.lt;obtain⟨es,c,h,D⟩:=h;exact⟨es,c,(I.block B hl C).trans h,D⟩
theorem Zz.below{n:Nat} {B:Nat}{S:List (Value×Value)}(h:Zz W B S)(hb:Below n W W')(D:B<n):Zz W' B S:=by
 obtain⟨es,c,h,C⟩:=h;exact⟨es,c,(hb.block B D).trans h,C⟩
theorem Zz.alloc {B:Nat}{S:List (Value×Value)}(h:Zz W B S)(o:Obj):Zz (W.alloc o) B S:=h.kept (aeb W o none) jS
theorem Zz.made(W:World):Zz (W.alloc (.map #[] 0)) W.heap.size []:=⟨#[],0,arb W _,rfl,λx hx=>(by simp at hx),List.Pairwise.nil,List.Pairwise.nil⟩
theorem TY{es:Array MapEntry}{S:List (Value×Value)}(D:es.toList.map (λe=>(e.key,e.val))=S):(∀e∈es.toList,(e.key,e.val)∈S)/\∀p∈S,∃e∈es.toList,e.key=p.1/\e.val=p.2:=by
 subst D;constructor;·intro e C;exact ah.2 ⟨e,C,rfl⟩
 ·intro p hp;obtain⟨e,C,rfl⟩:=ah.1 hp;exact⟨e,C,rfl,rfl⟩
section
variable {P:Program} {tm tk tv:TypeId} (hu:P.underlying tm=some (.map tk tv)) (K:Keyed P tk) {z:Value} (hz:∀W,(zeroValue tv).run P W=.ok z W)
variable {W:World} {B:Nat} {S:List (Value×Value)} (h:Zz W B S) (hS:∀p∈S,∃l,keyOf P tk p.1=some l) {k:Value} (hk:∃l,keyOf P tk k=some l)
include hu K hz h hS hk
theorem TX(hn:∀p∈S,p.1≠k):(Instr.lookup tm (.map (some B)) k false).run P W=.ok z W:=by
 obtain⟨es,clock,hb,T,Y⟩:=h;obtain⟨D,k2⟩:=TY T;obtain⟨kl,C⟩:=hk;rcases K.find W C es.toList (λe U=>hS _ (D e U)) with⟨J,I⟩|⟨j,e0,J,I,Z⟩;·simp[Instr.lookup,ake hu,aie hb,K.check W _ C,J,hz,Result.andThen]
 ·exact absurd Z.symm (λe=>hn _ (D e0 (ag I)) (by first|exact e.symm|exact e))
omit hz in
theorem Xq{v:Value}(hv:(k,v)∈S)(hd:S.Pairwise (λp q=>p.1≠q.1)):(Instr.lookup tm (.map (some B)) k false).run P W=.ok v W:=by
 obtain⟨es,clock,hb,h2,hst⟩:=h;obtain⟨k1,k2⟩:=TY h2;obtain⟨kl,D⟩:=hk;rcases K.find W D es.toList (λe U=>hS _ (k1 e U)) with⟨h4,Y⟩|⟨j,e0,h4,Y,h6⟩
 ·obtain⟨e,U,e1,_⟩:=k2 (k,v) hv;exact absurd e1 (Y e U)
 ·have hm:=k1 e0 (ag Y)
  have hval:e0.val=v:=by
   have e1:e0.key=k:=by first|exact h6|exact h6.symm
   rw[e1] at hm;obtain⟨i,hi,Z⟩:=aid.1 hm;obtain⟨T,J,C⟩:=aid.1 hv;by_cases e:i=T;·subst e;rw[Z] at C;exact(Prod.mk.inj C).2
   ·exfalso;have hp:=ama.1 hd;rcases ayg e with I|I;·exact hp i T hi J I (by rw[Z,C])
    ·exact hp T i J hi I (by rw[Z,C])
  simp[Instr.lookup,ake hu,aie hb,K.check W _ D,h4,Result.andThen,hval]
theorem Ca(hn:∀p∈S,p.1≠k):(Instr.lookup tm (.map (some B)) k true).run P W=.ok (.tuple #[z,.bool false]) W:=by
 obtain⟨es,clock,hb,T,Y⟩:=h;obtain⟨D,k2⟩:=TY T;obtain⟨kl,C⟩:=hk;rcases K.find W C es.toList (λe U=>hS _ (D e U)) with⟨J,I⟩|⟨j,e0,J,I,Z⟩;·simp[Instr.lookup,ake hu,aie hb,K.check W _ C,J,hz,Result.andThen]
 ·exact absurd Z.symm (λe=>hn _ (D e0 (ag I)) (by first|exact e.symm|exact e))
omit hz in
theorem KX{v:Value}(hv:(k,v)∈S)(hd:S.Pairwise (λp q=>p.1≠q.1)):(Instr.lookup tm (.map (some B)) k true).run P W=.ok (.tuple #[v,.bool true]) W:=by
 obtain⟨es,clock,hb,h2,hst⟩:=h;obtain⟨k1,k2⟩:=TY h2;obtain⟨kl,D⟩:=hk;rcases K.find W D es.toList (λe U=>hS _ (k1 e U)) with⟨h4,Y⟩|⟨j,e0,h4,Y,h6⟩
 ·obtain⟨e,U,e1,_⟩:=k2 (k,v) hv;exact absurd e1 (Y e U)
 ·have hm:=k1 e0 (ag Y)
  have hval:e0.val=v:=by
   have e1:e0.key=k:=by first|exact h6|exact h6.symm
   rw[e1] at hm;obtain⟨i,hi,Z⟩:=aid.1 hm;obtain⟨T,J,C⟩:=aid.1 hv;by_cases e:i=T;·subst e;rw[Z] at C;exact(Prod.mk.inj C).2
   ·exfalso;have hp:=ama.1 hd;rcases ayg e with I|I;·exact hp i T hi J I (by rw[Z,C])
    ·exact hp T i J hi I (by rw[Z,C])
  simp[Instr.lookup,ake hu,aie hb,K.check W _ D,h4,Result.andThen,hval]
omit hz in
theorem Vd(hn:∀p∈S,p.1≠k)(v:Value):∃W',(Instr.mapUpdate tm (.map (some B)) k v).run P W=.ok () W'/\Zz W' B (S++[(k,v)])/\W.grownBy W' (some B):=by
 obtain⟨es,clock,hb,T,I⟩:=h;obtain⟨J,k2⟩:=TY T;obtain⟨kl,D⟩:=hk;rcases K.find W D es.toList (λe he=>hS _ (J e he)) with⟨Y,U⟩|⟨j,e0,Y,U,h6⟩
 ·refine⟨setBlock W B (.map (es.push ⟨k,v,clock⟩) (clock+1)),?_,⟨_,_,heap_setBlock_same hb _,?_,?_⟩,⟨rfl,rfl,rfl,by simp[setBlock],λi _ hi=>heap_setBlock_other hb _ (λe=>hi (by rw[e]))⟩⟩;·simp[Instr.mapUpdate,ake hu,aie hb,K.check W false D,Y,awa _ hb,Result.andThen,setBlock]
  ·simp[T]
  ·obtain⟨s1,s2,Z⟩:=I;refine⟨λx hx=> ?_,?_,?_⟩
   ·rw[Array.toList_push] at hx;rcases abf.1 hx with hx|hx;·exact Nat.lt_succ_of_lt (s1 x hx)
    ·rw[aaa.1 hx];exact amd _
   ·rw[Array.toList_push,ada,atg];refine⟨s2,jS,λa ha b C e=> ?_⟩;obtain⟨x,hx,rfl⟩:=ah.1 ha;have:=s1 x hx;simp at C;omega
   ·rw[Array.toList_push,ada,atg];refine⟨Z,jS,λa ha b C e=> ?_⟩;obtain⟨x,hx,rfl⟩:=ah.1 ha;simp at C;exact hn _ (J x hx) (by rw[e,C])
 ·exact absurd h6.symm (λe=>hn _ (J e0 (ag U)) (by first|exact e.symm|exact e))
end
end Go.Proofs.YtclgigmgbebhgaaGreatDoor
namespace Go.Proofs.YtclgigmgbebhgaaGreatDoor
open Tryz
open Go Go.Proofs Go.RowKit
theorem Oy{k:IntKind}{a b:Int}(h:a=b):Ending.returned (.int k a)=.returned (.int k b):=by rw[h]
theorem Gz{a b:Bool}(h:a=b):Ending.returned (.bool a)=.returned (.bool b):=by rw[h]
section
variable {F:Fence} {n:Nat} {P:Program} {ops:Array Oper} {rest:List Oper} {a:Act} {w:World} {Q:Exit->Act->World->Prop}
theorem O4{ty:TypeId}{x y:Operand}{tt:TypeId}{pos:String}{after:Array Edge}
 (W:World) (t:TypeId) (old cells:Array Value) (hw:w=W.alloc (.cells old t)) (hx:a.eval x=.pointer (some ⟨W.heap.size,0,none⟩)) (hy:a.eval y=.agg cells)
 (hi:(P.info? ty).map (·.size)=some cells.size) (hold:old.size=cells.size) (D:cells.all (·.oneCell')=true)
 (h:wpListIn F n P ops Q rest a (W.alloc (.cells cells t))):wpListIn F n P ops Q ({dst:=none,op:=.store ty x y,type:=tt,pos,after,guard:=none}::rest) a w:=
 wpListIn_plain rfl λK C=>by
  subst hw;refine⟨λf hf=> ?_,?_⟩;·simp[Oper.about] at hf
  ·rw[Oper.semAt_eq _ _ _ jS];unfold execOp;simp only[hx,hy,Instr.storeAt,Instr.sureAddr,Sem.run_bind,Sem.run_pure,awe,run_storeVar_row (P:=P) (W.alloc (.cells old t)) W.heap.size t ty old cells (heap_alloc_last W _) hi hold D,World.setRow_alloc_new];simp only[Oper.uponIn,Act.put];exact C _ _ h
theorem Ox{k:Tmp}{ty:TypeId}{x:Operand}{tt:TypeId}{pos:String}{after:Array Edge}
 (g:Nat) (t:TypeId) (cs:Array Value) (fr:Nat×Nat) (d:TypeDesc) (I:w.heap[g]? =some (.cells cs t fr)) (hx:a.eval x=.pointer (some ⟨g,0,none⟩))
 (hu:P.underlying ty=some d) (C:(match d with | .struct _ | .array _ _=>true|_=>false)=true) (hi:(P.info? ty).map (·.size)=some cs.size)
 (h:wpListIn F n P ops Q rest {a with tmps:=a.tmps.setIfInBounds k (.agg cs)} w):wpListIn F n P ops Q ({dst:=some k,op:=.load ty x,type:=tt,pos,after,guard:=none}::rest) a w:=
 wpListIn_plain rfl λK D=>by
  refine⟨λf hf=> ?_,?_⟩;·simp[Oper.about] at hf
  ·rw[Oper.semAt_eq _ _ _ jS];unfold execOp;simp only[hx,Instr.loadAt,Instr.sureAddr,Sem.run_bind,Sem.run_pure,awe,run_loadVar_row w g t ty cs fr d I hu C hi];simp only[Oper.uponIn,Act.put];exact D _ _ h
end
end Go.Proofs.YtclgigmgbebhgaaGreatDoor
namespace Go.Proofs.YtclgigmgbebhgaaGreatDoor
open Tryz
open Go Go.Proofs Go.RowKit Go.Maps Go.WideMaps Go.ChangeMaps
variable {xs:List Value} {LO M Bm j m:Nat} {a W w w':World}
abbrev Fq:Nat:=135
abbrev Wc:Nat:=139
def zu(x:Z9):List Value:=[.int .i64 x.mark,.int .u16 x.code,.int .u32 x.k,.int .i64 x.t,.int .i64 x.f]
def XT(l:List Z9):List Value:=l.flatMap zu
theorem B8(a b:List Z9):XT (a++b)=XT a++XT b:=by unfold XT;rw[aca]
theorem KW:∀l:List Z9,(XT l).length=l.length*5
 |[]=>rfl
 |x::l=>by have C:=KW l;unfold XT at*;rw[ace,ay,C,ai];show 5+_=_;omega
theorem B7(l:List Z9):∀u∈XT l,u.oneCell'=true:=by
 intro u hu;obtain⟨x,_,hx⟩:=aqd.1 hu;unfold zu at hx;simp only[abb,ahd,arc] at hx;rcases hx with rfl|rfl|rfl|rfl|rfl<;>rfl
theorem dN:(prog.info? Wc).map (λi=>(i.zero,i.size,i.bytes))=some (some (.agg #[.int .i64 0,.int .u16 0,.int .u32 0,.int .i64 0,.int .i64 0]),5,32):=jK
theorem ZP{P:Program}{t:TypeId}{z:Value}{s b:Nat}(h:(P.info? t).map (λi=>(i.zero,i.size,i.bytes))=some (some z,s,b)):∃i,P.info? t=some i/\i.zero=some z/\i.size=s/\i.bytes=b:=by
 cases hi:P.info? t with
 |none=>rw[hi] at h;cases h
 |some i=>
  rw[hi] at h;simp only[avd,ahf,arf] at h;exact⟨i,rfl,h.1,h.2.1,h.2.2⟩
def Qx(b:List (Nat×Nat)):List (Value×Value):=b.map λp=>(.int .u32 p.1,.int .i64 p.2)
structure Zj(LO M Bm:Nat)(W:World)(v:Value)(g:G):Prop where
 blk:Z7 W M Fq #[v,.int .i64 g.n,.map (some Bm)]
 own:W.ownsRow LO Wc 5 v g.l.length (XT g.l)
 map:Zz W Bm (Qx g.b)
 lo:LO<=M/\LO<=Bm
def Yb(LO M Bm:Nat)(w w':World):Prop:=Below LO w w'/\w.heap.size<=w'.heap.size/\∀k o,w.heap[k]? =some o->k≠M->k≠Bm->(∀cs f,o≠.cells cs Wc f)->w'.heap[k]? =some o
theorem Yb.refl(LO M Bm:Nat)(w:World):Yb LO M Bm w w:=⟨aG _ _,aR _,λ_ _ h _ _ _=>h⟩
theorem Yb.trans {b c:World}(h:Yb LO M Bm a b)(k:Yb LO M Bm b c):Yb LO M Bm a c:=⟨h.1.trans k.1,aO h.2.1 k.2.1,λj o J D I C=>k.2.2 j o (h.2.2 j o J D I C) D I C⟩
theorem Yb.below {b:World}(h:Below a.heap.size a b)(C:LO<=a.heap.size):Yb LO M Bm a b:=⟨h.mono C,h.size,λk o hk _ _ _=>(h.block k (aac.1 hk).1).trans hk⟩
theorem Yb.alloc(o:Obj)(C:LO<=a.heap.size):Yb LO M Bm a (a.alloc o):=Yb.below ((aG _ a).alloc (aR _) o) C
theorem Yb.blk {b:World}(h:Yb LO M Bm a b){B:Nat}{t:TypeId}{cs:Array Value}(D:Z7 a B t cs)(I:B≠M)(C:B≠Bm)(ht:t≠Wc):Z7 b B t cs:=h.2.2 B _ D I C (λcs f e=>by
 injection e with _ e2;exact ht e2)
theorem Zz.af2 {B:Nat}{u:Value}{S:List (Value×Value)}(h:Zz W B S)(C:B≠M):Zz (W.setCell ⟨M,j,none⟩ u) B S:=by
 obtain⟨es,c,D,I⟩:=h;exact⟨es,c,(afc W ⟨M,j,none⟩ u B C).trans D,I⟩
theorem KV {B e size n g t:Nat}{v u:Value} {cs:Array Value}(h:W.ownsRow B e size v n xs)(U:Z7 W g t cs)(I:e≠t):(W.setCell ⟨g,j,none⟩ u).ownsRow B e size v n xs:=by
 refine⟨h.1,?_⟩;rcases h.2 with C|⟨J,cap,D,Z,C,T,Y⟩;·exact .inl C
 ·refine .inr ⟨J,cap,D,Z,C,(afc W ⟨g,j,none⟩ u J (show J≠g from λe2=> ?_)).trans T,Y⟩;subst e2;have:=T.symm.trans U;injection this with this;injection this with _ e3;exact I e3
theorem ZI {B e s n:Nat}{v:Value} (h:W.ownsRow B e s v n xs):∃a c,v=.slice a n c:=by
 rcases h.2 with⟨rfl,rfl⟩|⟨g,c,_,rfl,_⟩;·exact⟨_,_,rfl⟩
 ·exact⟨_,_,rfl⟩
theorem sY{v:Value}{n:Nat} {cs:Array Value}(h:W.ownsRow LO Wc 5 v n xs)(I:Z7 W M Fq cs):v.ownBlock≠some M:=by
 rcases h.2 with⟨rfl,_⟩|⟨g,c,J,rfl,_,D,_⟩;·intro e;cases e
 ·intro e;have e:g=M:=aq e;subst e;have:=D.symm.trans I;injection this with this;injection this with _ C;exact absurd C jD
theorem KU {B:Nat}{v:Value}{n:Nat} {S:List (Value×Value)}(h:W.ownsRow LO Wc 5 v n xs)(C:Zz W B S):v.ownBlock≠some B:=by
 rcases h.2 with⟨rfl,_⟩|⟨g,c,I,rfl,_,D,_⟩;·intro e;cases e
 ·intro e;have e:g=B:=aq e;subst e;obtain⟨es,J,hb,_⟩:=C;have:=D.symm.trans hb;injection this with this;cases this
theorem KT {B:Nat}{cs:Array Value}{S:List (Value×Value)}(C:Z7 W M Fq cs)(D:Zz W B S):M≠B:=by
 rintro rfl;obtain⟨es,I,hb,_⟩:=D;have:=hb.symm.trans C;injection this with this;cases this
theorem my {v:Value}{g:G}{xs:List Z9}{ad:Addr}{c:Nat}(w:World)(h:Zj LO M Bm w v g)(hx:∀j u,(XT xs)[j]? =some u->w.cell? (ad.add j)=some u)(hlen:g.l.length+xs.length<=1000000)(VS:LO<=w.heap.size):
 Calls prog 47 #[.pointer (some ⟨M,0,none⟩),.slice (some ad) xs.length c] w λe w'=>e=.returned (.tuple #[])/\∃v',Zj LO M Bm w' v' (g.put xs)/\Yb LO M Bm w w':=by
 obtain⟨hb,ho,hm,Y⟩:=h;obtain⟨i0,hi,hz0,hz1,hz2⟩:=ZP dN;have U:=sY ho hb;have Cn:=KU ho hm;have hMB:=KT hb hm;obtain⟨L,hL⟩:=jX g.l.length;obtain⟨K,hK⟩:=jX xs.length;have hfl:=KW xs;have Z:=B7 xs;have D:=B8 g.l xs;rw[hL,hK] at hlen;rw[hK] at hfl ⊢;rw[hL] at ho;obtain⟨va,vc,rfl⟩:=ZI ho;have HGL:Hid ((g.put xs).l.length=L+K):=by show(g.l++xs).length=_;rw[ay,hL,hK]
 have HGF:Hid (XT (g.put xs).l=XT g.l++XT xs):=D;have c0:=hb.e0;have HX:=aT hx;have HO:=aT ho;have HBk:=aT hb;have HMp:=aT hm;have HM1:=aT U;have VE:=aT Cn;have HMB:=aT hMB;have HLo:=aT Y;clear hb hm hx D ho U Cn hMB Y;go_enter func47,ntmps47
 go_wp2_with (at_builtin;refine aea _ rfl _ _ 79 rfl LO Wc i0 (.agg #[.int .i64 0,.int .u16 0,.int .u32 0,.int .i64 0,.int .i64 0]) 5 32 underlying79 hi hz0 hz1 hz2 rfl jD _ L _ rfl HO ad K c (XT xs) rfl ?c1 ?c2 ?c3 ?c4 ?c5 ?c6 ?_;(case c1=>exact hfl);(case c2=>exact HX);(case c3=>exact Z);(case c4=>unfold maxLen;omega);(case c5=>omega);(case c6=>exact VS);intro v' w6 I C _;obtain⟨sa,sc,rfl⟩:=ZI I;have J:Z7 w6 M Fq #[.slice va L vc,.int .i64 g.n,.map (some Bm)]:=(C.block M HBk.lt (λe=>HM1 e.symm)).trans HBk;have d0:=J.cell 0;(simp only[au,aM] at d0);have z0:=J.frozen 0)
 have hm6:Zz w6 Bm (Qx g.b):=HMp.kept C (λe=>VE e.symm);have HK:Hid (Zj LO M Bm (w6.setCell ⟨M,0,none⟩ (.slice sa (L+K) sc)) (.slice sa (L+K) sc) (g.put xs)):=⟨Z7.set 0 _ J,by rw[HGL.out,HGF.out];exact KV I J jD,Zz.af2 hm6 (λe=>HMB e.symm),HLo⟩;have T:Hid (Yb LO M Bm w (w6.setCell ⟨M,0,none⟩ (.slice sa (L+K) sc))):=by
  refine⟨(((aG LO w).grown C VS (λr e=>(HO.lt r e).1))).setCell (p:=⟨M,0,none⟩) HLo.1 _,by rw[World.size_setCell];exact C.size,λk o hk h1 h2 h3=> ?_⟩;rw[afc w6 ⟨M,0,none⟩ _ k h1];refine(C.block k (aac.1 hk).1 (λe=> ?_)).trans hk;rcases HO.out.2 with⟨e2,_⟩|⟨g1,c1,cur,e2,_,hg,_⟩;·rw[e2] at e;cases e
  ·rw[e2] at e;have e:k=g1:=aq e;subst e;exact h3 cur _ (aq (hk.symm.trans hg))
 first
  |(go_end0;exact⟨rfl,_,HK,T⟩)
  |(refine aaf (aof rfl _ _ _) rfl ?_;exact⟨rfl,_,HK,T⟩)
  |(go_ret;exact⟨rfl,_,HK,T⟩)
structure V9(g:G):Prop where
 keys:g.b.Pairwise (λp q=>p.1≠q.1)
 Fp:∀p∈g.b,p.1<4294967296/\p.2≠0
 len:g.b.length<=g.n
theorem KS:∀{b:List (Nat×Nat)} {c:Nat},look b c≠0->(c,look b c)∈b
 |[],c,h=>absurd rfl h
 |(d,m)::b,c,h=>by
  unfold look at h ⊢;split;·rename_i e;subst e;exact agd
  ·rename_i e;rw[aN e] at h;exact aff _ (KS h)
theorem Xp:∀{b:List (Nat×Nat)} {c:Nat},(∀p∈b,p.2≠0)->look b c=0->∀p∈b,p.1≠c
 |[],c,_,_,p,hp=>by cases hp
 |(d,m)::b,c,hz,h,p,hp=>by
  unfold look at h;split at h;·exact absurd h (hz (d,m) agd)
  ·rename_i e;rcases abb.1 hp with rfl|hp;·exact e
   ·exact Xp (λq C=>hz q (aff _ C)) h p hp
theorem V9.put{g:G}(h:V9 g)(xs:List Z9):V9 (g.put xs):=⟨h.keys,h.Fp,h.len⟩
theorem V9.here{g:G}(h:V9 g)(m:Nat):V9 (g.here m):=⟨h.keys,h.Fp,h.len⟩
theorem V9.mark{g:G}(h:V9 g):V9 g.mark:=⟨h.keys,h.Fp,Nat.le_succ_of_le h.len⟩
theorem V9.goes{g:G}(h:V9 g){c:Nat}(hc:c<4294967296):V9 (g.goes c):=by
 unfold G.goes;split
 ·rename_i C;refine⟨afb.2 ⟨h.keys,apc _ _,λp hp q D=> ?_⟩,λp hp=> ?_,by rw[ay];exact axb h.len⟩;·rcases aaa.1 D with rfl;exact Xp (λp hp=>(h.Fp p hp).2) C p hp
  ·rcases abf.1 hp with hp|hp;·exact h.Fp p hp
   ·rcases aaa.1 hp with rfl;exact⟨hc,aqe _⟩
 ·exact h
theorem KR:Keyed prog 53:=int_keyed underlying53
theorem xG{c:Nat}(h:c<4294967296):∃l,keyOf prog 53 (.int .u32 c)=some l:=⟨_,keyOf_int_mk underlying53 (by
 show(decide (IntKind.u32.min<=(c:Int))&&decide ((c:Int)<=IntKind.u32.max))=true;rw[show IntKind.u32.min=0 from jD,show IntKind.u32.max=4294967295 from jD];simp only[aef,adf];omega)⟩
theorem Ow{b:List (Nat×Nat)}{p:Value×Value}(hp:p∈Qx b):∃q∈b,p=(.int .u32 q.1,.int .i64 q.2):=by
 obtain⟨q,C,e⟩:=ah.1 hp;exact⟨q,C,e.symm⟩
theorem KQ {c:Nat}{b:List (Nat×Nat)}(h:Zz W Bm (Qx b))(hk:b.Pairwise (λp q=>p.1≠q.1))(hb:∀p∈b,p.1<4294967296/\p.2≠0)(hc:c<4294967296):
 (Instr.lookup 133 (.map (some Bm)) (.int .u32 c) false).run prog W=.ok (.int .i64 ((look b c:Nat):Int)) W:=by
 have hz:∀W,(zeroValue 3).run prog W=.ok (.int .i64 0) W:=λ_=>jK
 have hS:∀p∈Qx b,∃l,keyOf prog 53 p.1=some l:=λp hp=>by obtain⟨q,I,rfl⟩:=Ow hp;exact xG (hb q I).1
 by_cases C:look b c=0
 ·rw[C];refine TX underlying133 KR hz h hS (xG hc) (λp hp e=> ?_);obtain⟨q,I,rfl⟩:=Ow hp;have e:(q.1:Int)=(c:Int):=by injection e
  exact Xp (λp hp=>(hb p hp).2) C q I jO
 ·refine Xq underlying133 KR h hS (xG hc) (ah.2 ⟨(c,look b c),KS C,rfl⟩) ?_;unfold Qx;rw[afa]
  exact hk.imp (λ{p q} D e=>by
   have e:(p.1:Int)=(q.1:Int):=by injection e
   exact D jO)
theorem mr {c:Nat}{b:List (Nat×Nat)}(h:Zz W Bm (Qx b))(hb:∀p∈b,p.1<4294967296/\p.2≠0)(hc:c<4294967296)(J:look b c=0):
 ∃W',(Instr.mapUpdate 133 (.map (some Bm)) (.int .u32 c) (.int .i64 ((m:Int)+1))).run prog W=.ok () W'/\Zz W' Bm (Qx (b++[(c,m+1)]))/\W.grownBy W' (some Bm):=by
 have hS:∀p∈Qx b,∃l,keyOf prog 53 p.1=some l:=λp hp=>by obtain⟨q,C,rfl⟩:=Ow hp;exact xG (hb q C).1
 obtain⟨W',T,D,I⟩:=Vd underlying133 KR h hS (xG hc) (λp hp e=>by
  obtain⟨q,C,rfl⟩:=Ow hp;have e:(q.1:Int)=(c:Int):=by injection e
  exact Xp (λp hp=>(hb p hp).2) J q C jO) (.int .i64 ((m:Int)+1))
 exact⟨W',T,by unfold Qx at D ⊢;rw[ada];exact D,I⟩
theorem Yb.sX(h:w.grownBy w' (some Bm))(I:LO<=Bm)(C:LO<=w.heap.size):Yb LO M Bm w w':=
 ⟨(aG LO w).grown h C (λk e=>by have:=aq e;omega),h.size,λk o hk J D _=>(h.block k (aac.1 hk).1 (λe=>D (aq e))).trans hk⟩
theorem Zj.drew{v:Value}{g:G}(h:Zj LO M Bm w v g):Zj LO M Bm w.drew v g:=⟨h.blk,h.own.drew,h.map,h.lo⟩
theorem Yb.drew(h:Yb LO M Bm w w'):Yb LO M Bm w w'.drew:=⟨h.1.drew,h.2.1,h.2.2⟩
theorem Yb.O3(h:Yb LO M Bm w.drew w'):Yb LO M Bm w w':=(Yb.refl LO M Bm w).drew.trans h
def GB(g:G):Prop:=g.l.length<=900000/\g.n<=900000
structure UY(g g':G):Prop where
 l:g.l.length<=g'.l.length
 n:g.n<=g'.n
theorem UY.refl(g:G):UY g g:=⟨aR _,aR _⟩
theorem UY.trans{a b c:G}(h:UY a b)(k:UY b c):UY a c:=⟨aO h.l k.l,aO h.n k.n⟩
theorem UY.put(g:G)(xs:List Z9):UY g (g.put xs):=⟨by simp[G.put],aR _⟩
theorem UY.here(g:G)(m:Nat):UY g (g.here m):=⟨by simp[G.here],aR _⟩
theorem UY.mark(g:G):UY g g.mark:=⟨aR _,azg _⟩
theorem UY.goes(g:G)(c:Nat):UY g (g.goes c):=by
 unfold G.goes;split;·exact⟨aR _,azg _⟩
 ·exact UY.refl g
theorem GB.back{g g':G}(h:GB g')(l:UY g g'):GB g:=⟨aO l.l h.1,aO l.n h.2⟩
theorem Yb.ar6 {b:World}(h:Yb LO M Bm a b)(J:LO<=M)(j:Nat)(u:Value):Yb LO M Bm a (b.setCell ⟨M,j,none⟩ u):=
 ⟨h.1.setCell (p:=⟨M,j,none⟩) J u,by rw[World.size_setCell];exact h.2.1,λk o hk C I D=>by rw[afc b ⟨M,j,none⟩ u k C];exact h.2.2 k o hk C I D⟩
theorem Zj.al{v:Value}{g:G}(h:Zj LO M Bm w v g)(o:Obj):Zj LO M Bm (w.alloc o) v g:=
 ⟨h.blk.alloc o,h.own.alloc o,h.map.alloc o,h.lo⟩
theorem Vc {v:Value}{g:G}(w:World)(h:Zj LO M Bm w v g)(hn:g.n+1<=1000000):
 Calls prog 49 #[.pointer (some ⟨M,0,none⟩)] w λe w'=>e=.returned (.int .i64 ((g.n:Int)+1))/\Zj LO M Bm w' v g.mark/\Yb LO M Bm w w':=by
 obtain⟨N,hN⟩:=jX g.n;have hb:=h.blk;rw[hN] at hb hn;have c1:=hb.e1;have U:=hb.frozen 1;have T:=jW N;have C:Z7 (w.setCell ⟨M,1,none⟩ (.int .i64 ((N:Int)+1))) M Fq #[v,.int .i64 ((N:Int)+1),.map (some Bm)]:=Z7.set 1 _ hb;have I:Hid (Zj LO M Bm (w.setCell ⟨M,1,none⟩ (.int .i64 ((N:Int)+1))) v g.mark):=⟨by show Z7 _ M Fq #[v,.int .i64 ((g.n+1:Nat):Int),.map (some Bm)];rw[hN];exact C,KV h.own h.blk jD,Zz.af2 h.map (λe=>KT h.blk h.map e.symm),h.lo⟩;have D:=aT ((Yb.refl LO M Bm w).ar6 h.lo.1 1 (.int .i64 ((N:Int)+1)));have Y:=C.e1;have J:=aT hN;clear hb C h hN;go_enter func49,ntmps49;go_wp2_with fail;go_ret;exact⟨by rw[J.out];rfl,I,D⟩
theorem YW {v:Value}{g:G}{xs:List Z9}{cs:Array Value}{n c:Nat}(w:World)(h:Zj LO M Bm w v g)(hcs:cs.toList=XT xs)(hn:xs.length=n)(hlen:g.l.length+n<=1000000)(C:LO<=w.heap.size):
 Calls prog 47 #[.pointer (some ⟨M,0,none⟩),.slice (some ⟨w.heap.size,0,none⟩) n c] (w.alloc (.cells cs Wc)) λe w'=>e=.returned (.tuple #[])/\∃v',Zj LO M Bm w' v' (g.put xs)/\Yb LO M Bm w w':=by
 subst hn;refine(my (xs:=xs) (ad:=⟨w.heap.size,0,none⟩) (c:=c) (w.alloc (.cells cs Wc)) (h.al _) (λj u J=> ?_) hlen (by rw[aj];omega)).mono ?_;·have e:=(Z7.new w Wc cs).cell j;rw[show(⟨w.heap.size,0,none⟩:Addr).add j=⟨w.heap.size,j,none⟩ by simp[Addr.add];omega,e,<-aga,hcs,J]
 ·rintro e w' ⟨rfl,v',I,D⟩;exact⟨rfl,v',I,(Yb.alloc _ C).trans D⟩
theorem KP {v:Value}{g:G} (w:World)(h:Zj LO M Bm w v g)(hl:g.l.length+1<=1000000)(C:LO<=w.heap.size):
 Calls prog 53 #[.pointer (some ⟨M,0,none⟩),.int .i64 m] w λe w'=>e=.returned (.tuple #[])/\∃v',Zj LO M Bm w' v' (g.here m)/\Yb LO M Bm w w':=by
 have J:=aT h;clear h;go_enter func53,ntmps53
 go_wp2_with (refine Great.wpList_buildSliceTo rfl 79 Wc 1 _ rfl _ rfl _ rfl underlying79 #[.int .i64 m,.int .u16 0,.int .u32 0,.int .i64 0,.int .i64 0] jK ?_)
 refine(YW (xs:=[Zq m]) w J rfl rfl hl C).mono ?_;rintro e w' ⟨rfl,v',I,D⟩;have T:=aT I;have U:=aT D;clear I D;go_wp2_with fail;go_end0;exact⟨rfl,v',T,U⟩
theorem TW {v:Value}{g:G}{c:Nat}(w:World)(h:Zj LO M Bm w v g)(hg:V9 g)(hc:c<4294967296)(hn:(g.goes c).n<=1000000)(VS:LO<=w.heap.size):
 Calls prog 50 #[.pointer (some ⟨M,0,none⟩),.int .u32 c] w λe w'=>e=.returned (.int .i64 ((look (g.goes c).b c:Nat):Int))/\Zj LO M Bm w' v (g.goes c)/\Yb LO M Bm w w':=by
 have hb:=h.blk;have c2:=hb.e2;have HH:=aT h;have HG:=aT hg;have LK:=aT (λW h=>KQ (c:=c) (W:=W) (Bm:=Bm) (b:=g.b) h hg.keys hg.Fp hc);have lk:=LK w h.map;clear hb h hg;by_cases J:look g.b c=0
 ·have T:g.goes c=⟨g.l,g.n+1,g.b++[(c,g.n+1)]⟩:=by unfold G.goes;rw[aF J]
  rw[T] at hn ⊢;rw[J] at lk;have HC:Hid (∀W:World,∀{v g},Zj LO M Bm W v g->W.cell? ⟨M,2,none⟩=some (.map (some Bm))):=λW v g h=>by have:=h.blk.cell 2;simpa using this
  have Y:Hid (∀W:World,Zz W Bm (Qx g.b)->_):=λW h=>mr h HG.Fp hc J (m:=g.n)
  go_enter func50,ntmps50;go_upto_region 2 with fail;clear lk c2
  go_region_held3 (λw'=>w'.cell? ⟨M,2,none⟩=some (.map (some Bm))) (first|exact HC _ HH.drew|(with_reducible assumption)) (first
   |(go_at_call 49
     refine(Vc _ HH.drew hn).mono ?_;rintro e w1 ⟨rfl,C,f1⟩;have HH1:=aT C;have sW:=aT f1;obtain⟨w2,u2,m2,g2⟩:=Y w1 C.map;have U:Z7 w2 M Fq #[v,.int .i64 ((g.n+1:Nat):Int),.map (some Bm)]:=C.blk.kept g2 (λe=>KT C.blk C.map (aq e));have nD:w2.cell? ⟨M,2,none⟩=some (.map (some Bm)):=by simpa using U.cell 2
     have Z:Hid (Zj LO M Bm w2 v ⟨g.l,g.n+1,g.b++[(c,g.n+1)]⟩):=⟨U,C.own.kept g2 (.inr (KU C.own C.map)),m2,C.lo⟩;have LF:Hid (Yb LO M Bm w1 w2):=Yb.sX g2 C.lo.2 (aO VS f1.2.1);have Tt:=HC _ C;clear C f1 m2 g2))
  have hlk:look (g.b++[(c,g.n+1)]) c=g.n+1:=by rw[Rx _ _ _ _ J (λp hp=>(HG.out.Fp p hp).2),aF rfl]
  have I:V9 ⟨g.l,g.n+1,g.b++[(c,g.n+1)]⟩:=by rw[<-T];exact HG.goes hc
  have D:=KQ Z.map I.keys I.Fp hc;dsimp only at D;rw[hlk] at D;simp only[ave,aza] at D;clear HC Y LK I T U HH1;go_wp2_with fail;go_ret;exact⟨by dsimp only;rw[hlk];rfl,Z,(sW.trans LF).O3⟩
 ·have e0:g.goes c=g:=by unfold G.goes;rw[aN J]
  rw[e0];obtain⟨L,hL⟩:=jX (look g.b c);rw[hL] at J lk ⊢;have hne:((L:Int) == 0)=false:=by simpa using J
  clear e0;go_enter func50,ntmps50;go_wp2_with fail;go_ret;exact⟨rfl,HH,Yb.refl _ _ _ _⟩
end Go.Proofs.YtclgigmgbebhgaaGreatDoor
namespace Go.Proofs.YtclgigmgbebhgaaGreatDoor
open Tryz
open Go Go.Proofs Go.RowKit
variable {LO M Bm:Nat}
theorem Gy(g:G)(a b:List Z9):(g.put a).put b=g.put (a++b):=by unfold G.put;simp
def UT(lA hA ll hh ml mh:Nat)(wide:Bool)(yes no:Int):Array Value:=#[.int .u32 lA,.int .u32 hA,.int .u32 ll,.int .u32 hh,.int .u32 ml,.int .u32 mh,.bool wide,.int .i64 yes,.int .i64 no]
def VC(LO M Bm:Nat)(g:G)(w:World)(xs:List Z9):Ending->World->Prop:=λe w'=>e=.returned (.tuple #[])/\∃v',Zj LO M Bm w' v' (g.put xs)/\Yb LO M Bm w w'
theorem En{LO M Bm:Nat}{v:Value}{g:G}(I hA D T ml Z:Nat)(wide:Bool)(yes no:Int)(w:World)(h:Zj LO M Bm w v g)(hl:g.l.length+4<=1000000)(VS:LO<=w.heap.size):
 Calls prog 309 #[.pointer (some ⟨M,0,none⟩),.agg (UT I hA D T ml Z wide yes no)] w (VC LO M Bm g w (Ry hA I T D wide yes no)):=by
 have Cl:=Z7.new w 391 (UT I hA D T ml Z wide yes no);have J:=aT Cl;have HH:=aT (h.al (.cells (UT I hA D T ml Z wide yes no) 391));have HF:=aT (Yb.alloc (LO:=LO) (M:=M) (Bm:=Bm) (a:=w) (.cells (UT I hA D T ml Z wide yes no) 391) VS);have hNM:w.heap.size≠M:=λe=>by have:=h.blk.lt;omega
 have nC:w.heap.size≠Bm:=λe=>by have:=h.map.lt;omega
 have hs:LO<=(w.alloc (.cells (UT I hA D T ml Z wide yes no) 391)).heap.size:=by rw[aj];omega
 clear Cl h;unfold VC;unfold UT at*;go_enter func309,ntmps309;go_upto_region 1 with fail;generalize hwx:w.alloc (.cells #[.int .u32 I,.int .u32 hA,.int .u32 D,.int .u32 T,.int .u32 ml,.int .u32 Z,.bool wide,.int .i64 yes,.int .i64 no] 391)=wx at*;clear hwx;have c0:=J.cell 0;have c1:=J.cell 1;have c2:=J.cell 2;have c3:=J.cell 3;have c4:=J.cell 4;have c5:=J.cell 5;have c6:=J.cell 6;have c7:=J.cell 7;have c8:=J.cell 8;simp only[UT,au,aM,aH] at c0 c1 c2 c3 c4 c5 c6 c7 c8;cases wide with
 |true=>
  go_wp2_with (refine Great.wpList_buildSliceTo rfl 79 Wc 2 _ rfl _ rfl _ rfl underlying79 #[.int .i64 0,.int .u16 32,.int .u32 hA,.int .i64 0,.int .i64 0,.int .i64 0,.int .u16 21,.int .u32 T,.int .i64 0,.int .i64 no] jK ?_)
  refine(YW (xs:=[ins 32 hA 0 0,ins 21 T 0 no]) wx HH rfl rfl (by show _+2<=_;omega) hs).mono ?_;rintro e w2 ⟨rfl,v2,h2,f2⟩;have LD:=aT h2;have LF:=aT (HF.trans f2);have C:=aT (f2.blk J hNM nC jD);have hs2:=aO hs f2.2.1;clear h2 f2 c0 c1 c2 c3 c4 c5 c6 c7 c8;have d0:=C.cell 0;have d1:=C.cell 1;have d2:=C.cell 2;have d3:=C.cell 3;have d4:=C.cell 4;have d5:=C.cell 5;have d6:=C.cell 6;have d7:=C.cell 7;have d8:=C.cell 8;simp only[UT,au,aM,aH] at d0 d1 d2 d3 d4 d5 d6 d7 d8
  go_wp2_with (refine Great.wpList_buildSliceTo rfl 79 Wc 2 _ rfl _ rfl _ rfl underlying79 #[.int .i64 0,.int .u16 32,.int .u32 I,.int .i64 0,.int .i64 0,.int .i64 0,.int .u16 21,.int .u32 D,.int .i64 yes,.int .i64 no] jK ?_)
  refine(YW (xs:=[ins 32 I 0 0,ins 21 D yes no]) w2 LD rfl rfl (by show(g.l++_).length+2<=_;rw[ay];show _+2+_<=_;omega) hs2).mono ?_;rintro e w3 ⟨rfl,v3,h3,f3⟩;rw[Gy] at h3;have Y:=aT h3;have U:=aT (LF.trans f3);clear h3 f3;go_wp2_with fail;go_end0;exact⟨rfl,v3,Y,U⟩
 |false=>
  go_wp2_with (refine Great.wpList_buildSliceTo rfl 79 Wc 2 _ rfl _ rfl _ rfl underlying79 #[.int .i64 0,.int .u16 32,.int .u32 I,.int .i64 0,.int .i64 0,.int .i64 0,.int .u16 21,.int .u32 D,.int .i64 yes,.int .i64 no] jK ?_)
  refine(YW (xs:=[ins 32 I 0 0,ins 21 D yes no]) wx HH rfl rfl (by show _+2<=_;omega) hs).mono ?_;rintro e w3 ⟨rfl,v3,h3,f3⟩;have Y:=aT h3;have U:=aT (HF.trans f3);clear h3 f3;go_wp2_with fail;go_end0;exact⟨rfl,v3,Y,U⟩
theorem IG{LO M Bm:Nat}{v:Value}{g:G}(J hA I D ml Z:Nat)(wide:Bool)(yes no:Int)(w:World)(h:Zj LO M Bm w v g)(hl:g.l.length+5<=1000000)(VS:LO<=w.heap.size):
 Calls prog 312 #[.pointer (some ⟨M,0,none⟩),.agg (UT J hA I D ml Z wide yes no)] w (VC LO M Bm g w (Vh hA J D I wide yes no)):=by
 have Cl:=Z7.new w 391 (UT J hA I D ml Z wide yes no);have T:=aT Cl;have HH:=aT (h.al (.cells (UT J hA I D ml Z wide yes no) 391));have HF:=aT (Yb.alloc (LO:=LO) (M:=M) (Bm:=Bm) (a:=w) (.cells (UT J hA I D ml Z wide yes no) 391) VS);have hNM:w.heap.size≠M:=λe=>by have:=h.blk.lt;omega
 have nC:w.heap.size≠Bm:=λe=>by have:=h.map.lt;omega
 have hs:LO<=(w.alloc (.cells (UT J hA I D ml Z wide yes no) 391)).heap.size:=by rw[aj];omega
 clear Cl h;unfold VC;unfold UT at*;go_enter func312,ntmps312;go_upto_region 1 with fail;generalize hwx:w.alloc (.cells #[.int .u32 J,.int .u32 hA,.int .u32 I,.int .u32 D,.int .u32 ml,.int .u32 Z,.bool wide,.int .i64 yes,.int .i64 no] 391)=wx at*;clear hwx;have c0:=T.cell 0;have c1:=T.cell 1;have c2:=T.cell 2;have c3:=T.cell 3;have c4:=T.cell 4;have c5:=T.cell 5;have c6:=T.cell 6;have c7:=T.cell 7;have c8:=T.cell 8;simp only[UT,au,aM,aH] at c0 c1 c2 c3 c4 c5 c6 c7 c8;cases wide with
 |true=>
  go_wp2_with (refine Great.wpList_buildSliceTo rfl 79 Wc 3 _ rfl _ rfl _ rfl underlying79 #[.int .i64 0,.int .u16 32,.int .u32 hA,.int .i64 0,.int .i64 0,.int .i64 0,.int .u16 37,.int .u32 D,.int .i64 yes,.int .i64 0,.int .i64 0,.int .u16 21,.int .u32 D,.int .i64 0,.int .i64 no] jK ?_)
  refine(YW (xs:=[ins 32 hA 0 0,ins 37 D yes 0,ins 21 D 0 no]) wx HH rfl rfl (by show _+3<=_;omega) hs).mono ?_;rintro e w2 ⟨rfl,v2,h2,f2⟩;have LD:=aT h2;have LF:=aT (HF.trans f2);have C:=aT (f2.blk T hNM nC jD);have hs2:=aO hs f2.2.1;clear h2 f2 c0 c1 c2 c3 c4 c5 c6 c7 c8;have d0:=C.cell 0;have d1:=C.cell 1;have d2:=C.cell 2;have d3:=C.cell 3;have d4:=C.cell 4;have d5:=C.cell 5;have d6:=C.cell 6;have d7:=C.cell 7;have d8:=C.cell 8;simp only[UT,au,aM,aH] at d0 d1 d2 d3 d4 d5 d6 d7 d8
  go_wp2_with (refine Great.wpList_buildSliceTo rfl 79 Wc 2 _ rfl _ rfl _ rfl underlying79 #[.int .i64 0,.int .u16 32,.int .u32 J,.int .i64 0,.int .i64 0,.int .i64 0,.int .u16 53,.int .u32 I,.int .i64 yes,.int .i64 no] jK ?_)
  refine(YW (xs:=[ins 32 J 0 0,ins 53 I yes no]) w2 LD rfl rfl (by show(g.l++_).length+2<=_;rw[ay];show _+3+_<=_;omega) hs2).mono ?_;rintro e w3 ⟨rfl,v3,h3,f3⟩;rw[Gy] at h3;have Y:=aT h3;have U:=aT (LF.trans f3);clear h3 f3;go_wp2_with fail;go_end0;exact⟨rfl,v3,Y,U⟩
 |false=>
  go_wp2_with (refine Great.wpList_buildSliceTo rfl 79 Wc 2 _ rfl _ rfl _ rfl underlying79 #[.int .i64 0,.int .u16 32,.int .u32 J,.int .i64 0,.int .i64 0,.int .i64 0,.int .u16 53,.int .u32 I,.int .i64 yes,.int .i64 no] jK ?_)
  refine(YW (xs:=[ins 32 J 0 0,ins 53 I yes no]) wx HH rfl rfl (by show _+2<=_;omega) hs).mono ?_;rintro e w3 ⟨rfl,v3,h3,f3⟩;have Y:=aT h3;have U:=aT (HF.trans f3);clear h3 f3;go_wp2_with fail;go_end0;exact⟨rfl,v3,Y,U⟩
theorem BZ{LO M Bm:Nat}{v:Value}{g:G}(J hA D U I Y:Nat)(wide:Bool)(yes no:Int)(w:World)(h:Zj LO M Bm w v g)(hl:g.l.length+6<=1000000)(VS:LO<=w.heap.size):
 Calls prog 313 #[.pointer (some ⟨M,0,none⟩),.agg (UT J hA D U I Y wide yes no)] w (VC LO M Bm g w (MG hA J U D Y I wide yes no)):=by
 have Cl:=Z7.new w 391 (UT J hA D U I Y wide yes no);have T:=aT Cl;have HH:=aT (h.al (.cells (UT J hA D U I Y wide yes no) 391));have HF:=aT (Yb.alloc (LO:=LO) (M:=M) (Bm:=Bm) (a:=w) (.cells (UT J hA D U I Y wide yes no) 391) VS);have hNM:w.heap.size≠M:=λe=>by have:=h.blk.lt;omega
 have nC:w.heap.size≠Bm:=λe=>by have:=h.map.lt;omega
 have hs:LO<=(w.alloc (.cells (UT J hA D U I Y wide yes no) 391)).heap.size:=by rw[aj];omega
 clear Cl h;unfold VC;unfold UT at*;go_enter func313,ntmps313;go_upto_region 1 with fail;generalize hwx:w.alloc (.cells #[.int .u32 J,.int .u32 hA,.int .u32 D,.int .u32 U,.int .u32 I,.int .u32 Y,.bool wide,.int .i64 yes,.int .i64 no] 391)=wx at*;clear hwx;have c0:=T.cell 0;have c1:=T.cell 1;have c2:=T.cell 2;have c3:=T.cell 3;have c4:=T.cell 4;have c5:=T.cell 5;have c6:=T.cell 6;have c7:=T.cell 7;have c8:=T.cell 8;simp only[UT,au,aM,aH] at c0 c1 c2 c3 c4 c5 c6 c7 c8;cases wide with
 |true=>
  go_wp2_with (refine Great.wpList_buildSliceTo rfl 79 Wc 3 _ rfl _ rfl _ rfl underlying79 #[.int .i64 0,.int .u16 32,.int .u32 hA,.int .i64 0,.int .i64 0,.int .i64 0,.int .u16 84,.int .u32 Y,.int .i64 0,.int .i64 0,.int .i64 0,.int .u16 21,.int .u32 U,.int .i64 0,.int .i64 no] jK ?_)
  refine(YW (xs:=[ins 32 hA 0 0,ins 84 Y 0 0,ins 21 U 0 no]) wx HH rfl rfl (by show _+3<=_;omega) hs).mono ?_;rintro e w2 ⟨rfl,v2,h2,f2⟩;have LD:=aT h2;have LF:=aT (HF.trans f2);have C:=aT (f2.blk T hNM nC jD);have hs2:=aO hs f2.2.1;clear h2 f2 c0 c1 c2 c3 c4 c5 c6 c7 c8;have d0:=C.cell 0;have d1:=C.cell 1;have d2:=C.cell 2;have d3:=C.cell 3;have d4:=C.cell 4;have d5:=C.cell 5;have d6:=C.cell 6;have d7:=C.cell 7;have d8:=C.cell 8;simp only[UT,au,aM,aH] at d0 d1 d2 d3 d4 d5 d6 d7 d8
  go_wp2_with (refine Great.wpList_buildSliceTo rfl 79 Wc 3 _ rfl _ rfl _ rfl underlying79 #[.int .i64 0,.int .u16 32,.int .u32 J,.int .i64 0,.int .i64 0,.int .i64 0,.int .u16 84,.int .u32 I,.int .i64 0,.int .i64 0,.int .i64 0,.int .u16 21,.int .u32 D,.int .i64 yes,.int .i64 no] jK ?_)
  refine(YW (xs:=[ins 32 J 0 0,ins 84 I 0 0,ins 21 D yes no]) w2 LD rfl rfl (by show(g.l++_).length+3<=_;rw[ay];show _+3+_<=_;omega) hs2).mono ?_;rintro e w3 ⟨rfl,v3,h3,f3⟩;rw[Gy] at h3;have zt:=aT h3;have Z:=aT (LF.trans f3);clear h3 f3;go_wp2_with fail;go_end0;exact⟨rfl,v3,zt,Z⟩
 |false=>
  go_wp2_with (refine Great.wpList_buildSliceTo rfl 79 Wc 3 _ rfl _ rfl _ rfl underlying79 #[.int .i64 0,.int .u16 32,.int .u32 J,.int .i64 0,.int .i64 0,.int .i64 0,.int .u16 84,.int .u32 I,.int .i64 0,.int .i64 0,.int .i64 0,.int .u16 21,.int .u32 D,.int .i64 yes,.int .i64 no] jK ?_)
  refine(YW (xs:=[ins 32 J 0 0,ins 84 I 0 0,ins 21 D yes no]) wx HH rfl rfl (by show _+3<=_;omega) hs).mono ?_;rintro e w3 ⟨rfl,v3,h3,f3⟩;have zt:=aT h3;have Z:=aT (HF.trans f3);clear h3 f3;go_wp2_with fail;go_end0;exact⟨rfl,v3,zt,Z⟩
theorem BX {v:Value}{g:G}(I hA D C T J:Nat)(wide:Bool)(yes no:Int)(w:World)(h:Zj LO M Bm w v g)(hl:g.l.length+4<=1000000)(VS:LO<=w.heap.size):
 Calls prog 310 #[.pointer (some ⟨M,0,none⟩),.agg (UT I hA D C T J wide yes no)] w (VC LO M Bm g w (Ry hA I C D wide no yes)):=by
 have XX:Hid (Z7 (w.alloc (.cells (UT I hA D C T J wide no yes) 391)) w.heap.size 391 (UT I hA D C T J wide no yes)):=Z7.new w _ _;have zt:=aT (h.al (.cells (UT I hA D C T J wide no yes) 391));have Z:=aT (Yb.alloc (LO:=LO) (M:=M) (Bm:=Bm) (a:=w) (.cells (UT I hA D C T J wide no yes) 391) VS);have hs:LO<=(w.alloc (.cells (UT I hA D C T J wide no yes) 391)).heap.size:=by rw[aj];omega
 clear h;unfold VC;unfold UT at*;go_enter func310,ntmps310;go_upto_region 2 with fail;generalize Y:w.alloc (.cells #[.int .u32 I,.int .u32 hA,.int .u32 D,.int .u32 C,.int .u32 T,.int .u32 J,.bool wide,.int .i64 no,.int .i64 yes] 391)=wx at*;clear Y;obtain⟨c0,c1,c2,c3,c4,c5,c6,c7,c8⟩:=XX.q9;go_wp2_with fail;refine(En I hA D C T J wide no yes wx zt jO hs).mono ?_;rintro e w3 ⟨rfl,v3,h3,f3⟩;have xE:=aT h3;have U:=aT (Z.trans f3);clear h3 f3;go_wp2_with fail;go_end0;exact⟨rfl,v3,xE,U⟩
theorem Nr {v:Value}{g:G}(I hA D C T J:Nat)(wide:Bool)(yes no:Int)(w:World)(h:Zj LO M Bm w v g)(hl:g.l.length+5<=1000000)(VS:LO<=w.heap.size):
 Calls prog 311 #[.pointer (some ⟨M,0,none⟩),.agg (UT I hA D C T J wide yes no)] w (VC LO M Bm g w (Vh hA I C D wide no yes)):=by
 have XX:Hid (Z7 (w.alloc (.cells (UT I hA D C T J wide no yes) 391)) w.heap.size 391 (UT I hA D C T J wide no yes)):=Z7.new w _ _;have zt:=aT (h.al (.cells (UT I hA D C T J wide no yes) 391));have Z:=aT (Yb.alloc (LO:=LO) (M:=M) (Bm:=Bm) (a:=w) (.cells (UT I hA D C T J wide no yes) 391) VS);have hs:LO<=(w.alloc (.cells (UT I hA D C T J wide no yes) 391)).heap.size:=by rw[aj];omega
 clear h;unfold VC;unfold UT at*;go_enter func311,ntmps311;go_upto_region 2 with fail;generalize Y:w.alloc (.cells #[.int .u32 I,.int .u32 hA,.int .u32 D,.int .u32 C,.int .u32 T,.int .u32 J,.bool wide,.int .i64 no,.int .i64 yes] 391)=wx at*;clear Y;obtain⟨c0,c1,c2,c3,c4,c5,c6,c7,c8⟩:=XX.q9;go_wp2_with fail;refine(IG I hA D C T J wide no yes wx zt jO hs).mono ?_;rintro e w3 ⟨rfl,v3,h3,f3⟩;have xE:=aT h3;have U:=aT (Z.trans f3);clear h3 f3;go_wp2_with fail;go_end0;exact⟨rfl,v3,xE,U⟩
end Go.Proofs.YtclgigmgbebhgaaGreatDoor
namespace Go.Proofs.YtclgigmgbebhgaaGreatDoor
open Tryz
open Go Go.Proofs Go.RowKit Go.Maps Go.WideMaps Go.ChangeMaps
structure Nq(w0:World)(b:Nat)(w:World)(S:List (Value×Value)):Prop where
 map:Zz w b S
 grown:w0.grownBy w (some b)
theorem Tq(w:World)(row:Option Nat):w.grownBy w row:=⟨rfl,rfl,rfl,aR _,λ_ _ _=>rfl⟩
theorem Zf{a b c:World}{row:Option Nat}(h:a.grownBy b row)(k:b.grownBy c row):a.grownBy c row:=
 ⟨k.os.trans h.os,k.tape.trans h.tape,k.output.trans h.output,aO h.size k.size,λi hi C=>(k.block i (adg hi h.size) C).trans (h.block i hi C)⟩
theorem Nq.made(w:World):Nq w w.heap.size (w.alloc (.map #[] 0)) []:=⟨Zz.made w,aeb w _ _⟩
section
variable {P:Program} {ops:Array Oper} {rest:List Oper} {o:Oper} {a:Act} {w:World} {Q:Exit->Act->World->Prop}
theorem YR(U:o.guard=none)(D:o.dst=none)(t:TypeId)(m x y:Operand)(I:o.op=Op.insert t m x y)(k e:TypeId)(K:Keyed P k)(ht:P.underlying t=some (.map k e))(w0:World)(b:Nat)(S:List (Value×Value))(J:Nq w0 b w S)
 (hm:a.eval m=.map (some b)) (C v:Value) (hx:a.eval x=C) (hy:a.eval y=v) (hS:∀p∈S,∃l,keyOf P k p.1=some l) (hk:∃l,keyOf P k C=some l) (hn:∀p∈S,p.1≠C)
 (T:∀w',Nq w0 b w' (S++[(C,v)])->wpList P ops Q rest a w'):wpList P ops Q (o::rest) a w:=by
 refine wpList_plain U λK' hK'=> ?_
 obtain⟨w',h1,Y,Z⟩:=Vd ht K J.map hS hk hn v;unfold Oper.wp;simp[execOp,I,hm,hx,hy,h1,Result.andThen];refine hK' _ _ ?_;rw[D];exact(T w' ⟨Y,Zf J.grown Z⟩)
end
def af3(q:IntKind)(p:Value×Value):Bool:=match p.1 with | .int q' n=>q' == q&&(Lit.int q n).wf|_=>false
def mq(k:Int)(p:Value×Value):Bool:=match p.1 with | .int _ n=> !(n == k)|_=>false
theorem Ru{P:Program}{t:TypeId}{q:IntKind}(hk:P.underlying t=some (.int q)){S:List (Value×Value)}(h:S.all (af3 q)=true):∀p∈S,∃l,keyOf P t p.1=some l:=by
 intro p hp;have C:=ajg.1 h p hp;obtain⟨x,y⟩:=p;unfold af3 at C;dsimp only at C ⊢;split at C
 ·rename_i D n;rw[aef] at C;obtain rfl:D=q:=by simpa using C.1
  exact⟨_,keyOf_int_mk hk C.2⟩
 ·cases C
theorem KO{S:List (Value×Value)}{q:IntKind}{k:Int}(h:S.all (mq k)=true):∀p∈S,p.1≠.int q k:=by
 intro p hp e;have C:=ajg.1 h p hp;obtain⟨x,y⟩:=p;dsimp only at e;subst e;simp[mq] at C
end Go.Proofs.YtclgigmgbebhgaaGreatDoor
namespace Go.Proofs.YtclgigmgbebhgaaGreatDoor
open Tryz
open Go Go.Proofs
def YN:Nat:=18446744073709551616
def UX:Nat:=4294967296
def Gx(o m v x:Nat):Bool:=if o=1 then x == v else if o=2 then x != v else if o=3 then decide (x<v) else if o=4 then decide (x<=v) else if o=5 then decide (v<x) else if o=6 then decide (v<=x) else(x &&& m) == v
inductive Yq where
 |asks (c:Z5)
 |always
 |never
def Ye(c:Z5)(v:Nat):Yq:=if v=0 then .never else if v=1 then .asks ⟨c.a,1,0,0⟩ else .asks ⟨c.a,3,0,v⟩
def Xy(c:Z5)(v:Nat):Yq:=if v=0 then .always else if v=YN-1 then .asks ⟨c.a,1,0,v⟩ else .asks ⟨c.a,6,0,v⟩
def WC(c:Z5):Yq:=if (c.v &&& c.m)≠c.v then .never else if c.m=0 then .always else if c.m=YN-1 then .asks ⟨c.a,1,0,c.v⟩ else .asks c
def Xj(c:Z5):Yq:=
 if c.o=1\/c.o=2 then .asks c
 else if c.o=3 then Ye c c.v
 else if c.o=4 then(if c.v=YN-1 then .always else Ye c (c.v+1))
 else if c.o=5 then(if c.v=YN-1 then .never else Xy c (c.v+1))
 else if c.o=6 then Xy c c.v
 else WC c
def Z5.right(c:Z5):Prop:=c.a<=5/\(1<=c.o/\c.o<=7)/\(c.o=7\/c.m=0)/\c.m<YN/\c.v<YN
def Yq.holds:Yq->Nat->Bool
 | .asks c,x=>Gx c.o c.m c.v x
 | .always,_=>true
 | .never,_=>false
def Z5.nf(c:Z5):Prop:=c.a<=5/\(c.o=1\/c.o=2\/c.o=3\/c.o=6\/c.o=7)/\(c.o=7\/c.m=0)/\c.m<YN/\c.v<YN
def Yq.nf:Yq->Nat->Prop
 | .asks c,a=>c.nf/\c.a=a
 | .always,_=>True
 | .never,_=>True
theorem zr{o m v x:Nat}(h:o=1\/o=2\/o=3\/o=6\/o=7):Gx o m v x=opH o m v x:=by
 rcases h with rfl|rfl|rfl|rfl|rfl<;>rfl
theorem Em{c:Z5}(ha:c.a<=5){v:Nat}(hv:v<YN):(Ye c v).nf c.a/\∀x,x<YN->(Ye c v).holds x=decide (x<v):=by
 unfold Ye;split;·rename_i h;exact⟨trivial,λx _=>by rw[h];rfl⟩
 ·split;·rename_i h;refine⟨⟨⟨ha,.inl rfl,.inr rfl,by show(0:Nat)<YN;decide,by show(0:Nat)<YN;decide⟩,rfl⟩,λx _=> ?_⟩;show(x == 0)=decide (x<v);rw[h,ajd,ahc,adf];omega
  ·exact⟨⟨⟨ha,.inr (.inr (.inl rfl)),.inr rfl,by show(0:Nat)<YN;decide,hv⟩,rfl⟩,λx _=>rfl⟩
theorem zq{c:Z5}(ha:c.a<=5){v:Nat}(hv:v<YN):(Xy c v).nf c.a/\∀x,x<YN->(Xy c v).holds x=decide (v<=x):=by
 unfold Xy;split;·rename_i h;exact⟨trivial,λx _=>by rw[h];simp[Yq.holds]⟩
 ·split;·rename_i h;refine⟨⟨⟨ha,.inl rfl,.inr rfl,by show(0:Nat)<YN;decide,hv⟩,rfl⟩,λx hx=> ?_⟩;show(x == v)=decide (v<=x);rw[ajd];simp;omega
  ·exact⟨⟨⟨ha,.inr (.inr (.inr (.inl rfl))),.inr rfl,by show(0:Nat)<YN;decide,hv⟩,rfl⟩,λx _=>rfl⟩
theorem mn{x:Nat}(hx:x<YN):x &&& (YN-1)=x:=by
 have:=Nat.and_two_pow_sub_one_eq_mod x 64;rw[show(2:Nat) ^ 64=YN from jD] at this;rw[this,alg hx]
theorem mm{c:Z5}(h:c.right)(ho:c.o=7):(WC c).nf c.a/\∀x,x<YN->(WC c).holds x=((x &&& c.m) == c.v):=by
 obtain⟨ha,_,_,hm,hv⟩:=h;unfold WC;split
 ·rename_i hn;refine⟨trivial,λx _=> ?_⟩;show false=_
  symm
  rw[af];intro e;apply hn;rw[<-e,Nat.and_assoc,Nat.and_self]
 ·rename_i hn;have hn:(c.v &&& c.m)=c.v:=Classical.not_not.1 hn;split;·rename_i D;refine⟨trivial,λx _=> ?_⟩;rw[D,Nat.and_zero] at hn ⊢;rw[<-hn];rfl
  ·split;·rename_i C;refine⟨⟨⟨ha,.inl rfl,.inr rfl,by show(0:Nat)<YN;decide,hv⟩,rfl⟩,λx hx=> ?_⟩;show(x == c.v)=_;rw[C,mn hx]
   ·refine⟨⟨⟨ha,.inr (.inr (.inr (.inr ho))),.inl ho,hm,hv⟩,rfl⟩,λx _=> ?_⟩;show Gx c.o c.m c.v x=_;rw[ho];rfl
theorem Gw{c:Z5}(h:c.right):(Xj c).nf c.a/\∀x,x<YN->(Xj c).holds x=Gx c.o c.m c.v x:=by
 obtain⟨ha,ho,I,hm,hv⟩:=id h;unfold Xj;have C:c.o=1\/c.o=2\/c.o=3\/c.o=4\/c.o=5\/c.o=6\/c.o=7:=jO;rcases C with e|e|e|e|e|e|e
 ·rw[aF (.inl e)];exact⟨⟨⟨ha,.inl e,I,hm,hv⟩,rfl⟩,λx _=>rfl⟩
 ·rw[aF (.inr e)];exact⟨⟨⟨ha,.inr (.inl e),I,hm,hv⟩,rfl⟩,λx _=>rfl⟩
 ·rw[aN jO,aF e,e];exact Em ha hv
 ·rw[aN jO,aN jO,aF e,e];split;·rename_i D;refine⟨trivial,λx hx=> ?_⟩;show true=decide (x<=c.v);rw[D];simp;omega
  ·rename_i D;obtain⟨T,J⟩:=Em (c:=c) ha (v:=c.v+1) (by unfold YN at*;omega);refine⟨T,λx hx=> ?_⟩;rw[J x hx];show decide (x<c.v+1)=decide (x<=c.v);rw[ajd];simp;omega
 ·rw[aN jO,aN jO,aN jO,aF e,e];split
  ·rename_i D;refine⟨trivial,λx hx=> ?_⟩;show false=decide (c.v<x);rw[D]
   symm
   rw[apd];omega
  ·rename_i D;obtain⟨T,J⟩:=zq (c:=c) ha (v:=c.v+1) (by unfold YN at*;omega);refine⟨T,λx hx=> ?_⟩;rw[J x hx];rfl
 ·rw[aN jO,aN jO,aN jO,aN jO,aF e,e];exact zq ha hv
 ·rw[aN jO,aN jO,aN jO,aN jO,aN jO,e];exact mm h e
def Zi(c:Z5):Yq:=
 if UX-1<c.v then(if c.o=2\/c.o=3 then .always else .never)
 else if c.o≠7 then .asks c
 else if c.m%UX=0 then .always
 else .asks ⟨c.a,c.o,c.m%UX,c.v⟩
theorem Gv{x m:Nat}(hx:x<UX):x &&& m=x &&& (m%UX):=by
 have C:(x &&& m)%UX=x%UX &&& m%UX:=by have:=Nat.and_mod_two_pow (a:=x) (b:=m) (n:=32);simpa [UX] using this
 have D:x &&& m<=x:=Nat.and_le_left;rw[alg hx,alg (azb D hx)] at C;exact C
def Z5.kept(c:Z5):Prop:=c.o=7->(c.v &&& c.m)=c.v
theorem Np{c:Z5}(h:c.nf)(hk:c.kept):(∀x,x<UX->(Zi c).holds x=Gx c.o c.m c.v x)/\(match Zi c with | .asks n=>n.nf/\n.a=c.a/\n.v<UX/\n.m<UX|_=>True):=by
 obtain⟨ha,ho,Y,hm,hv⟩:=id h;unfold Zi;split
 ·rename_i Z;split
  ·rename_i J;refine⟨λx hx=> ?_,trivial⟩;show true=Gx c.o c.m c.v x;rcases J with e|e<;>rw[e]
   ·show true=(x != c.v)
    symm
    rw[aze];omega
   ·show true=decide (x<c.v)
    symm
    rw[adf];omega
  ·rename_i J;refine⟨λx hx=> ?_,trivial⟩;show false=Gx c.o c.m c.v x;rcases ho with e|e|e|e|e
   ·rw[e];show false=(x == c.v)
    symm
    rw[af];omega
   ·exact absurd (.inl e) J
   ·exact absurd (.inr e) J
   ·rw[e];show false=decide (c.v<=x)
    symm
    rw[apd];omega
   ·rw[e];show false=((x &&& c.m) == c.v)
    symm
    rw[af];have:x &&& c.m<=x:=Nat.and_le_left;omega
 ·rename_i hs;split;·rename_i C;have T:c.m=0:=Y.resolve_left C;exact⟨λx _=>rfl,h,rfl,by unfold UX at*;omega,by rw[T];decide⟩
  ·rename_i C;have C:c.o=7:=Classical.not_not.1 C;split
   ·rename_i h0;refine⟨λx hx=> ?_,trivial⟩;show true=Gx c.o c.m c.v x;have D:=hk C;have U:c.v<UX:=by unfold UX at*;omega
    rw[Gv U,h0,Nat.and_zero] at D;rw[C];show true=((x &&& c.m) == c.v);rw[Gv hx,h0,Nat.and_zero,<-D];rfl
   ·have I:c.m%UX<UX:=avf _ jD;refine⟨λx hx=> ?_,⟨ha,ho,.inl C,Nat.lt_trans I jD,hv⟩,rfl,by show c.v<UX;unfold UX at*;omega,I⟩;show Gx c.o (c.m%UX) c.v x=_;rw[C];show((x &&& c.m%UX) == c.v)=((x &&& c.m) == c.v);rw[<-Gv hx]
end Go.Proofs.YtclgigmgbebhgaaGreatDoor
