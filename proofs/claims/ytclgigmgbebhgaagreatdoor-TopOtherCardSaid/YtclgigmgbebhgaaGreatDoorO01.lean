/- TopOther: part 1: Blk TopAsmP TopGenP TopGenQ TopGenR TopGenS TopGenT TopGenU TopGenV MapG In TopMk TopMk2 TopOp TopLit TopNormP. -/
import Derived.RangeFuncBox
import Derived.RangeFuncNested
import Derived.WalkKit
import Derived.Maps.Keyed
import Derived.Maps.Own
import Derived.RangeFuncBound
import Derived.RangeFuncCalls
import Derived.RangeFuncLeaves
import Derived.OwnWalkIn
import Derived.TacticsInMore
import Derived.Deep.WholeRow
import Derived.Test.YtclgigmgbebhgaaGreatDoorChecked
import Derived.Lib.Hide
import Derived.Laws.OwnMore
import Derived.Deep.RegionHeld3
import Derived.Deep.Cut
import Derived.Deep.DeepCutAuto
import Derived.Deep.LoopGhost
import Derived.Deep.RegionHeldLaw
import Derived.Maps.OwnOps
import Derived.Carry
import Derived.OrdersHeld
import Derived.WalkLawsBesides
set_option linter.unusedVariables false
set_option linter.unusedSimpArgs false
set_option maxRecDepth 100000
set_option maxHeartbeats 16000000
namespace Go.Proofs.YtclgigmgbebhgaaGreatDoor
open Go Go.Proofs
theorem jO{P:Prop}(h:P:=by omega):P:=h
theorem jD{P:Prop}(h:P:=by decide):P:=h
theorem jK{P:Prop}(h:P:=by kernel_rfl):P:=h
theorem jR{P:Prop}(h:P:=by rfl):P:=h
theorem jS{P:Prop}(h:P:=by simp):P:=h
theorem jA{P:Prop}(h:P:=by assumption):P:=h
theorem jX{α:Type}(a:α):∃b,a=b:=⟨a,rfl⟩
theorem jW(i:Nat)(h:(i:Int)+1≤9223372036854775807:=by omega):IntKind.i64.wrap ((i:Int)+1)=(i:Int)+1:=IntWalk.i64_in _ ⟨by omega,h⟩
theorem jZ(i:Nat):(0:Int)≤(i:Int):=by omega
section
variable {P:Program} {ops:Array Oper} {Q:Exit→Act→World→Prop} {md:Region.Mode} {S:World→Prop}
theorem jT(i:Nat)(oi:Oper){v:Value}{fuel:Nat}{listed:Array Bool}{a:Act}{w:World}(h:wpAnyH P md ops Q S fuel (listed.setIfInBounds i true) (a.put oi.dst v) w)(hi:ops[i]? =some oi:=by rfl)(hb:(Region.noSelect ops&&(Region.free md ops listed i&&(Region.ready md ops listed).contains i))=true:=by kernel_rfl)(hw:Region.wanted oi (yielded ops a.tmps)=true:=by rfl)
 (hy:∀w,S w→(execOp a.eval oi).run P w=.ok (.value v) w:=by
   intro w hSw
   try dsimp only at hSw
   try obtain⟨hSw,hSw2⟩:=hSw
   try go_split_ands
   go_simp
   try with_reducible rfl) (hQ:∀c a w,Q (.panic c) (a.put oi.dst v) w→Q (.panic c) a w:=by exact fun _ _ _ h=>h) (hS:S w:=by assumption):wpAnyH P md ops Q S (fuel+1) listed a w:=by
 simp only[Bool.and_eq_true] at hb
 exact wpAnyH_take hi hb.1 hb.2.1 hb.2.2 hQ (Or.inl ⟨hw,hy⟩) hS h
theorem jU(i:Nat)(oi:Oper){fuel:Nat}{listed:Array Bool}{a:Act}{w:World}(h:wpAnyH P md ops Q S fuel (listed.setIfInBounds i true) (a.put oi.dst undef) w)(hi:ops[i]? =some oi:=by rfl)(hb:(Region.noSelect ops&&(Region.free md ops listed i&&(Region.ready md ops listed).contains i))=true:=by kernel_rfl)(hw:Region.wanted oi (yielded ops a.tmps)=false:=by rfl)(hQ:∀c a w,Q (.panic c) (a.put oi.dst undef) w→Q (.panic c) a w:=by exact fun _ _ _ h=>h)(hS:S w:=by assumption):wpAnyH P md ops Q S (fuel+1) listed a w:=by
 simp only[Bool.and_eq_true] at hb
 exact wpAnyH_take hi hb.1 hb.2.1 hb.2.2 hQ (Or.inr ⟨hw,rfl⟩) hS h
end
end Go.Proofs.YtclgigmgbebhgaaGreatDoor
namespace Go.Proofs.YtclgigmgbebhgaaGreatDoor
open Go Go.Proofs Go.RowKit
abbrev aT:=@Lib.hid
abbrev aS:=@List.setIfInBounds_toArray
abbrev aR:=@Nat.le_refl
abbrev aQ:=@List.set_cons_succ
abbrev aP:=@List.set_cons_zero
abbrev aO:=@Nat.le_trans
abbrev aN:=@if_neg
abbrev aM:=@List.getElem?_eq_getElem
abbrev aL:=@List.getElem?_cons_zero
abbrev aJ:=@IntWalk.i64_in
abbrev aH:=@Below.refl
abbrev aG:=@if_pos
abbrev aF:=@List.getElem?_cons_succ
abbrev ay:=@List.length_append
abbrev ax:=@Option.some.inj
abbrev au:=@List.getElem?_eq_some_iff
abbrev aq:=@congrArg
abbrev ak:=@List.getElem?_toArray
abbrev aj:=@List.length_cons
abbrev ai:=@List.mem_map
abbrev ah:=@World.size_alloc
abbrev ag:=@AllReadyH.cons
abbrev af:=@List.mem_of_getElem?
abbrev ae:=@beq_eq_false_iff_ne
abbrev aaa:=@Array.getElem?_eq_some_iff
abbrev aab:=@AllReadyH.nil
abbrev aac:=@List.mem_singleton
abbrev aad:=@List.length_map
abbrev aae:=@List.getElem?_append_right
abbrev aaf:=@wpAnyH_ready
abbrev aag:=@bodyPost_ret
abbrev aba:=@List.append_assoc
abbrev abb:=@List.getElem?_append_left
abbrev abc:=@Nat.zero_le
abbrev abd:=@List.take_of_length_le
abbrev abe:=@List.mem_append
abbrev abf:=@List.mem_cons
abbrev abg:=@List.length_take
abbrev aca:=@Nat.zero_add
abbrev acb:=@List.flatMap_append
abbrev acd:=@List.flatMap_cons
abbrev ace:=@Nat.le_of_lt
abbrev acf:=@List.map_append
abbrev acg:=@List.length_nil
abbrev ada:=@List.getElem?_map
abbrev adb:=@decide_eq_true
abbrev ade:=@List.append_nil
abbrev adf:=@Nat.lt_of_lt_of_le
abbrev adg:=@wpList_append_own
abbrev aea:=@World.grownBy_alloc
abbrev aeb:=@Nat.add_zero
abbrev aec:=@List.map_cons
abbrev aed:=@decide_eq_true_eq
abbrev aee:=@decide_eq_false
abbrev aef:=@Below.heap_setCell
abbrev aeg:=@List.pairwise_map
abbrev afa:=@List.pairwise_append
abbrev afb:=@List.take_add_one
abbrev afc:=@List.length_range
abbrev afd:=@List.mem_cons_of_mem
abbrev afe:=@World.block_lt_of_cell?
abbrev aff:=@Array.getElem?_toList
abbrev afg:=@List.getD_eq_getElem?_getD
abbrev aga:=@ByteArray.toList_eq
abbrev agb:=@List.mem_iff_getElem
abbrev agc:=@Bool.and_eq_true
abbrev agd:=@List.ext_getElem?
abbrev age:=@List.nil_append
abbrev agf:=@List.mem_cons_self
abbrev aha:=@List.pairwise_cons
abbrev ahb:=@World.cell?_setCell_other
abbrev ahc:=@List.cons_append
abbrev ahd:=@beq_iff_eq
abbrev ahe:=@List.getElem?_eq_none
abbrev ahf:=@List.length_eq_zero_iff
abbrev ahg:=@List.length_drop
abbrev aia:=@List.mem_range
abbrev aib:=@List.size_toArray
abbrev aic:=@MapKept.run_getObj_map
abbrev aid:=@Array.getElem?_setIfInBounds_ne
abbrev aie:=@List.getElem?_take
abbrev aif:=@Array.getD_eq_getD_getElem?
abbrev aja:=@callsIn_wide
abbrev ajb:=@run_underlying
abbrev ajc:=@Hid.out
abbrev ajd:=@Nat.not_lt_zero
abbrev aje:=@KeepsOthers.setCell
abbrev ajf:=@List.not_mem_nil
abbrev ajg:=@List.sum_cons
abbrev aka:=@List.append_cancel_left
abbrev akb:=@List.map_map
abbrev akc:=@List.eq_nil_of_length_eq_zero
abbrev akd:=@wp_region_held_drew
abbrev ake:=@Array.getElem?_modify
abbrev akf:=@Option.some.injEq
abbrev akg:=@World.ownsRow_nil
abbrev ala:=@of_decide_eq_true
abbrev alb:=@Nat.sub_self
abbrev alc:=@List.mem_of_mem_take
abbrev ald:=@Array.replicate_succ
abbrev ale:=@Array.replicate_zero
abbrev alf:=@Nat.mod_eq_of_lt
abbrev alg:=@List.any_eq_true
abbrev ama:=@wpAnyH_done
abbrev amb:=@List.pairwise_iff_getElem
abbrev amc:=@List.append_toArray
abbrev amd:=@Nat.add_assoc
abbrev ame:=@List.range_succ
abbrev amf:=@List.filter_cons
abbrev amg:=@Nat.lt_succ_self
abbrev ana:=@Ne.symm
abbrev anb:=@List.find?_cons_of_neg
abbrev anc:=@List.drop_of_length_le
abbrev ane:=@DataW.trod_int
abbrev anf:=@List.push_toArray
abbrev ang:=@Array.length_toList
abbrev aoa:=@List.getElem?_range
abbrev aob:=@Array.getElem?_eq_getElem
abbrev aoc:=@Bool.eq_iff_iff
abbrev aod:=@List.take_append_drop
abbrev aoe:=@List.length_singleton
abbrev aof:=@List.getLast?_eq_some_getLast
abbrev aog:=@results_none
abbrev apa:=@List.all_eq_true
abbrev apb:=@List.map_nil
abbrev apc:=@run_makeMap
abbrev apd:=@List.mem_of_mem_drop
abbrev ape:=@List.dropLast_concat_getLast
abbrev apf:=@NoPanic.normal
abbrev apg:=@List.pairwise_singleton
abbrev aqa:=@List.mem_filter
abbrev aqb:=@List.dropWhile_cons
abbrev aqc:=@List.find?_cons_of_pos
abbrev aqd:=@Nat.mul_one
abbrev aqe:=@Int.tdiv_eq_ediv_of_nonneg
abbrev aqf:=@List.mem_flatMap
abbrev aqg:=@Nat.succ_ne_zero
abbrev ara:=@Value.string.inj
abbrev arb:=@of_decide_eq_false
abbrev arc:=@Nat.add_mul
abbrev ard:=@World.alloc_heap_new
abbrev arf:=@List.getLast?_append
abbrev asa:=@Result.andThen_ok
abbrev asb:=@Prod.mk.injEq
abbrev asc:=@Nat.lt_irrefl
abbrev ase:=@decide_eq_false_iff_not
abbrev asf:=@List.map_congr_left
abbrev asg:=@List.flatMap_nil
abbrev ata:=@WalkArith.wf_i64
abbrev atb:=@Bool.or_eq_true
abbrev atc:=@UInt8.lt_iff_toNat_lt
abbrev atd:=@Oper.semAt_some
abbrev ate:=@List.length_filter_le
abbrev atf:=@IntKind.wrap_u8
abbrev atg:=@or_false
abbrev aua:=@Array.size_modify
abbrev aub:=@List.nodup_append
abbrev auc:=@wp_region_noPanic
abbrev aud:=@List.drop_eq_getElem_cons
abbrev aue:=@Nat.mul_le_mul_right
abbrev auf:=@Array.size_replicate
abbrev aug:=@List.drop_zero
abbrev ava:=@IntWalk.u64_in
abbrev avb:=@List.mem_reverse
abbrev avc:=@List.length_reverse
abbrev avd:=@World.putObj_heap_other
abbrev ave:=@List.filter_append
abbrev avf:=@Option.map_some
abbrev avg:=@Int.natCast_add
abbrev awa:=@Nat.mod_lt
abbrev awb:=@List.getElem?_drop
abbrev awc:=@MapKept.run_setObj_map
abbrev awd:=@List.dropWhile_sublist
abbrev awe:=@wpAnyH_take
abbrev awf:=@List.find?_append
abbrev awg:=@List.reverse_cons
abbrev axa:=@IntWalk.u32_in
abbrev axb:=@List.Perm.refl
abbrev axc:=@ByteArray.size_append
abbrev axd:=@Nat.succ_le_succ
abbrev axe:=@IntKind.wrap_u32
abbrev axf:=@List.reverse_reverse
abbrev axg:=@List.getLast_mem
abbrev aya:=@decide_eq_decide
abbrev ayb:=@run_takeDeferred
abbrev ayc:=@List.length_pos_iff
abbrev ayd:=@callsIn_of_wp_marks
abbrev aye:=@List.nodup_cons
abbrev ayf:=@Obj.cells.injEq
abbrev ayg:=@List.find?_eq_none
abbrev aza:=@Nat.lt_or_gt_of_ne
abbrev azb:=@Int.cast_ofNat_Int
abbrev azc:=@getElem!_pos
abbrev azd:=@BitVec.toNat_ofNat
abbrev aze:=@bne_iff_ne
abbrev azf:=@Nat.le_succ
abbrev azg:=@OwnFrom.and
abbrev aAa:=@callsIn_of_wp
abbrev aAb:=@Nat.lt_of_le_of_lt
end Go.Proofs.YtclgigmgbebhgaaGreatDoor
namespace Go.Proofs.YtclgigmgbebhgaaGreatDoor
open Tryz
open Go Go.Proofs Go.RowKit
variable {z:List Value} {a g h j:Value} {W W':World}
def Z7(W:World)(B:Nat)(t:TypeId)(cs:Array Value):Prop:=W.heap[B]? =some (.cells cs t (0,0))
theorem Z7.lt {B:Nat}{t:TypeId}{cs:Array Value}(h:Z7 W B t cs):B<W.heap.size:=(aaa.1 h).1
theorem Z7.cell {B:Nat}{t:TypeId}{cs:Array Value}(h:Z7 W B t cs)(j:Nat):W.cell? ⟨B,j,none⟩=cs[j]? :=by simp[World.cell?,show W.heap[B]? =_ from h]
theorem Z7.frozen {B:Nat}{t:TypeId}{cs:Array Value}(h:Z7 W B t cs)(j:Nat):W.frozen? ⟨B,j,none⟩=false:=by simp[World.frozen?,show W.heap[B]? =_ from h]
theorem Z7.new(W:World)(t:TypeId)(cs:Array Value):Z7 (W.alloc (.cells cs t)) W.heap.size t cs:=ard W _
theorem Z7.kept {row:Option Nat}{B:Nat}{t:TypeId}{cs:Array Value}(h:Z7 W B t cs)(C:W.grownBy W' row)(A:some B≠row):Z7 W' B t cs:=(C.block B h.lt A).trans h
theorem Z7.alloc {B:Nat}{t:TypeId}{cs:Array Value}(h:Z7 W B t cs)(o:Obj):Z7 (W.alloc o) B t cs:=h.kept (aea W o none) jS
theorem Z7.below{n B:Nat} {t:TypeId}{cs:Array Value}(h:Z7 W B t cs)(hb:Below n W W')(A:B<n):Z7 W' B t cs:=(hb.block B A).trans h
theorem Z7.set {B:Nat}{t:TypeId}{cs:Array Value}(j:Nat)(v:Value)(h:Z7 W B t cs):Z7 (W.setCell ⟨B,j,none⟩ v) B t (cs.setIfInBounds j v):=by
 obtain⟨A,hk⟩:=aaa.1 h;show(W.heap.modify B _)[B]? =_;rw[aob (by rw[aua];exact A),Array.getElem_modify_self,hk];rfl
theorem Z7.other {B B':Nat}{t:TypeId}{cs:Array Value}(h:Z7 W B t cs)(A:B≠B')(j:Nat)(u:Value):Z7 (W.setCell ⟨B',j,none⟩ u) B t cs:=(aef W ⟨B',j,none⟩ u B A).trans h
theorem Z7.put {B l:Nat}{t:TypeId}{cs:Array Value}(h:Z7 W B t cs)(o:Obj)(A:B≠l):Z7 (W.putObj l o) B t cs:=by
 show(W.heap.setIfInBounds l o)[B]? =_;rw[aid (ana A)];exact h
theorem Rb{β:Type}(B:Nat)(t:TypeId)(f:β->Array Value):Own (λs W=>Z7 W B t (f s)):=λs X Y row hs C A=>
 hs.kept C (λD=>by obtain⟨o,ho,hc⟩:=A B D.symm;rw[show X.heap[B]? =_ from hs] at ho;cases ho;cases hc)
theorem Z7.q2 {B:Nat}{t:TypeId}{b:Value} (A:Z7 W B t (List.toArray (a::b::z))):W.cell? ⟨B,0,none⟩=some a/\W.cell? ⟨B,1,none⟩=some b:=by simp[A.cell]
theorem Z7.q3 {B:Nat}{t:TypeId}{b c:Value} (A:Z7 W B t (List.toArray (a::b::c::z))):W.cell? ⟨B,0,none⟩=some a/\W.cell? ⟨B,1,none⟩=some b/\W.cell? ⟨B,2,none⟩=some c:=by simp[A.cell]
theorem Z7.q4 {B:Nat}{t:TypeId}{b c d:Value} (A:Z7 W B t (List.toArray (a::b::c::d::z))):W.cell? ⟨B,0,none⟩=some a/\W.cell? ⟨B,1,none⟩=some b/\W.cell? ⟨B,2,none⟩=some c/\W.cell? ⟨B,3,none⟩=some d:=by simp[A.cell]
theorem Z7.q5 {B:Nat}{t:TypeId}{b c d e:Value} (A:Z7 W B t (List.toArray (a::b::c::d::e::z))):W.cell? ⟨B,0,none⟩=some a/\W.cell? ⟨B,1,none⟩=some b/\W.cell? ⟨B,2,none⟩=some c/\W.cell? ⟨B,3,none⟩=some d/\W.cell? ⟨B,4,none⟩=some e:=by simp[A.cell]
theorem Z7.q6 {B:Nat}{t:TypeId}{b c d e f:Value} (A:Z7 W B t (List.toArray (a::b::c::d::e::f::z))):W.cell? ⟨B,0,none⟩=some a/\W.cell? ⟨B,1,none⟩=some b/\W.cell? ⟨B,2,none⟩=some c/\W.cell? ⟨B,3,none⟩=some d/\W.cell? ⟨B,4,none⟩=some e/\W.cell? ⟨B,5,none⟩=some f:=by simp[A.cell]
theorem Z7.q7 {B:Nat}{t:TypeId}{b c d e f:Value} (A:Z7 W B t (List.toArray (a::b::c::d::e::f::g::z))):W.cell? ⟨B,0,none⟩=some a/\W.cell? ⟨B,1,none⟩=some b/\W.cell? ⟨B,2,none⟩=some c/\W.cell? ⟨B,3,none⟩=some d/\W.cell? ⟨B,4,none⟩=some e/\W.cell? ⟨B,5,none⟩=some f/\W.cell? ⟨B,6,none⟩=some g:=by simp[A.cell]
theorem Z7.q8 {B:Nat}{t:TypeId}{b c d e f:Value} (A:Z7 W B t (List.toArray (a::b::c::d::e::f::g::h::z))):W.cell? ⟨B,0,none⟩=some a/\W.cell? ⟨B,1,none⟩=some b/\W.cell? ⟨B,2,none⟩=some c/\W.cell? ⟨B,3,none⟩=some d/\W.cell? ⟨B,4,none⟩=some e/\W.cell? ⟨B,5,none⟩=some f/\W.cell? ⟨B,6,none⟩=some g/\W.cell? ⟨B,7,none⟩=some h:=by simp[A.cell]
theorem Z7.q9 {B:Nat}{t:TypeId}{b c d e f i:Value} (A:Z7 W B t (List.toArray (a::b::c::d::e::f::g::h::i::z))):W.cell? ⟨B,0,none⟩=some a/\W.cell? ⟨B,1,none⟩=some b/\W.cell? ⟨B,2,none⟩=some c/\W.cell? ⟨B,3,none⟩=some d/\W.cell? ⟨B,4,none⟩=some e/\W.cell? ⟨B,5,none⟩=some f/\W.cell? ⟨B,6,none⟩=some g/\W.cell? ⟨B,7,none⟩=some h/\W.cell? ⟨B,8,none⟩=some i:=by simp[A.cell]
theorem Z7.q10 {B:Nat}{t:TypeId}{b c d e f i:Value} (A:Z7 W B t (List.toArray (a::b::c::d::e::f::g::h::i::j::z))):W.cell? ⟨B,0,none⟩=some a/\W.cell? ⟨B,1,none⟩=some b/\W.cell? ⟨B,2,none⟩=some c/\W.cell? ⟨B,3,none⟩=some d/\W.cell? ⟨B,4,none⟩=some e/\W.cell? ⟨B,5,none⟩=some f/\W.cell? ⟨B,6,none⟩=some g/\W.cell? ⟨B,7,none⟩=some h/\W.cell? ⟨B,8,none⟩=some i/\W.cell? ⟨B,9,none⟩=some j:=by simp[A.cell]
theorem Z7.q11 {B:Nat}{t:TypeId}{b c d e f i k:Value} (A:Z7 W B t (List.toArray (a::b::c::d::e::f::g::h::i::j::k::z))):W.cell? ⟨B,0,none⟩=some a/\W.cell? ⟨B,1,none⟩=some b/\W.cell? ⟨B,2,none⟩=some c/\W.cell? ⟨B,3,none⟩=some d/\W.cell? ⟨B,4,none⟩=some e/\W.cell? ⟨B,5,none⟩=some f/\W.cell? ⟨B,6,none⟩=some g/\W.cell? ⟨B,7,none⟩=some h/\W.cell? ⟨B,8,none⟩=some i/\W.cell? ⟨B,9,none⟩=some j/\W.cell? ⟨B,10,none⟩=some k:=by simp[A.cell]
theorem Z7.e0 {B:Nat}{t:TypeId}(A:Z7 W B t (List.toArray (a::z))):W.cell? ⟨B,0,none⟩=some a:=by simp[A.cell]
theorem Z7.e1 {B:Nat}{t:TypeId}{b:Value} (A:Z7 W B t (List.toArray (a::b::z))):W.cell? ⟨B,1,none⟩=some b:=by simp[A.cell]
theorem Z7.e2 {B:Nat}{t:TypeId}{b c:Value} (A:Z7 W B t (List.toArray (a::b::c::z))):W.cell? ⟨B,2,none⟩=some c:=by simp[A.cell]
theorem Z7.e3 {B:Nat}{t:TypeId}{b c d:Value} (A:Z7 W B t (List.toArray (a::b::c::d::z))):W.cell? ⟨B,3,none⟩=some d:=by simp[A.cell]
theorem Z7.e4 {B:Nat}{t:TypeId}{b c d e:Value} (A:Z7 W B t (List.toArray (a::b::c::d::e::z))):W.cell? ⟨B,4,none⟩=some e:=by simp[A.cell]
theorem Z7.e5 {B:Nat}{t:TypeId}{b c d e f:Value} (A:Z7 W B t (List.toArray (a::b::c::d::e::f::z))):W.cell? ⟨B,5,none⟩=some f:=by simp[A.cell]
theorem Z7.e9 {B:Nat}{t:TypeId}{b c d e f i:Value} (A:Z7 W B t (List.toArray (a::b::c::d::e::f::g::h::i::j::z))):W.cell? ⟨B,9,none⟩=some j:=by simp[A.cell]
end Go.Proofs.YtclgigmgbebhgaaGreatDoor
namespace Go.Proofs.YtclgigmgbebhgaaGreatDoor
open Tryz
open Go Go.Proofs
variable {wide:Bool} {m t:Int} {K:Int->Prop} {p a h:Nat} {w Bk:Nat->Nat}
structure Z9 where
 mark:Int
 (code k:Nat)
 (t f:Int)
structure ZN where
 (code jt jf k:Nat)
def YV(c:Nat):Bool:=c == 0x15 || c == 0x25 || c == 0x35 || c == 0x45
def YI(c a k:Nat):Bool:=if c=0x15 then a == k else if c=0x25 then decide (k<a) else if c=0x35 then decide (k<=a) else(a &&& k) != 0
def U5(m:Int):List Z9->List Z9
 |[]=>[]
 |y::ys=>if y.mark=m then ys else U5 m ys
theorem EE(m:Int):∀l,(U5 m l).length<=l.length
 |[]=>aR _
 |y::ys=>by
  unfold U5;split;·simp
  ·exact aO (EE m ys) jS
def goto(m:Int)(l:List Z9):List Z9:=if m=0 then l else U5 m l
theorem ED(m:Int)(l:List Z9):(goto m l).length<=l.length:=by
 unfold goto;split;·exact aR _
 ·exact EE m l
def Wl(w:Nat->Nat)(l:List Z9)(a:Nat):Option Nat:=
 match l with
 |[]=>none
 |x::r=>
  if x.mark≠0 then Wl w r a
  else if x.code=0x20 then Wl w r (w x.k)
  else if x.code=0x54 then Wl w r (a &&& x.k)
  else if x.code=0x05 then Wl w (goto x.t r) a
  else if x.code=0x06 then some x.k
  else if YV x.code=true then Wl w (goto (if YI x.code a x.k=true then x.t else x.f) r) a
  else none
termination_by l.length
decreasing_by
 all_goals simp
 all_goals exact Nat.lt_succ_of_le (ED _ _)
def Zi(w:Nat->Nat)(l:List ZN)(a:Nat):Option Nat:=
 match l with
 |[]=>none
 |i::r=>
  if i.code=0x20 then Zi w r (w i.k)
  else if i.code=0x54 then Zi w r (a &&& i.k)
  else if i.code=0x05 then Zi w (r.drop i.k) a
  else if i.code=0x06 then some i.k
  else if YV i.code=true then Zi w (r.drop (if YI i.code a i.k=true then i.jt else i.jf)) a
  else none
termination_by l.length
decreasing_by
 all_goals simp
 all_goals omega
theorem mn(w:Nat->Nat)(a:Nat):Wl w [] a=none:=by unfold Wl;rfl
theorem tK {x:Z9}(h:x.mark≠0)(r:List Z9)(a:Nat):Wl w (x::r) a=Wl w r a:=by
 conv=>lhs;unfold Wl
 rw[aG h]
theorem Ra {x:Z9}(h:x.mark=0)(r:List Z9)(a:Nat):Wl w (x::r) a=(if x.code=0x20 then Wl w r (w x.k)
 else if x.code=0x54 then Wl w r (a &&& x.k)
 else if x.code=0x05 then Wl w (goto x.t r) a
 else if x.code=0x06 then some x.k
 else if YV x.code=true then Wl w (goto (if YI x.code a x.k=true then x.t else x.f) r) a
 else none):=by
 conv=>lhs;unfold Wl
 rw[aN (λe=>e h)]
theorem I0(w:Nat->Nat)(a:Nat):Zi w [] a=none:=by unfold Zi;rfl
theorem Wi(w:Nat->Nat)(i:ZN)(r:List ZN)(a:Nat):Zi w (i::r) a=(if i.code=0x20 then Zi w r (w i.k)
 else if i.code=0x54 then Zi w r (a &&& i.k)
 else if i.code=0x05 then Zi w (r.drop i.k) a
 else if i.code=0x06 then some i.k
 else if YV i.code=true then Zi w (r.drop (if YI i.code a i.k=true then i.jt else i.jf)) a
 else none):=by
 conv=>lhs;unfold Zi
def marks(l:List Z9):List Int:=(l.filter (λx=>x.mark != 0)).map (·.mark)
def Z6(l:List Z9):List Z9:=l.filter (λx=>x.mark == 0)
theorem WZ{x:Z9}(h:x.mark≠0)(r:List Z9):Z6 (x::r)=Z6 r:=by
 unfold Z6;rw[amf,aN (by simpa using h)]
theorem YD{x:Z9}(h:x.mark=0)(r:List Z9):Z6 (x::r)=x::Z6 r:=by
 unfold Z6;rw[amf,aG (by simpa using h)]
theorem Yn(a b:List Z9):Z6 (a++b)=Z6 a++Z6 b:=by unfold Z6;rw[ave]
theorem WS(a b:List Z9):marks (a++b)=marks a++marks b:=by unfold marks;rw[ave,acf]
theorem Zq{x:Z9}(h:x.mark≠0)(r:List Z9):marks (x::r)=x.mark::marks r:=by
 unfold marks;rw[amf,aG (by simpa using h)];rfl
theorem Y2{x:Z9}(h:x.mark=0)(r:List Z9):marks (x::r)=marks r:=by
 unfold marks;rw[amf,aN (by simp[h])]
def ZR:List Z9->Prop
 |[]=>True
 |x::r=>ZR r/\(if x.mark≠0 then x.mark∉marks r else(x.t≠0->x.t∈marks r)/\(x.f≠0->x.f∈marks r))
theorem ZR.tail:∀(p:List Z9) {s:List Z9},ZR (p++s)->ZR s
 |[],_,h=>h
 |_::p,_,h=>ZR.tail p h.1
theorem OQ:∀(p:List Z9) (m:Int) (s:List Z9),m≠0->m∉marks p->U5 m (p++s)=U5 m s
 |[],_,_,_,_=>rfl
 |x::p,m,s,h0,h=>by
  have hx:x.mark≠m:=by
   intro e;by_cases hz:x.mark=0;·exact h0 (e.symm.trans hz)
   ·rw[Zq hz] at h;exact h (by rw[e];simp)
  rw[ahc];show(if x.mark=m then _ else _)=_;rw[aN hx];refine OQ p m s h0 (λe=>h ?_);by_cases hz:x.mark=0;·rw[Y2 hz];exact e
  ·rw[Zq hz];exact afd _ e
theorem ZR.fresh:∀(p:List Z9) {s:List Z9} {m:Int},ZR (p++s)->m∈marks s->m∉marks p
 |[],_,_,_,_=>by simp[marks]
 |x::p,s,m,h,hm=>by
  have C:=ZR.fresh p h.1 hm;by_cases hz:x.mark=0;·rw[Y2 hz];exact C
  ·rw[Zq hz];intro e;rcases abf.1 e with rfl|e
   ·have A:=h.2;rw[aG hz] at A;have A:x.mark∉marks (p++s):=A;rw[WS] at A;exact A (abe.2 (.inr hm))
   ·exact C e
def place(l:List Z9)(m:Int):Nat:=(Z6 l).length-(Z6 (U5 m l)).length
def target(l:List Z9)(n:Nat)(m:Int):Nat:=if m=0 then n+1 else place l m
def encI(x:Z9)(ZU far:Bool)(p y z:Nat):List ZN:=
 if ZU=true then []
 else if far=true then [⟨x.code,0,1,x.k⟩,⟨0x05,0,0,y-(p+1)-1⟩,⟨0x05,0,0,z-(p+2)-1⟩]
 else if x.code=0x05 then [⟨x.code,0,0,y-p-1⟩]
 else if YV x.code=true then [⟨x.code,y-p-1,z-p-1,x.k⟩]
 else [⟨x.code,0,0,x.k⟩]
structure UY(l:List Z9)(out:List ZN)(at_:Nat->Nat)(ZU far:Nat->Bool):Prop where
 code:∀x∈Z6 l,x.code=0x20\/x.code=0x54\/x.code=0x05\/x.code=0x06\/YV x.code=true
 next:∀(n:Nat) (x:Z9),(Z6 l)[n]? =some x->at_ (n+1)=at_ n+(encI x (ZU n) (far n) (at_ n) (at_ (target l n x.t)) (at_ (target l n x.f))).length
 write:∀(n:Nat) (x:Z9),(Z6 l)[n]? =some x->out.drop (at_ n)=encI x (ZU n) (far n) (at_ n) (at_ (target l n x.t)) (at_ (target l n x.f))++out.drop (at_ (n+1))
 last:out.drop (at_ (Z6 l).length)=[]
 branch:∀(n:Nat) (x:Z9),(Z6 l)[n]? =some x->far n=true->YV x.code=true
 plain:∀(n:Nat) (x:Z9),(Z6 l)[n]? =some x->x.code=0x20\/x.code=0x54->x.t=0
 yes:∀(n:Nat) (x:Z9),(Z6 l)[n]? =some x->ZU n=false->x.code≠0x06->ZU (target l n x.t)=false
 no:∀(n:Nat) (x:Z9),(Z6 l)[n]? =some x->ZU n=false->YV x.code=true->ZU (target l n x.f)=false
theorem UY.mono{l:List Z9}{out:List ZN}{at_:Nat->Nat}{ZU far:Nat->Bool}(h:UY l out at_ ZU far):∀(d n:Nat),n+d<=(Z6 l).length->at_ n<=at_ (n+d)
 |0,n,_=>aR _
 |d+1,n,hn=>by have A:=h.mono d n jO;obtain⟨x,hx⟩:∃x,(Z6 l)[n+d]? =some x:=⟨_,aM jO⟩;have:=h.next _ _ hx;rw[<-amd,this];omega
theorem EC{p:List Z9}{x:Z9}{r:List Z9}(hf:ZR (p++x::r)) (hm:m≠0)(h:m∈marks r):place (p++x::r) m=(Z6 (p++x::r)).length-(Z6 (U5 m r)).length:=by
 unfold place;have e:p++x::r=(p++[x])++r:=jS;have A:m∉marks (p++[x]):=ZR.fresh (p++[x]) (by rw[<-e];exact hf) h;rw[e,OQ (p++[x]) m r hm A]
theorem Lh:∀(l:List Z9) (m:Int),(Z6 (U5 m l)).length<=(Z6 l).length
 |[],_=>aR _
 |y::ys,m=>by
  have A:=Lh ys m;have h:(Z6 ys).length<=(Z6 (y::ys)).length:=by
   by_cases hz:y.mark=0;·rw[YD hz];simp
   ·rw[WZ hz];exact aR _
  unfold U5;split;·exact h
  ·exact aO A h
theorem R3:∀(l:List Z9) (m:Int),m≠0->m∈marks l->∃p,l=p++U5 m l
 |[],m,_,h=>by simp[marks] at h
 |y::ys,m,h0,h=>by
  unfold U5;by_cases e:y.mark=m;·rw[aG e];exact⟨[y],rfl⟩
  ·rw[aN e]
   have A:m∈marks ys:=by
    by_cases hz:y.mark=0;·rwa [Y2 hz] at h
    ·rw[Zq hz] at h;rcases abf.1 h with rfl|h;·exact absurd rfl e
     ·exact h
   obtain⟨p,hp⟩:=R3 ys m h0 A;exact⟨y::p,by rw[ahc,<-hp]⟩
theorem Vv{p:List Z9}{x:Z9}{r:List Z9}(hf:ZR (p++x::r))(hx:x.mark=0) (h:m≠0->m∈marks r):
 ∃q,p++x::r=q++goto m r/\target (p++x::r) (Z6 p).length m=(Z6 (p++x::r)).length-(Z6 (goto m r)).length/\(Z6 p).length+1<=target (p++x::r) (Z6 p).length m/\(Z6 (goto m r)).length<=(Z6 (p++x::r)).length:=by
 have hN:(Z6 (p++x::r)).length=(Z6 p).length+1+(Z6 r).length:=by rw[Yn,YD hx,ay,aj];omega
 unfold goto target;by_cases A:m=0;·rw[aG A,aG A];exact⟨p++[x],jS,jO,aR _,jO⟩
 ·rw[aN A,aN A];have hm:=h A;obtain⟨q,C⟩:=R3 r m A hm;have hs:=Lh r m;refine⟨p++x::q,by rw[aba,ahc,<-C],EC hf A hm,?_,jO⟩;rw[EC hf A hm];omega
theorem ZR.here:∀(p:List Z9) {x:Z9} {r:List Z9},ZR (p++x::r)->x.mark=0->(x.t≠0->x.t∈marks r)/\(x.f≠0->x.f∈marks r)
 |[],x,r,h,hx=>by have:=h.2;rwa [aN (λe=>e hx)] at this
 |_::p,x,r,h,hx=>ZR.here p h.1 hx
theorem dE{p:List Z9}{x:Z9}{r:List Z9}(hx:x.mark=0):(Z6 (p++x::r))[(Z6 p).length]? =some x:=by
 rw[Yn,YD hx,aae (aR _),alb];rfl
theorem Ps{c:Nat}(h:YV c=true):c≠0x20/\c≠0x54/\c≠0x05/\c≠0x06:=by
 unfold YV at h;simp only[atb,ahd] at h;omega
theorem Vz{α:Type}{l:List α} {i:α}{rest:List α}(h:l.drop p=i::rest):l.drop (p+1)=rest:=by
 have:=aq (List.drop 1) h;rw[List.drop_drop] at this;exact this
theorem ND{α:Type}{l:List α} {i:α}{rest:List α}(h:l.drop p=i::rest)(d:Nat):rest.drop d=l.drop (p+1+d):=by
 rw[<-Vz h,List.drop_drop]
theorem NC {out:List ZN}{jt jf k:Nat}{rest:List ZN}(h:out.drop p=⟨0x05,jt,jf,k⟩::rest):Zi w (out.drop p) a=Zi w (out.drop (p+1+k)) a:=by
 rw[h,Wi,<-ND h];rfl
theorem zw {out:List ZN} {i:ZN}{rest:List ZN}(h:out.drop p=i::rest)(hb:YV i.code=true):Zi w (out.drop p) a=Zi w (out.drop (p+1+(if YI i.code a i.k=true then i.jt else i.jf))) a:=by
 have hc:=Ps hb;rw[h,Wi,aN hc.1,aN hc.2.1,aN hc.2.2.1,aN hc.2.2.2,aG hb,ND h]
theorem xH {out:List ZN} {i:ZN}{rest:List ZN}(h:out.drop p=i::rest)(hc:i.code=0x20):Zi w (out.drop p) a=Zi w (out.drop (p+1)) (w i.k):=by
 rw[h,Wi,aG hc,Vz h]
theorem tJ {out:List ZN} {i:ZN}{rest:List ZN}(h:out.drop p=i::rest)(hc:i.code=0x54):Zi w (out.drop p) a=Zi w (out.drop (p+1)) (a &&& i.k):=by
 rw[h,Wi,aN jO,aG hc,Vz h]
theorem tI {out:List ZN} {i:ZN}{rest:List ZN}(h:out.drop p=i::rest)(hc:i.code=0x06):Zi w (out.drop p) a=some i.k:=by
 rw[h,Wi,aN jO,aN jO,aN jO,aG hc]
theorem Lv{w:Nat->Nat}{l:List Z9}{out:List ZN}{at_:Nat->Nat}{ZU far:Nat->Bool}(hf:ZR l)(h:UY l out at_ ZU far):
 ∀(k:Nat) (s p:List Z9) (a:Nat),s.length<=k->l=p++s->ZU (Z6 p).length=false->Zi w (out.drop (at_ (Z6 p).length)) a=Wl w s a
 |k,[],p,a,_,e,_=>by rw[ade] at e;subst e;rw[h.last,I0,mn]
 |0,x::r,p,a,hk,_,_=>by simp at hk
 |k+1,x::r,p,a,hk,e,hu=>by
  simp only[aj] at hk;by_cases hx:x.mark=0
  ·subst e;have C:=dE (p:=p) (r:=r) hx;obtain⟨Y,ff⟩:=ZR.here p hf hx
   have hN:(Z6 (p++x::r)).length=(Z6 p).length+1+(Z6 r).length:=by rw[Yn,YD hx,ay,aj];omega
   have hw:=h.write _ _ C;have hn:=h.next _ _ C;have go:∀m,(m≠0->m∈marks r)->ZU (target (p++x::r) (Z6 p).length m)=false->∀a,Zi w (out.drop (at_ (target (p++x::r) (Z6 p).length m))) a=Wl w (goto m r) a:=by
    intro m hm T a;obtain⟨q,hq,ht,_,hle⟩:=Vv hf hx hm;have Z:(Z6 q).length=target (p++x::r) (Z6 p).length m:=by rw[ht];have:=aq (λl=>(Z6 l).length) hq;simp only[Yn,ay] at this;rw[Yn,ay];omega
    rw[<-Z] at T ⊢;exact Lv hf h k (goto m r) q a (aO (ED m r) jO) hq T
   have behind:∀m,(m≠0->m∈marks r)->at_ ((Z6 p).length+1)<=at_ (target (p++x::r) (Z6 p).length m):=by
    intro m hm;obtain⟨_,_,ht,dD,hle⟩:=Vv hf hx hm;obtain⟨d,hd⟩:∃d,target (p++x::r) (Z6 p).length m=(Z6 p).length+1+d:=⟨_,(Nat.add_sub_cancel' dD).symm⟩;have hb:target (p++x::r) (Z6 p).length m<=(Z6 (p++x::r)).length:=by rw[ht];omega
    rw[hd] at hb ⊢;exact h.mono d _ hb
   have b1:=behind x.t Y;have b2:=behind x.f ff;rw[Ra hx];unfold encI at hw hn;rw[hu,aN jD] at hw hn;generalize hP:at_ (Z6 p).length=P at*;by_cases D:far (Z6 p).length=true
   ·have A:=h.branch _ _ C D;rw[aG D] at hw hn;simp only[aj,acg] at hn;have hc:=Ps A;have U:=h.yes _ _ C hu hc.2.2.2;have I:=h.no _ _ C hu A;rw[aN hc.1,aN hc.2.1,aN hc.2.2.1,aN hc.2.2.2,aG A,zw hw A];have w1:=Vz hw;have w2:=Vz w1;by_cases hb:YI x.code a x.k=true;·rw[aG hb,aG hb];show Zi w (out.drop (P+1+0)) a=_;rw[aeb,NC w1,show P+1+1+(at_ (target (p++x::r) (Z6 p).length x.t)-(P+1)-1)=at_ (target (p++x::r) (Z6 p).length x.t) from jO];exact go x.t Y U a
    ·rw[aN hb,aN hb];show Zi w (out.drop (P+1+1)) a=_;rw[NC w2,show P+1+1+1+(at_ (target (p++x::r) (Z6 p).length x.f)-(P+2)-1)=at_ (target (p++x::r) (Z6 p).length x.f) from jO];exact go x.f ff I a
   ·rw[aN D] at hw hn;by_cases J:x.code=0x05;·rw[aG J] at hw hn;simp only[aj,acg] at hn;have U:=h.yes _ _ C hu jO;rw[J] at hw;rw[aN jO,aN jO,aG J,NC hw,show P+1+(at_ (target (p++x::r) (Z6 p).length x.t)-P-1)=at_ (target (p++x::r) (Z6 p).length x.t) from jO];exact go x.t Y U a
    ·rw[aN J] at hw hn;by_cases A:YV x.code=true
     ·rw[aG A] at hw hn;simp only[aj,acg] at hn;have hc:=Ps A;have U:=h.yes _ _ C hu hc.2.2.2;have I:=h.no _ _ C hu A;rw[aN hc.1,aN hc.2.1,aN hc.2.2.1,aN hc.2.2.2,aG A,zw hw A];by_cases hb:YI x.code a x.k=true;·rw[aG hb,aG hb];show Zi w (out.drop (P+1+(at_ (target (p++x::r) (Z6 p).length x.t)-P-1))) a=_;rw[show P+1+(at_ (target (p++x::r) (Z6 p).length x.t)-P-1)=at_ (target (p++x::r) (Z6 p).length x.t) from jO];exact go x.t Y U a
      ·rw[aN hb,aN hb];show Zi w (out.drop (P+1+(at_ (target (p++x::r) (Z6 p).length x.f)-P-1))) a=_;rw[show P+1+(at_ (target (p++x::r) (Z6 p).length x.f)-P-1)=at_ (target (p++x::r) (Z6 p).length x.f) from jO];exact go x.f ff I a
     ·rw[aN A] at hw hn;simp only[aj,acg] at hn
      have nx:x.code=0x20\/x.code=0x54->∀a,Zi w (out.drop (P+1)) a=Wl w r a:=by
       intro h6 a;have hp:(Z6 (p++[x])).length=(Z6 p).length+1:=by rw[Yn,YD hx];simp[Z6]
       have I:=h.yes _ _ C hu jO;rw[h.plain _ _ C h6] at I;have I:ZU ((Z6 p).length+1)=false:=I;have:=Lv (w:=w) hf h k r (p++[x]) a jO jS (by rw[hp];exact I);rw[hp,hn] at this;simpa using this
      rcases h.code x (af C) with hc|hc|hc|hc|hc;·rw[aG hc,xH hw hc];exact nx (.inl hc) _
      ·rw[aN jO,aG hc,tJ hw hc];exact nx (.inr hc) _
      ·exact absurd hc J
      ·rw[aN jO,aN jO,aN J,aG hc,tI hw hc]
      ·exact absurd hc A
  ·have hp:(Z6 (p++[x])).length=(Z6 p).length:=by
    rw[Yn,WZ hx];simp[Z6]
   rw[tK hx,<-hp];exact Lv hf h k r (p++[x]) a jO (by rw[e];simp) (by rw[hp];exact hu)
def JF(w:Nat->Nat)(F:List Z9)(m:Int)(a:Nat):Option Nat:=Wl w (U5 m F) a
theorem GL {F p r:List Z9}{x:Z9}(hF:ZR F)(e:F=p++x::r)(m:Int)(h:m≠0->m∈marks r)(a:Nat):Wl w (goto m r) a=if m=0 then Wl w r a else JF w F m a:=by
 unfold goto JF;split;·rfl
 ·rename_i C;have hm:=h C;have e2:F=(p++[x])++r:=by rw[e];simp
  have A:m∉marks (p++[x]):=ZR.fresh (p++[x]) (by rw[<-e2];exact hF) hm;rw[e2,OQ (p++[x]) m r C A]
theorem af4 {F p r:List Z9}{x:Z9}(hF:ZR F)(e:F=p++x::r)(hx:x.mark=0)(hb:YV x.code=true)(a:Nat):
 Wl w (x::r) a=if YI x.code a x.k=true then(if x.t=0 then Wl w r a else JF w F x.t a) else(if x.f=0 then Wl w r a else JF w F x.f a):=by
 have hc:=Ps hb;obtain⟨A,ff⟩:=ZR.here p (e▸hF) hx;rw[Ra hx,aN hc.1,aN hc.2.1,aN hc.2.2.1,aN hc.2.2.2,aG hb];split;·exact GL hF e x.t A a
 ·exact GL hF e x.f ff a
theorem Lu {F p r:List Z9}{k:Nat}{f:Int}(hF:ZR F)(e:F=p++⟨0,0x05,k,t,f⟩::r)(ht:t≠0)(a:Nat):Wl w (⟨0,0x05,k,t,f⟩::r) a=JF w F t a:=by
 obtain⟨A,_⟩:=ZR.here p (e▸hF) rfl;rw[Ra rfl];dsimp only;rw[aN jD,aN jD,aG rfl,GL hF e t A a,aN ht]
theorem W9(w:Nat->Nat)(r:List Z9)(k:Nat)(t f:Int)(a:Nat):Wl w (⟨0,0x20,k,t,f⟩::r) a=Wl w r (w k):=by
 rw[Ra rfl];dsimp only;rw[aG rfl]
theorem B8(w:Nat->Nat)(r:List Z9)(k:Nat)(t f:Int)(a:Nat):Wl w (⟨0,0x54,k,t,f⟩::r) a=Wl w r (a &&& k):=by
 rw[Ra rfl];dsimp only;rw[aN jD,aG rfl]
theorem dC(w:Nat->Nat)(r:List Z9)(k:Nat)(t f:Int)(a:Nat):Wl w (⟨0,0x06,k,t,f⟩::r) a=some k:=by
 rw[Ra rfl];dsimp only;rw[aN jD,aN jD,aN jD,aG rfl]
def Zr(m:Int):Z9:=⟨m,0,0,0,0⟩
def ins(code k:Nat)(t f:Int):Z9:=⟨0,code,k,t,f⟩
theorem TH {F p r:List Z9} (hF:ZR F)(e:F=p++Zr m::r)(hm:m≠0)(a:Nat):JF w F m a=Wl w r a:=by
 have A:m∉marks p:=by refine ZR.fresh p (s:=Zr m::r) (by rw[<-e];exact hF) ?_;rw[Zq (show(Zr m).mark≠0 from hm)];exact agf
 unfold JF;rw[e,OQ p m _ hm A];unfold U5;rw[aG (show(Zr m).mark=m from rfl)]
structure Z5 where
 (a o m v:Nat)
def opH(o m v x:Nat):Bool:=if o=1 then x == v else if o=2 then x != v else if o=3 then decide (x<v) else if o=6 then decide (v<=x) else(x &&& m) == v
def lo(n:Nat):Nat:=n%4294967296
def hi(n:Nat):Nat:=n/4294967296
def Yp(a:Nat):Nat:=16+8*a
def Y4(a:Nat):Nat:=16+8*a+4
def R2(UX Xm h l:Nat)(wide:Bool)(yes no:Int):List Z9:=(if wide then [ins 0x20 UX 0 0,ins 0x15 h 0 no] else [])++[ins 0x20 Xm 0 0,ins 0x15 l yes no]
def Vu(UX Xm h l:Nat)(wide:Bool)(yes no:Int):List Z9:=(if wide then [ins 0x20 UX 0 0,ins 0x25 h yes 0,ins 0x15 h 0 no] else [])++[ins 0x20 Xm 0 0,ins 0x35 l yes no]
def MR(UX Xm h l mh ml:Nat)(wide:Bool)(yes no:Int):List Z9:=(if wide then [ins 0x20 UX 0 0,ins 0x54 mh 0 0,ins 0x15 h 0 no] else [])++[ins 0x20 Xm 0 0,ins 0x54 ml 0 0,ins 0x15 l yes no]
def XF(c:Z5)(wide:Bool)(yes no:Int):List Z9:=
 if c.o=1 then R2 (Y4 c.a) (Yp c.a) (hi c.v) (lo c.v) wide yes no
 else if c.o=2 then R2 (Y4 c.a) (Yp c.a) (hi c.v) (lo c.v) wide no yes
 else if c.o=3 then Vu (Y4 c.a) (Yp c.a) (hi c.v) (lo c.v) wide no yes
 else if c.o=6 then Vu (Y4 c.a) (Yp c.a) (hi c.v) (lo c.v) wide yes no
 else MR (Y4 c.a) (Yp c.a) (hi c.v) (lo c.v) (hi c.m) (lo c.m) wide yes no
def Sq(w:Nat->Nat)(wide:Bool)(a:Nat):Nat:=if wide then w (Y4 a)*4294967296+w (Yp a) else w (Yp a)
theorem Zm {F p r:List Z9}{c k:Nat}{f:Int}(hF:ZR F)(e:F=p++ins c k t f::r)(hb:YV c=true)(a:Nat):
 Wl w (ins c k t f::r) a=if YI c a k=true then(if t=0 then Wl w r a else JF w F t a) else(if f=0 then Wl w r a else JF w F f a):=af4 hF e rfl hb a
theorem XM(a k:Nat):YI 0x15 a k=(a == k):=rfl
theorem mm(a k:Nat):YI 0x25 a k=decide (k<a):=rfl
theorem GK(a k:Nat):YI 0x35 a k=decide (k<=a):=rfl
theorem zv(a k:Nat):YI 0x45 a k=((a &&& k) != 0):=rfl
def GJ(w:Nat->Nat):Prop:=∀k,w k<4294967296
theorem zu{w:Nat->Nat}{F p r:List Z9}{UX Xm v:Nat}{wide:Bool}{yes no:Int}(hF:ZR F)(hw:GJ w)(e:F=p++(R2 UX Xm (hi v) (lo v) wide yes no++r))(hy:yes≠0)(hn:no≠0)(hv:wide=true\/v<4294967296)(a:Nat):
 ∃a',Wl w (R2 UX Xm (hi v) (lo v) wide yes no++r) a=JF w F (if (if wide then w UX*4294967296+w Xm else w Xm)=v then yes else no) a':=by
 have hl:=hw Xm;have D:=hw UX;unfold R2 at e ⊢;unfold hi lo at*;cases wide with
 |false=>
  have hv:v<4294967296:=hv.resolve_left jD;have e1:F=(p++[ins 0x20 Xm 0 0])++ins 0x15 (v%4294967296) yes no::r:=by rw[e];simp
  refine⟨w Xm,?_⟩;show Wl w (ins 0x20 Xm 0 0::ins 0x15 (v%4294967296) yes no::r) a=_;rw[show ins 0x20 Xm 0 0=⟨0,0x20,Xm,0,0⟩ from rfl,W9,Zm hF e1 rfl,XM,aN hy,aN hn,alf hv];by_cases h:w Xm=v;·rw[aG (by simpa using h),aG (by simpa using h)]
  ·rw[aN (by simpa using h),aN (by simpa using h)]
 |true=>
  have e1:F=(p++[ins 0x20 UX 0 0])++ins 0x15 (v/4294967296) 0 no::ins 0x20 Xm 0 0::ins 0x15 (v%4294967296) yes no::r:=by rw[e];simp
  have e2:F=(p++[ins 0x20 UX 0 0,ins 0x15 (v/4294967296) 0 no,ins 0x20 Xm 0 0])++ins 0x15 (v%4294967296) yes no::r:=by rw[e];simp
  show ∃a',Wl w (ins 0x20 UX 0 0::ins 0x15 (v/4294967296) 0 no::ins 0x20 Xm 0 0::ins 0x15 (v%4294967296) yes no::r) a=_;rw[show ins 0x20 UX 0 0=⟨0,0x20,UX,0,0⟩ from rfl,W9,Zm hF e1 rfl,XM,aN hn,aG rfl,aG rfl];by_cases A:w UX=v/4294967296
  ·rw[aG (by simpa using A),show ins 0x20 Xm 0 0=⟨0,0x20,Xm,0,0⟩ from rfl,W9,Zm hF e2 rfl,XM,aN hy,aN hn];refine⟨w Xm,?_⟩;by_cases C:w Xm=v%4294967296;·rw[aG (by simpa using C),aG jO]
   ·rw[aN (by simpa using C),aN jO]
  ·rw[aN (by simpa using A),aN jO];exact⟨_,rfl⟩
theorem EB{w:Nat->Nat}{F p r:List Z9}{UX Xm v:Nat}{wide:Bool}{yes no:Int}(hF:ZR F)(hw:GJ w)(e:F=p++(Vu UX Xm (hi v) (lo v) wide yes no++r))(hy:yes≠0)(hn:no≠0)(hv:wide=true\/v<4294967296)(a:Nat):
 ∃a',Wl w (Vu UX Xm (hi v) (lo v) wide yes no++r) a=JF w F (if v<=(if wide then w UX*4294967296+w Xm else w Xm) then yes else no) a':=by
 have hl:=hw Xm;have I:=hw UX;unfold Vu at e ⊢;unfold hi lo at*;cases wide with
 |false=>
  have hv:v<4294967296:=hv.resolve_left jD;have e1:F=(p++[ins 0x20 Xm 0 0])++ins 0x35 (v%4294967296) yes no::r:=by rw[e];simp
  refine⟨w Xm,?_⟩;show Wl w (ins 0x20 Xm 0 0::ins 0x35 (v%4294967296) yes no::r) a=_;rw[show ins 0x20 Xm 0 0=⟨0,0x20,Xm,0,0⟩ from rfl,W9,Zm hF e1 rfl,GK,aN hy,aN hn,alf hv];by_cases h:v<=w Xm;·rw[aG (by simpa using h),aG (by simpa using h)]
  ·rw[aN (by simpa using h),aN (by simpa using h)]
 |true=>
  have e1:F=(p++[ins 0x20 UX 0 0])++ins 0x25 (v/4294967296) yes 0::ins 0x15 (v/4294967296) 0 no::ins 0x20 Xm 0 0::ins 0x35 (v%4294967296) yes no::r:=by rw[e];simp
  have e2:F=(p++[ins 0x20 UX 0 0,ins 0x25 (v/4294967296) yes 0])++ins 0x15 (v/4294967296) 0 no::ins 0x20 Xm 0 0::ins 0x35 (v%4294967296) yes no::r:=by rw[e];simp
  have e3:F=(p++[ins 0x20 UX 0 0,ins 0x25 (v/4294967296) yes 0,ins 0x15 (v/4294967296) 0 no,ins 0x20 Xm 0 0])++ins 0x35 (v%4294967296) yes no::r:=by rw[e];simp
  show ∃a',Wl w (ins 0x20 UX 0 0::ins 0x25 (v/4294967296) yes 0::ins 0x15 (v/4294967296) 0 no::ins 0x20 Xm 0 0::ins 0x35 (v%4294967296) yes no::r) a=_;rw[show ins 0x20 UX 0 0=⟨0,0x20,UX,0,0⟩ from rfl,W9,Zm hF e1 rfl,mm,aN hy,aG rfl,aG rfl];by_cases C:v/4294967296<w UX;·rw[aG (by simpa using C),aG jO];exact⟨_,rfl⟩
  ·rw[aN (by simpa using C),Zm hF e2 rfl,XM,aN hn,aG rfl];by_cases A:w UX=v/4294967296
   ·rw[aG (by simpa using A),show ins 0x20 Xm 0 0=⟨0,0x20,Xm,0,0⟩ from rfl,W9,Zm hF e3 rfl,GK,aN hy,aN hn];refine⟨w Xm,?_⟩;by_cases D:v%4294967296<=w Xm;·rw[aG (by simpa using D),aG jO]
    ·rw[aN (by simpa using D),aN jO]
   ·rw[aN (by simpa using A),aN jO];exact⟨_,rfl⟩
theorem xG(x m v:Nat):(x &&& m=v)↔((x/4294967296 &&& m/4294967296)=v/4294967296/\(x%4294967296 &&& m%4294967296)=v%4294967296):=by
 have A:(x &&& m)/4294967296=x/4294967296 &&& m/4294967296:=by have:=Nat.and_div_two_pow (a:=x) (b:=m) (n:=32);simpa using this
 have C:(x &&& m)%4294967296=x%4294967296 &&& m%4294967296:=by have:=Nat.and_mod_two_pow (a:=x) (b:=m) (n:=32);simpa using this
 rw[<-A,<-C];constructor;·rintro rfl;exact⟨rfl,rfl⟩
 ·rintro⟨e1,e2⟩;rw[<-Nat.div_add_mod (x &&& m) 4294967296,e1,e2,Nat.div_add_mod]
theorem mj{w:Nat->Nat}{F p r:List Z9}{UX Xm v m:Nat}{wide:Bool}{yes no:Int}(hF:ZR F)(hw:GJ w)(e:F=p++(MR UX Xm (hi v) (lo v) (hi m) (lo m) wide yes no++r))(hy:yes≠0)(hn:no≠0)(hv:wide=true\/(v<4294967296/\m<4294967296))(a:Nat):
 ∃a',Wl w (MR UX Xm (hi v) (lo v) (hi m) (lo m) wide yes no++r) a=JF w F (if ((if wide then w UX*4294967296+w Xm else w Xm) &&& m)=v then yes else no) a':=by
 have hl:=hw Xm;have D:=hw UX;unfold MR at e ⊢;unfold hi lo at*;cases wide with
 |false=>
  obtain⟨hv,hm⟩:=hv.resolve_left jD;have e1:F=(p++[ins 0x20 Xm 0 0,ins 0x54 (m%4294967296) 0 0])++ins 0x15 (v%4294967296) yes no::r:=by rw[e];simp
  refine⟨w Xm &&& m,?_⟩;show Wl w (ins 0x20 Xm 0 0::ins 0x54 (m%4294967296) 0 0::ins 0x15 (v%4294967296) yes no::r) a=_;rw[show ins 0x20 Xm 0 0=⟨0,0x20,Xm,0,0⟩ from rfl,W9,show ins 0x54 (m%4294967296) 0 0=⟨0,0x54,m%4294967296,0,0⟩ from rfl,B8,Zm hF e1 rfl,XM,aN hy,aN hn,alf hv,alf hm];by_cases h:w Xm &&& m=v;·rw[aG (by simpa using h),aG (by simpa using h)]
  ·rw[aN (by simpa using h),aN (by simpa using h)]
 |true=>
  have e1:F=(p++[ins 0x20 UX 0 0,ins 0x54 (m/4294967296) 0 0])++ins 0x15 (v/4294967296) 0 no::ins 0x20 Xm 0 0::ins 0x54 (m%4294967296) 0 0::ins 0x15 (v%4294967296) yes no::r:=by rw[e];simp
  have e2:F=(p++[ins 0x20 UX 0 0,ins 0x54 (m/4294967296) 0 0,ins 0x15 (v/4294967296) 0 no,ins 0x20 Xm 0 0,ins 0x54 (m%4294967296) 0 0])++ins 0x15 (v%4294967296) yes no::r:=by rw[e];simp
  have hx:=xG (w UX*4294967296+w Xm) m v;rw[show(w UX*4294967296+w Xm)/4294967296=w UX from jO,show(w UX*4294967296+w Xm)%4294967296=w Xm from jO] at hx;show ∃a',Wl w (ins 0x20 UX 0 0::ins 0x54 (m/4294967296) 0 0::ins 0x15 (v/4294967296) 0 no::ins 0x20 Xm 0 0::ins 0x54 (m%4294967296) 0 0::ins 0x15 (v%4294967296) yes no::r) a=_;rw[show ins 0x20 UX 0 0=⟨0,0x20,UX,0,0⟩ from rfl,W9,show ins 0x54 (m/4294967296) 0 0=⟨0,0x54,m/4294967296,0,0⟩ from rfl,B8,Zm hF e1 rfl,XM,aN hn,aG rfl,aG rfl];by_cases A:(w UX &&& m/4294967296)=v/4294967296
  ·rw[aG (by simpa using A),show ins 0x20 Xm 0 0=⟨0,0x20,Xm,0,0⟩ from rfl,W9,show ins 0x54 (m%4294967296) 0 0=⟨0,0x54,m%4294967296,0,0⟩ from rfl,B8,Zm hF e2 rfl,XM,aN hy,aN hn];refine⟨w Xm &&& m%4294967296,?_⟩;by_cases C:(w Xm &&& m%4294967296)=v%4294967296;·rw[aG (by simpa using C),aG (hx.2 ⟨A,C⟩)]
   ·rw[aN (by simpa using C),aN (λe=>C (hx.1 e).2)]
  ·rw[aN (by simpa using A),aN (λe=>A (hx.1 e).1)];exact⟨_,rfl⟩
def Z5.ok(c:Z5)(wide:Bool):Prop:=(c.o=1\/c.o=2\/c.o=3\/c.o=6\/c.o=7)/\(wide=true\/(c.v<4294967296/\c.m<4294967296))
theorem mi {F p r:List Z9}{c:Z5} {yes no:Int}(hF:ZR F)(hw:GJ w)(hc:c.ok wide)(e:F=p++(XF c wide yes no++r))(hy:yes≠0)(hn:no≠0)(a:Nat):
 ∃a',Wl w (XF c wide yes no++r) a=JF w F (if opH c.o c.m c.v (Sq w wide c.a)=true then yes else no) a':=by
 obtain⟨ho,hv⟩:=hc;have A:wide=true\/c.v<4294967296:=hv.imp id (λh=>h.1);have D:∀(P:Prop) [Decidable P] (x y:Int),(if P then x else y)=(if ¬P then y else x):=λP _ x y=>by by_cases h:P<;>simp[h]
 unfold XF at e ⊢;unfold Sq opH;rcases ho with h|h|h|h|h
 ·rw[h] at e ⊢;simp only[if_true,Nat.reduceEqDiff,if_false] at e ⊢;obtain⟨a',C⟩:=zu hF hw e hy hn A a;exact⟨a',by rw[C];simp⟩
 ·rw[h] at e ⊢;simp only[if_true,Nat.reduceEqDiff,if_false] at e ⊢;obtain⟨a',C⟩:=zu hF hw e hn hy A a;exact⟨a',by rw[C,D];simp⟩
 ·rw[h] at e ⊢;simp only[if_true,Nat.reduceEqDiff,if_false] at e ⊢;obtain⟨a',C⟩:=EB hF hw e hn hy A a;exact⟨a',by rw[C,D];simp⟩
 ·rw[h] at e ⊢;simp only[if_true,Nat.reduceEqDiff,if_false] at e ⊢;obtain⟨a',C⟩:=EB hF hw e hy hn A a;exact⟨a',by rw[C];simp⟩
 ·rw[h] at e ⊢;simp only[if_true,Nat.reduceEqDiff,if_false] at e ⊢;obtain⟨a',C⟩:=mj hF hw e hy hn hv a;exact⟨a',by rw[C];simp⟩
structure G where
 l:List Z9
 n:Nat
 b:List (Nat×Nat)
def look:List (Nat×Nat)->Nat->Nat
 |[],_=>0
 |(c,m)::r,x=>if c=x then m else look r x
theorem R1:∀(b:List (Nat×Nat)) (c m x:Nat),look b c=0->(∀p∈b,p.2≠0)->look (b++[(c,m)]) x=if c=x then m else look b x
 |[],c,m,x,_,_=>rfl
 |(c0,m0)::r,c,m,x,h,hp=>by
  have C:m0≠0:=hp (c0,m0) jS;have A:c0≠c:=by rintro rfl;simp[look] at h;exact C h
  have J:look r c=0:=by unfold look at h;rwa [aN A] at h
  have D:=R1 r c m x J (λp I=>hp p (by simp[I]));rw[ahc];show(if c0=x then m0 else look (r++[(c,m)]) x)=if c=x then m else(if c0=x then m0 else look r x)
  rw[D];by_cases e:c0=x;·rw[aG e,aG e,aN (λe2=>A (e.trans e2.symm))]
  ·rw[aN e,aN e]
def G.put(g:G)(xs:List Z9):G:=⟨g.l++xs,g.n,g.b⟩
def G.here(g:G)(m:Nat):G:=⟨g.l++[Zr m],g.n,g.b⟩
def G.mark(g:G):G:=⟨g.l,g.n+1,g.b⟩
def G.goes(g:G)(c:Nat):G:=if look g.b c=0 then⟨g.l,g.n+1,g.b++[(c,g.n+1)]⟩ else g
def G.MQ(g:G)(t:Int):Prop:=∃c,look g.b c≠0/\((look g.b c:Nat):Int)=t
def PF(O:Int->Prop):List Z9->Prop
 |[]=>True
 |x::r=>PF O r/\(if x.mark≠0 then x.mark∉marks r else(x.t≠0->x.t∈marks r\/O x.t)/\(x.f≠0->x.f∈marks r\/O x.f))
theorem PF.app{O O':Int->Prop}:∀{a b:List Z9},PF O a->PF O' b->(∀m∈marks a,m∉marks b)->(∀t,O t->t∈marks b\/O' t)->PF O' (a++b)
 |[],_,_,hb,_,_=>hb
 |x::a,b,ha,hb,hd,ho=>by
  have C:=PF.app ha.1 hb (λm hm=>hd m (by
   by_cases hz:x.mark=0;·rw[Y2 hz];exact hm
   ·rw[Zq hz];exact afd _ hm)) ho
  refine⟨C,?_⟩;have A:=ha.2;by_cases hz:x.mark=0
  ·rw[aN (λe=>e hz)] at A ⊢
   have one:∀t,(t≠0->t∈marks a\/O t)->t≠0->t∈marks (a++b)\/O' t:=by
    intro t ht D;rw[WS,abe];rcases ht D with h|h;·exact .inl (.inl h)
    ·rcases ho t h with h|h;·exact .inl (.inr h)
     ·exact .inr h
   exact⟨one _ A.1,one _ A.2⟩
  ·rw[aG hz] at A ⊢
   have:x.mark∉marks (a++b):=by
    rw[WS,abe];rintro(h|h);·exact A h
    ·exact hd x.mark (by rw[Zq hz];simp) h
   exact this
theorem PF.mono{O O':Int->Prop}(h:∀t,O t->O' t):∀{a:List Z9},PF O a->PF O' a
 |[],_=>trivial
 |x::a,ha=>by
  refine⟨PF.mono h ha.1,?_⟩;have A:=ha.2;by_cases hz:x.mark=0;·rw[aN (λe=>e hz)] at A ⊢;exact⟨λe=>(A.1 e).imp id (h _),λe=>(A.2 e).imp id (h _)⟩
  ·rw[aG hz] at A ⊢;exact A
theorem PF.formed:∀{a:List Z9},PF (λ_=>False) a->ZR a
 |[],_=>trivial
 |x::a,h=>by
  refine⟨PF.formed h.1,?_⟩;have A:=h.2;by_cases hz:x.mark=0;·rw[aN (λe=>e hz)] at A ⊢;exact⟨λe=>(A.1 e).resolve_right id,λe=>(A.2 e).resolve_right id⟩
  ·rw[aG hz] at A ⊢;exact A
structure Ze(g:G)(K:Int->Prop):Prop where
 all:∀t:Int,(1<=t/\t<=g.n)↔(t∈marks g.l\/K t\/g.MQ t)
 xE:∀t,K t->t∉marks g.l/\¬g.MQ t
 xD:∀t,g.MQ t->t∉marks g.l
 pf:PF (λt=>K t\/g.MQ t) g.l
 one:∀c d,look g.b c=look g.b d->look g.b c≠0->c=d
 pos:∀p∈g.b,p.2≠0
def SF(g:G)(K:Int->Prop)(t:Int):Prop:=t=0\/K t\/g.MQ t
def Plain(g:G)(K:Int->Prop)(xs:List Z9):Prop:=∀x∈xs,x.mark=0/\SF g K x.t/\SF g K x.f
theorem RZ:∀{xs:List Z9},(∀x∈xs,x.mark=0)->marks xs=[]
 |[],_=>rfl
 |x::r,h=>by rw[Y2 (h x jS),RZ (λy hy=>h y (by simp[hy]))]
theorem EA{O:Int->Prop}:∀{xs:List Z9},(∀x∈xs,x.mark=0/\(x.t=0\/O x.t)/\(x.f=0\/O x.f))->PF O xs
 |[],_=>trivial
 |x::r,h=>by have hx:=h x jS;refine⟨EA (λy hy=>h y (by simp[hy])),?_⟩;rw[aN (λe=>e hx.1)];exact⟨λe=>.inr (hx.2.1.resolve_left e),λe=>.inr (hx.2.2.resolve_left e)⟩
theorem Ze.put{g:G} (h:Ze g K){xs:List Z9}(hx:Plain g K xs):Ze (g.put xs) K:=by
 have hm:marks (g.put xs).l=marks g.l:=by show marks (g.l++xs)=_;rw[WS,RZ (λx hy=>(hx x hy).1),ade]
 have hb:∀t,(g.put xs).MQ t↔g.MQ t:=λt=>Iff.rfl
 refine⟨λt=>by rw[hm];exact h.all t,λt hk=>by rw[hm];exact h.xE t hk,λt ht=>by rw[hm];exact h.xD t ht,?_,h.one,h.pos⟩;refine PF.app h.pf (EA (λx hy=>⟨(hx x hy).1,(hx x hy).2.1,(hx x hy).2.2⟩)) (λm _=> ?_) (λt ht=>.inr ht);rw[RZ (λx hy=>(hx x hy).1)];simp
theorem Ze.mark{g:G} (h:Ze g K):Ze g.mark (λt=>K t\/t=((g.n+1:Nat):Int)):=by
 have fresh:∀t:Int,t=((g.n+1:Nat):Int)->t∉marks g.l/\¬g.MQ t:=by
  intro t e;have:=(h.all t).2;constructor;·intro hm;have:=this (.inl hm);omega
  ·intro hm;have:=this (.inr (.inr hm));omega
 refine⟨λt=> ?_,λt hk=> ?_,h.xD,PF.mono (λt ht=>ht.imp .inl id) h.pf,h.one,h.pos⟩
 ·have:=h.all t;show(1<=t/\t<=((g.n+1:Nat):Int))↔(t∈marks g.l\/(K t\/t=((g.n+1:Nat):Int))\/g.MQ t);constructor
  ·rintro⟨A,C⟩;by_cases e:t=((g.n+1:Nat):Int);·exact .inr (.inl (.inr e))
   ·rcases this.1 ⟨A,jO⟩ with h|h|h;·exact .inl h
    ·exact .inr (.inl (.inl h))
    ·exact .inr (.inr h)
  ·rintro(h|(h|h)|h);·have:=this.2 (.inl h);omega
   ·have:=this.2 (.inr (.inl h));omega
   ·omega
   ·have:=this.2 (.inr (.inr h));omega
 ·rcases hk with hk|hk;·exact h.xE t hk
  ·exact fresh t hk
theorem Ze.here{g:G} {m:Nat}(h:Ze g (λt=>K t\/t=(m:Int)))(hm:m≠0)(hk:¬K m):Ze (g.here m) K:=by
 have A:marks (g.here m).l=marks g.l++[(m:Int)]:=by show marks (g.l++[Zr m])=_;rw[WS,Zq (show(Zr m).mark≠0 by show(m:Int)≠0;omega)];rfl
 have hn:=h.xE (m:Int) (.inr rfl);refine⟨λt=> ?_,λt ht=> ?_,λt ht=> ?_,?_,h.one,h.pos⟩
 ·rw[A,abe,aac];have:=h.all t;show(1<=t/\t<=(g.n:Int))↔_;rw[this];constructor
  ·rintro(h|(h|h)|h);·exact .inl (.inl h)
   ·exact .inr (.inl h)
   ·exact .inl (.inr h)
   ·exact .inr (.inr h)
  ·rintro((h|h)|h|h);·exact .inl h
   ·exact .inr (.inl (.inr h))
   ·exact .inr (.inl (.inl h))
   ·exact .inr (.inr h)
 ·rw[A,abe,aac];have:=h.xE t (.inl ht);refine⟨?_,this.2⟩;rintro(h|h);·exact this.1 h
  ·exact hk (h▸ht)
 ·rw[A,abe,aac];rintro(C|C);·exact h.xD t ht C
  ·exact hn.2 (C▸ht)
 ·refine PF.app h.pf (b:=[Zr m]) ?_ ?_ ?_;·refine⟨trivial,?_⟩;rw[aG (show(Zr m).mark≠0 by show(m:Int)≠0;omega)];simp[marks]
  ·intro t ht C;rw[Zq (show(Zr m).mark≠0 by show(m:Int)≠0;omega)] at C;have:t=(m:Int):=by simpa [marks,Zr] using C
   exact hn.1 (this▸ht)
  ·intro t ht;rw[Zq (show(Zr m).mark≠0 by show(m:Int)≠0;omega)];rcases ht with(ht|ht)|ht;·exact .inr (.inl ht)
   ·exact .inl (by rw[ht];simp[Zr])
   ·exact .inr (.inr ht)
theorem Ze.goes{g:G} (h:Ze g K)(c:Nat):Ze (g.goes c) K/\look (g.goes c).b c≠0/\(∀d,look g.b d≠0->look (g.goes c).b d=look g.b d)/\(g.goes c).l=g.l:=by
 unfold G.goes;by_cases J:look g.b c=0
 ·rw[aG J];have hl:∀x,look (g.b++[(c,g.n+1)]) x=if c=x then g.n+1 else look g.b x:=λx=>R1 g.b c (g.n+1) x J h.pos
  have fresh:((g.n+1:Nat):Int)∉marks g.l/\¬K ((g.n+1:Nat):Int)/\¬g.MQ ((g.n+1:Nat):Int):=by
   have:=(h.all ((g.n+1:Nat):Int)).2;refine⟨λhm=> ?_,λhm=> ?_,λhm=> ?_⟩;·have:=this (.inl hm);omega
   ·have:=this (.inr (.inl hm));omega
   ·have:=this (.inr (.inr hm));omega
  have T:∀t,(G.MQ ⟨g.l,g.n+1,g.b++[(c,g.n+1)]⟩ t)↔(g.MQ t\/t=((g.n+1:Nat):Int)):=by
   intro t;constructor
   ·rintro⟨x,hx,e⟩;have e2:((look (g.b++[(c,g.n+1)]) x:Nat):Int)=t:=e;have I:look (g.b++[(c,g.n+1)]) x≠0:=hx;rw[hl] at e2 I;by_cases hc:c=x;·rw[aG hc] at e2;exact .inr e2.symm
    ·rw[aN hc] at e2 I;exact .inl ⟨x,I,e2⟩
   ·rintro(⟨x,hx,e⟩|e)
    ·have hc:c≠x:=by rintro rfl;exact hx J
     refine⟨x,?_,?_⟩;·show look (g.b++[(c,g.n+1)]) x≠0;rw[hl,aN hc];exact hx
     ·show((look (g.b++[(c,g.n+1)]) x:Nat):Int)=t;rw[hl,aN hc];exact e
    ·refine⟨c,?_,?_⟩;·show look (g.b++[(c,g.n+1)]) c≠0;rw[hl,aG rfl];omega
     ·show((look (g.b++[(c,g.n+1)]) c:Nat):Int)=t;rw[hl,aG rfl];exact e.symm
  refine⟨⟨λt=> ?_,λt ht=> ?_,λt ht=> ?_,?_,λx y e hx=> ?_,λp hp=> ?_⟩,?_,λd hd=> ?_,rfl⟩
  ·rw[T];have:=h.all t;show(1<=t/\t<=((g.n+1:Nat):Int))↔(t∈marks g.l\/K t\/g.MQ t\/t=((g.n+1:Nat):Int));constructor
   ·rintro⟨U,C⟩;by_cases e:t=((g.n+1:Nat):Int);·exact .inr (.inr (.inr e))
    ·rcases this.1 ⟨U,jO⟩ with h|h|h;·exact .inl h
     ·exact .inr (.inl h)
     ·exact .inr (.inr (.inl h))
   ·rintro(h|h|h|h);·have:=this.2 (.inl h);omega
    ·have:=this.2 (.inr (.inl h));omega
    ·have:=this.2 (.inr (.inr h));omega
    ·omega
  ·rw[T];have:=h.xE t ht;refine⟨this.1,?_⟩;rintro(C|C);·exact this.2 C
   ·exact fresh.2.1 (C▸ht)
  ·rcases (T t).1 ht with C|C;·exact h.xD t C
   ·rw[C];exact fresh.1
  ·refine PF.mono (λt ht=> ?_) h.pf;rcases ht with ht|ht;·exact .inl ht
   ·exact .inr ((T t).2 (.inl ht))
  ·have e:look (g.b++[(c,g.n+1)]) x=look (g.b++[(c,g.n+1)]) y:=e;have hx:look (g.b++[(c,g.n+1)]) x≠0:=hx;rw[hl] at e hx;rw[hl] at e;by_cases D:c=x
   ·by_cases A:c=y;·exact D.symm.trans A
    ·rw[aG D,aN A] at e;exact absurd ⟨y,by rw[<-e];omega,by rw[<-e]⟩ fresh.2.2
   ·rw[aN D] at e hx;by_cases A:c=y;·rw[aG A] at e;exact absurd ⟨x,hx,by rw[e]⟩ fresh.2.2
    ·rw[aN A] at e;exact h.one x y e hx
  ·rcases abe.1 hp with hp|hp;·exact h.pos p hp
   ·rcases aac.1 hp with rfl;show g.n+1≠0;omega
  ·show look (g.b++[(c,g.n+1)]) c≠0;rw[hl,aG rfl];omega
  ·show look (g.b++[(c,g.n+1)]) d=_;rw[hl,aN];rintro rfl;exact hd J
 ·rw[aN J];exact⟨h,J,λ_ _=>rfl,rfl⟩
theorem Ez{c:Z5} {yes no:Int}:∀x∈XF c wide yes no,x.mark=0/\(x.t=0\/x.t=yes\/x.t=no)/\(x.f=0\/x.f=yes\/x.f=no):=by
 have same:∀(h l A C:Nat) (y n:Int),∀x∈R2 h l A C wide y n,x.mark=0/\(x.t=0\/x.t=y\/x.t=n)/\(x.f=0\/x.f=y\/x.f=n):=by
  intro h l A C y n x hx;unfold R2 ins at hx;cases wide<;>simp at hx
  ·rcases hx with rfl|rfl<;>simp
  ·rcases hx with rfl|rfl|rfl|rfl<;>simp
 have least:∀(h l A C:Nat) (y n:Int),∀x∈Vu h l A C wide y n,x.mark=0/\(x.t=0\/x.t=y\/x.t=n)/\(x.f=0\/x.f=y\/x.f=n):=by
  intro h l A C y n x hx;unfold Vu ins at hx;cases wide<;>simp at hx
  ·rcases hx with rfl|rfl<;>simp
  ·rcases hx with rfl|rfl|rfl|rfl|rfl<;>simp
 have mask:∀(h l A C I D:Nat) (y n:Int),∀x∈MR h l A C I D wide y n,x.mark=0/\(x.t=0\/x.t=y\/x.t=n)/\(x.f=0\/x.f=y\/x.f=n):=by
  intro h l A C I D y n x hx;unfold MR ins at hx;cases wide<;>simp at hx
  ·rcases hx with rfl|rfl|rfl<;>simp
  ·rcases hx with rfl|rfl|rfl|rfl|rfl|rfl<;>simp
 intro x hx;unfold XF at hx;split at hx;·exact same _ _ _ _ _ _ x hx
 ·split at hx;·have:=same _ _ _ _ _ _ x hx;exact⟨this.1,this.2.1.imp id Or.symm,this.2.2.imp id Or.symm⟩
  ·split at hx;·have:=least _ _ _ _ _ _ x hx;exact⟨this.1,this.2.1.imp id Or.symm,this.2.2.imp id Or.symm⟩
   ·split at hx;·exact least _ _ _ _ _ _ x hx
    ·exact mask _ _ _ _ _ _ _ _ x hx
structure Yt(g g':G):Prop where
 l:∃xs,g'.l=g.l++xs
 n:g.n<=g'.n
 b:∀c,look g.b c≠0->look g'.b c=look g.b c
theorem Yt.refl(g:G):Yt g g:=⟨⟨[],jS⟩,aR _,λ_ _=>rfl⟩
theorem Yt.trans{a b c:G}(h:Yt a b)(k:Yt b c):Yt a c:=by
 obtain⟨xs,A⟩:=h.l;obtain⟨ys,C⟩:=k.l;exact⟨⟨xs++ys,by rw[C,A,aba]⟩,aO h.n k.n,λx hx=>by rw[k.b x (by rw[h.b x hx];exact hx),h.b x hx]⟩
theorem Yt.put(g:G)(xs:List Z9):Yt g (g.put xs):=⟨⟨xs,rfl⟩,aR _,λ_ _=>rfl⟩
theorem Yt.here(g:G)(m:Nat):Yt g (g.here m):=⟨⟨[Zr m],rfl⟩,aR _,λ_ _=>rfl⟩
theorem Yt.mark(g:G):Yt g g.mark:=⟨⟨[],by simp[G.mark]⟩,azf _,λ_ _=>rfl⟩
theorem Yt.goes{g:G} (h:Ze g K)(c:Nat):Yt g (g.goes c):=by
 obtain⟨_,_,C,A⟩:=h.goes c;refine⟨⟨[],by rw[A];simp⟩,?_,C⟩;unfold G.goes;split;·exact azf _
 ·exact aR _
theorem Yt.MQ{g g':G}(h:Yt g g') (ht:g.MQ t):g'.MQ t:=by
 obtain⟨c,A,C⟩:=ht;exact⟨c,by rw[h.b c A];exact A,by rw[h.b c A];exact C⟩
theorem Ze.congr{g:G}{K':Int->Prop}(h:Ze g K)(e:∀t,K t↔K' t):Ze g K':=
 ⟨λt=>by rw[h.all t,e t],λt ht=>h.xE t ((e t).2 ht),h.xD,PF.mono (λt ht=>ht.imp (e t).1 id) h.pf,h.one,h.pos⟩
def Zg(wide:Bool)(next:Nat):List Z5->G->G
 |[],g=>g
 |c::cs,g=>Zg wide next cs ((g.mark.put (XF c wide ((g.n+1:Nat):Int) next)).here (g.n+1))
theorem Q8(wide:Bool)(next:Nat):∀(cs:List Z5) (g:G),Yt g (Zg wide next cs g)
 |[],g=>Yt.refl g
 |c::cs,g=>(((Yt.mark g).trans (Yt.put _ _)).trans (Yt.here _ _)).trans (Q8 wide next cs _)
theorem Pr(wide:Bool)(next:Nat){K:Int->Prop}:∀(cs:List Z5) (g:G),Ze g K->K next->Ze (Zg wide next cs g) K/\(Zg wide next cs g).b=g.b
 |[],g,h,_=>⟨h,rfl⟩
 |c::cs,g,h,hn=>by
  have I:=h.mark;have C:Ze (g.mark.put (XF c wide ((g.n+1:Nat):Int) next)) (λt=>K t\/t=((g.n+1:Nat):Int)):=I.put (λx hx=>by
   have:=Ez x hx;have A:∀t:Int,(t=0\/t=((g.n+1:Nat):Int)\/t=(next:Int))->SF g.mark (λt=>K t\/t=((g.n+1:Nat):Int)) t:=by
    rintro t (e|e|e);·exact .inl e
    ·exact .inr (.inl (.inr e))
    ·exact .inr (.inl (.inl (by rw[e];exact hn)))
   exact⟨this.1,A _ this.2.1,A _ this.2.2⟩)
  have hk:¬K ((g.n+1:Nat):Int):=λe=>by have:=(h.all ((g.n+1:Nat):Int)).2 (.inr (.inl e));omega
  have T:=C.here (m:=g.n+1) jO hk;obtain⟨D,J⟩:=Pr wide next cs _ T hn;exact⟨D,J⟩
def GI(w:Nat->Nat)(wide:Bool)(cs:List Z5):Bool:=cs.all λc=>opH c.o c.m c.v (Sq w wide c.a)
theorem Ey{w:Nat->Nat}{F:List Z9}{wide:Bool}{next:Nat}(hF:ZR F)(hw:GJ w)(hn:next≠0):∀(cs:List Z5) (g:G) (s rest:List Z9),(∀c∈cs,c.ok wide)->F=g.l++s->F=(Zg wide next cs g).l++rest->∀a,∃a',Wl w s a=if GI w wide cs=true then Wl w rest a' else JF w F next a'
 |[],g,s,rest,_,e1,e2,a=>by have:s=rest:=aka (e1.symm.trans e2);subst this;exact⟨a,by simp[GI]⟩
 |c::cs,g,s,rest,hc,e1,e2,a=>by
  obtain⟨xs,C⟩:=(Q8 wide next cs ((g.mark.put (XF c wide ((g.n+1:Nat):Int) next)).here (g.n+1))).l;have e3:F=(g.l++XF c wide ((g.n+1:Nat):Int) next++[Zr ((g.n+1:Nat):Int)])++(xs++rest):=by rw[e2];show(Zg wide next cs ((g.mark.put (XF c wide ((g.n+1:Nat):Int) next)).here (g.n+1))).l++rest=_;rw[C,aba];rfl
  have hs:s=XF c wide ((g.n+1:Nat):Int) next++(Zr ((g.n+1:Nat):Int)::(xs++rest)):=by refine(aka (?_:g.l++_=g.l++_):_=_);rw[<-e1,e3];simp
  obtain⟨a1,D⟩:=mi (yes:=((g.n+1:Nat):Int)) (no:=(next:Int)) hF hw (hc c jS) (by rw[<-hs];exact e1) jO jO a;rw[hs,D];unfold GI;rw[List.all_cons];by_cases A:opH c.o c.m c.v (Sq w wide c.a)=true
  ·rw[aG A,A,Bool.true_and];have e4:F=(g.l++XF c wide ((g.n+1:Nat):Int) next)++Zr ((g.n+1:Nat):Int)::(xs++rest):=by rw[e3];simp
   rw[TH hF e4 jO];exact Ey hF hw hn cs _ (xs++rest) rest (λd hd=>hc d (by simp[hd])) e3 e2 a1
  ·rw[aN A];have:opH c.o c.m c.v (Sq w wide c.a)=false:=by simpa using A
   refine⟨a1,?_⟩;rw[this,Bool.false_and,aN jD]
abbrev Z3:=List Z5×Nat
def XN(wide:Bool)(ow:Nat):List Z3->G->G
 |[],g=>g.put [ins 0x05 0 ow 0]
 |(cs,code)::rs,g=>XN wide ow rs ((((Zg wide (g.n+1) cs g.mark).goes code).put [ins 0x05 0 (look ((Zg wide (g.n+1) cs g.mark).goes code).b code) 0]).here (g.n+1))
def Pq(w:Nat->Nat)(wide:Bool)(d:Nat):List Z3->Nat
 |[]=>d
 |(cs,code)::rs=>if GI w wide cs=true then code else Pq w wide d rs
theorem Po(wide:Bool)(ow:Nat){K:Int->Prop}:∀(rs:List Z3) (g:G),Ze g K->SF g K ow->Ze (XN wide ow rs g) K/\Yt g (XN wide ow rs g)
 |[],g,h,ho=>⟨h.put (λx hx=>by rcases aac.1 hx with rfl;exact⟨rfl,ho,.inl rfl⟩),Yt.put _ _⟩
 |(cs,code)::rs,g,h,ho=>by
  have I:=h.mark;obtain⟨D,h2b⟩:=Pr wide (g.n+1) cs g.mark I (.inr rfl);have Z:=(Yt.mark g).trans (Q8 wide (g.n+1) cs g.mark);obtain⟨T,A,_,_⟩:=D.goes code;have l3:=Z.trans (Yt.goes D code);have U:=T.put (xs:=[ins 0x05 0 (look ((Zg wide (g.n+1) cs g.mark).goes code).b code) 0]) (λx hx=>by rcases aac.1 hx with rfl;exact⟨rfl,.inr (.inr ⟨code,A,rfl⟩),.inl rfl⟩)
  have hk:¬K ((g.n+1:Nat):Int):=λe=>by have:=(h.all ((g.n+1:Nat):Int)).2 (.inr (.inl e));omega
  have J:=U.here (m:=g.n+1) jO hk;have C:=(l3.trans (Yt.put _ [ins 0x05 0 (look ((Zg wide (g.n+1) cs g.mark).goes code).b code) 0])).trans (Yt.here _ (g.n+1));obtain⟨Y,h7⟩:=Po wide ow rs _ J (ho.imp id (λh=>h.imp id C.MQ));exact⟨Y,C.trans h7⟩
def Pn(w:Nat->Nat)(F:List Z9)(Bk:Nat->Nat):Prop:=∀c,Bk c≠0->∀a,JF w F (Bk c) a=some c
def XS(b:List (Nat×Nat))(Bk:Nat->Nat):Prop:=∀c,look b c≠0->Bk c=look b c
theorem XS.back{g g':G} (h:XS g'.b Bk)(l:Yt g g'):XS g.b Bk:=λc hc=>by
 have:=l.b c hc;rw[h c (by rw[this];exact hc),this]
theorem Ex{w:Nat->Nat}{F:List Z9}{Bk:Nat->Nat}{wide:Bool}{ow d:Nat}{K:Int->Prop}(hF:ZR F)(hw:GJ w)(hB:Pn w F Bk)(ho:ow≠0)(hd:∀a,JF w F ow a=some d):
 ∀(rs:List Z3) (g:G) (s rest:List Z9),(∀r∈rs,∀c∈r.1,c.ok wide)->Ze g K->SF g K ow->XS (XN wide ow rs g).b Bk->F=g.l++s->F=(XN wide ow rs g).l++rest->∀a,Wl w s a=some (Pq w wide d rs)
 |[],g,s,rest,_,_,_,_,e1,e2,a=>by
  have e3:F=g.l++([ins 0x05 0 ow 0]++rest):=by rw[e2,<-aba];rfl
  have hs:s=ins 0x05 0 ow 0::rest:=aka (e1.symm.trans e3);rw[hs];rw[show ins 0x05 0 ow 0=⟨0,0x05,0,ow,0⟩ from rfl,Lu hF (p:=g.l) (by rw[e3];rfl) jO a,hd];rfl
 |(cs,code)::rs,g,s,rest,hc,h,mg,hA,e1,e2,a=>by
  have h1:=h.mark;obtain⟨h2,h2b⟩:=Pr wide (g.n+1) cs g.mark h1 (.inr rfl);obtain⟨h3,C,_,D⟩:=h2.goes code;have hk:¬K ((g.n+1:Nat):Int):=λe=>by have:=(h.all ((g.n+1:Nat):Int)).2 (.inr (.inl e));omega
  have h4:=h3.put (xs:=[ins 0x05 0 (look ((Zg wide (g.n+1) cs g.mark).goes code).b code) 0]) (λx hx=>by rcases aac.1 hx with rfl;exact⟨rfl,.inr (.inr ⟨code,C,rfl⟩),.inl rfl⟩)
  have h5:=h4.here (m:=g.n+1) jO hk;have l3:=((Yt.mark g).trans (Q8 wide (g.n+1) cs g.mark)).trans (Yt.goes h2 code);have l5:=(l3.trans (Yt.put _ [ins 0x05 0 (look ((Zg wide (g.n+1) cs g.mark).goes code).b code) 0])).trans (Yt.here _ (g.n+1));have A:=mg.imp id (λh=>h.imp id l5.MQ);obtain⟨h6,l6⟩:=Po wide ow rs _ h5 A;obtain⟨xs,Z⟩:=l6.l;obtain⟨M,J⟩:∃M,M=look ((Zg wide (g.n+1) cs g.mark).goes code).b code:=⟨_,rfl⟩;have I:Bk code=M:=by rw[J];exact(hA.back l6) code C
  have U:M≠0:=by rw[J];exact C
  have e3:F=(Zg wide (g.n+1) cs g.mark).l++(ins 0x05 0 M 0::Zr ((g.n+1:Nat):Int)::(xs++rest)):=by rw[e2];show(XN wide ow rs ((((Zg wide (g.n+1) cs g.mark).goes code).put [ins 0x05 0 (look ((Zg wide (g.n+1) cs g.mark).goes code).b code) 0]).here (g.n+1))).l++rest=_;rw[Z];show(((Zg wide (g.n+1) cs g.mark).goes code).l++[ins 0x05 0 (look ((Zg wide (g.n+1) cs g.mark).goes code).b code) 0]++[Zr ((g.n+1:Nat):Int)]++xs)++rest=_;rw[<-J,D];simp
  obtain⟨a1,h7⟩:=Ey (next:=g.n+1) hF hw jO cs g.mark s (ins 0x05 0 M 0::Zr ((g.n+1:Nat):Int)::(xs++rest)) (λc Y=>hc (cs,code) jS c Y) e1 e3 a;rw[h7];show _=some (if GI w wide cs=true then code else Pq w wide d rs);by_cases T:GI w wide cs=true;·rw[aG T,aG T,show ins 0x05 0 M 0=⟨0,0x05,0,(M:Int),0⟩ from rfl,Lu hF (p:=(Zg wide (g.n+1) cs g.mark).l) (by rw[e3];rfl) jO a1,<-I];exact hB code (by rw[I];exact U) a1
  ·rw[aN T,aN T];have e4:F=((Zg wide (g.n+1) cs g.mark).l++[ins 0x05 0 M 0])++Zr ((g.n+1:Nat):Int)::(xs++rest):=by rw[e3];simp
   rw[TH hF e4 jO];refine Ex hF hw hB ho hd rs _ (xs++rest) rest (λr hr=>hc r (by simp[hr])) h5 A hA ?_ (by rw[e2];rfl) a1;show F=(((Zg wide (g.n+1) cs g.mark).goes code).l++[ins 0x05 0 (look ((Zg wide (g.n+1) cs g.mark).goes code).b code) 0]++[Zr ((g.n+1:Nat):Int)])++(xs++rest);rw[D,<-J,e3];simp
def ZH(ow:Nat)(l:List (Nat×Nat))(g:G):G:=
 match l with
 |[]=>g.put [ins 0x05 0 ow 0]
 |[(k,m)]=>g.put [ins 0x15 k m ow]
 |x::y::r=>ZH ow ((x::y::r).drop ((x::y::r).length/2)) ((ZH ow ((x::y::r).take ((x::y::r).length/2)) (g.mark.put [ins 0x35 ((x::y::r).getD ((x::y::r).length/2) (0,0)).1 ((g.n+1:Nat):Int) 0])).here (g.n+1))
termination_by l.length
decreasing_by
 all_goals simp
 all_goals omega
theorem XE(ow:Nat)(g:G):ZH ow [] g=g.put [ins 0x05 0 ow 0]:=by unfold ZH;rfl
theorem XD(ow k m:Nat)(g:G):ZH ow [(k,m)] g=g.put [ins 0x15 k m ow]:=by unfold ZH;rfl
theorem XZ(ow:Nat)(l:List (Nat×Nat))(h:2<=l.length)(g:G):ZH ow l g=ZH ow (l.drop (l.length/2)) ((ZH ow (l.take (l.length/2)) (g.mark.put [ins 0x35 (l.getD (l.length/2) (0,0)).1 ((g.n+1:Nat):Int) 0])).here (g.n+1)):=by
 match l,h with
 |x::y::r,_=>conv=>lhs;unfold ZH
def VL(l:List (Nat×Nat))(a:Nat):Option Nat:=(l.find? (λp=>p.1 == a)).map (·.2)
def SE(l:List (Nat×Nat)):Prop:=l.Pairwise (λp q=>p.1<q.1)
theorem WY(ow:Nat){K:Int->Prop}:∀(k:Nat) (l:List (Nat×Nat)) (g:G),l.length<=k->Ze g K->SF g K ow->(∀p∈l,SF g K (p.2:Int))->Ze (ZH ow l g) K/\Yt g (ZH ow l g)
 |k,[],g,_,h,ho,_=>by
  rw[XE];exact⟨h.put (λx hx=>by rcases aac.1 hx with rfl;exact⟨rfl,ho,.inl rfl⟩),Yt.put _ _⟩
 |k,[(q,m)],g,_,h,ho,hm=>by
  rw[XD];exact⟨h.put (λx hx=>by rcases aac.1 hx with rfl;exact⟨rfl,hm (q,m) jS,ho⟩),Yt.put _ _⟩
 |0,x::y::r,g,hk,_,_,_=>by simp at hk
 |k+1,x::y::r,g,hk,h,ho,hm=>by
  have h2:2<=(x::y::r).length:=jS;rw[XZ ow _ h2];generalize x::y::r=l at*;have T:=h.mark;have J:¬K ((g.n+1:Nat):Int):=λe=>by have:=(h.all ((g.n+1:Nat):Int)).2 (.inr (.inl e));omega
  have h3:Ze (g.mark.put [ins 0x35 (l.getD (l.length/2) (0,0)).1 ((g.n+1:Nat):Int) 0]) (λt=>K t\/t=((g.n+1:Nat):Int)):=T.put (λx hx=>by rcases aac.1 hx with rfl;exact⟨rfl,.inr (.inl (.inr rfl)),.inl rfl⟩)
  have I:Yt g (g.mark.put [ins 0x35 (l.getD (l.length/2) (0,0)).1 ((g.n+1:Nat):Int) 0]):=(Yt.mark g).trans (Yt.put _ _);have up:∀{t:Int} {g':G},Yt g g'->SF g K t->SF g' (λt=>K t\/t=((g.n+1:Nat):Int)) t:=λA ht=>ht.imp id (λh=>h.imp .inl A.MQ)
  have C:∀{t:Int} {g':G},Yt g g'->SF g K t->SF g' K t:=λA ht=>ht.imp id (λh=>h.imp id A.MQ)
  obtain⟨h4,Y⟩:=WY ow k (l.take (l.length/2)) _ (by rw[abg];omega) h3 (up I ho) (λp hp=>up I (hm p (alc hp)));have Z:=h4.here (m:=g.n+1) jO J;have D:=(I.trans Y).trans (Yt.here _ (g.n+1));obtain⟨h6,U⟩:=WY ow k (l.drop (l.length/2)) _ (by rw[ahg];omega) Z (C D ho) (λp hp=>C D (hm p (apd hp)));exact⟨h6,D.trans U⟩
theorem tH{l:List (Nat×Nat)}(hr:SE l) (A:h<l.length) (ha:a<(l.getD h (0,0)).1):VL l a=VL (l.take h) a:=by
 unfold VL
 conv=>lhs;rw[<-aod h l]
 rw[awf];have:(l.drop h).find? (λp=>p.1 == a)=none:=by
  rw[ayg];intro p hp;obtain⟨j,C,rfl⟩:=agb.1 hp;rw[List.getElem_drop];rw[ahg] at C;have D:l.getD h (0,0)=l[h]:=by rw[afg,aM A];rfl
  rw[D] at ha;have:l[h].1<=l[h+j].1:=by
   by_cases e:j=0;·subst e;simp
   ·exact ace (amb.1 hr h (h+j) A jO jO)
  simp;omega
 rw[this];simp
theorem xz{l:List (Nat×Nat)}(hr:SE l) (A:h<l.length) (ha:(l.getD h (0,0)).1<=a):VL l a=VL (l.drop h) a:=by
 unfold VL
 conv=>lhs;rw[<-aod h l]
 rw[awf];have:(l.take h).find? (λp=>p.1 == a)=none:=by
  rw[ayg];intro p hp;obtain⟨j,C,rfl⟩:=agb.1 hp;rw[List.getElem_take];rw[abg] at C;have D:l.getD h (0,0)=l[h]:=by rw[afg,aM A];rfl
  rw[D] at ha;have:l[j].1<l[h].1:=amb.1 hr j h jO A jO;simp;omega
 rw[this];simp
theorem Q7{w:Nat->Nat}{F:List Z9}{ow:Nat}{K:Int->Prop}(hF:ZR F)(ho:ow≠0):
 ∀(k:Nat) (l:List (Nat×Nat)) (g:G) (s rest:List Z9),l.length<=k->SE l->(∀p∈l,p.2≠0)->Ze g K->SF g K ow->(∀p∈l,SF g K (p.2:Int))->F=g.l++s->F=(ZH ow l g).l++rest->∀a,Wl w s a=JF w F ((VL l a).getD ow:Nat) a
 |k,[],g,s,rest,_,_,_,_,_,_,e1,e2,a=>by
  rw[XE] at e2;have e3:F=g.l++([ins 0x05 0 ow 0]++rest):=by rw[e2,<-aba];rfl
  have hs:s=ins 0x05 0 ow 0::rest:=aka (e1.symm.trans e3);rw[hs,show ins 0x05 0 ow 0=⟨0,0x05,0,ow,0⟩ from rfl,Lu hF (p:=g.l) (by rw[e3];rfl) jO a];rfl
 |k,[(q,m)],g,s,rest,_,_,hp,_,_,_,e1,e2,a=>by
  rw[XD] at e2;have hm:m≠0:=hp (q,m) jS;have e3:F=g.l++([ins 0x15 q m ow]++rest):=by rw[e2,<-aba];rfl
  have hs:s=ins 0x15 q m ow::rest:=aka (e1.symm.trans e3);rw[hs,Zm hF (p:=g.l) (by rw[e3];rfl) rfl,XM];unfold VL;by_cases h:a=q;·subst h;rw[aG jS,aN (show ¬(m:Int)=0 from jO)];simp
  ·rw[aN (by simpa using h),aN (show ¬(ow:Int)=0 from jO),anb (by simpa using λe=>h e.symm)];rfl
 |0,x::y::r,g,s,rest,hk,_,_,_,_,_,_,_,_=>by simp at hk
 |k+1,x::y::r,g,s,rest,hk,hr,hp,h,mg,hm,e1,e2,a=>by
  have h2:2<=(x::y::r).length:=jS;rw[XZ ow _ h2] at e2;generalize x::y::r=l at*;have hh:l.length/2<l.length:=jO;have h1:=h.mark;have U:¬K ((g.n+1:Nat):Int):=λe=>by have:=(h.all ((g.n+1:Nat):Int)).2 (.inr (.inl e));omega
  have h3:Ze (g.mark.put [ins 0x35 (l.getD (l.length/2) (0,0)).1 ((g.n+1:Nat):Int) 0]) (λt=>K t\/t=((g.n+1:Nat):Int)):=h1.put (λx hx=>by rcases aac.1 hx with rfl;exact⟨rfl,.inr (.inl (.inr rfl)),.inl rfl⟩)
  have D:Yt g (g.mark.put [ins 0x35 (l.getD (l.length/2) (0,0)).1 ((g.n+1:Nat):Int) 0]):=(Yt.mark g).trans (Yt.put _ _);have up:∀{t:Int} {g':G},Yt g g'->SF g K t->SF g' (λt=>K t\/t=((g.n+1:Nat):Int)) t:=λC ht=>ht.imp id (λh=>h.imp .inl C.MQ)
  have A:∀{t:Int} {g':G},Yt g g'->SF g K t->SF g' K t:=λC ht=>ht.imp id (λh=>h.imp id C.MQ)
  obtain⟨h4,Z⟩:=WY ow _ (l.take (l.length/2)) _ (aR _) h3 (up D mg) (λp hp=>up D (hm p (alc hp)));have h5:=h4.here (m:=g.n+1) jO U;have I:=(D.trans Z).trans (Yt.here _ (g.n+1));obtain⟨h6,l6⟩:=WY ow _ (l.drop (l.length/2)) _ (aR _) h5 (A I mg) (λp hp=>A I (hm p (apd hp)));obtain⟨xs,Y⟩:=Z.l;obtain⟨ys,T⟩:=l6.l;have e4:F=((ZH ow (l.take (l.length/2)) (g.mark.put [ins 0x35 (l.getD (l.length/2) (0,0)).1 ((g.n+1:Nat):Int) 0])).here (g.n+1)).l++(ys++rest):=by rw[e2,T,aba]
  have e5:F=(ZH ow (l.take (l.length/2)) (g.mark.put [ins 0x35 (l.getD (l.length/2) (0,0)).1 ((g.n+1:Nat):Int) 0])).l++(Zr ((g.n+1:Nat):Int)::(ys++rest)):=by rw[e4];show((ZH ow (l.take (l.length/2)) (g.mark.put [ins 0x35 (l.getD (l.length/2) (0,0)).1 ((g.n+1:Nat):Int) 0])).l++[Zr ((g.n+1:Nat):Int)])++(ys++rest)=_;rw[aba];rfl
  have e6:F=(g.mark.put [ins 0x35 (l.getD (l.length/2) (0,0)).1 ((g.n+1:Nat):Int) 0]).l++(xs++(Zr ((g.n+1:Nat):Int)::(ys++rest))):=by rw[e5,Y,aba]
  have e7:F=g.l++(ins 0x35 (l.getD (l.length/2) (0,0)).1 ((g.n+1:Nat):Int) 0::(xs++(Zr ((g.n+1:Nat):Int)::(ys++rest)))):=by rw[e6];show(g.l++[ins 0x35 (l.getD (l.length/2) (0,0)).1 ((g.n+1:Nat):Int) 0])++_=_;rw[aba];rfl
  have hs:=aka (e1.symm.trans e7);rw[hs,Zm hF e7 rfl,GK];by_cases ha:(l.getD (l.length/2) (0,0)).1<=a;·rw[aG (adb ha),aN (show ¬((g.n+1:Nat):Int)=0 from jO),TH hF e5 jO,xz hr hh ha];exact Q7 hF ho k (l.drop (l.length/2)) _ (ys++rest) rest (by rw[ahg];omega) (hr.sublist (List.drop_sublist _ _)) (λp J=>hp p (apd J)) h5 (A I mg) (λp hp=>A I (hm p (apd hp))) e4 e2 a
  ·rw[aN (by rw[aee ha];decide),aG rfl,tH hr hh jO];exact Q7 hF ho k (l.take (l.length/2)) _ _ _ (by rw[abg];omega) (hr.sublist (List.take_sublist _ _)) (λp J=>hp p (alc J)) h3 (up D mg) (λp hp=>up D (hm p (alc hp))) e6 e5 a
def Zx:List (Nat×Nat)->G->G
 |[],g=>g
 |p::r,g=>Zx r (g.goes p.2)
def WK(ow:Nat)(l:List (Nat×Nat))(g:G):G:=ZH ow (l.map λp=>(p.1,look (Zx l (g.put [ins 0x20 16 0 0])).b p.2)) (Zx l (g.put [ins 0x20 16 0 0]))
def dB(w:Nat->Nat)(d:Nat)(l:List (Nat×Nat)):Nat:=((l.find? (λp=>p.1 == w 16)).map (·.2)).getD d
theorem RY{K:Int->Prop}:∀(l:List (Nat×Nat)) (g:G),Ze g K->Ze (Zx l g) K/\Yt g (Zx l g)/\(Zx l g).l=g.l/\∀p∈l,look (Zx l g).b p.2≠0
 |[],g,h=>⟨h,Yt.refl g,rfl,λp hp=>by cases hp⟩
 |p::r,g,h=>by
  obtain⟨T,D,Z,I⟩:=h.goes p.2;obtain⟨J,C,U,Y⟩:=RY r _ T;refine⟨J,(Yt.goes h p.2).trans C,U.trans I,λq A=> ?_⟩;rcases abf.1 A with rfl|A
  ·show look (Zx r (g.goes q.2)).b q.2≠0;rw[C.b _ D];exact D
  ·exact Y q A
theorem Pm{g:G} (k:Nat):Plain g K [ins 0x20 k 0 0]:=λx hx=>by
 rcases aac.1 hx with rfl;exact⟨rfl,.inl rfl,.inl rfl⟩
theorem SF.up{g g':G}(h:Yt g g')(ht:SF g K t):SF g' K t:=ht.imp id (λe=>e.imp id h.MQ)
theorem tG(ow:Nat) (l:List (Nat×Nat))(g:G)(h:Ze g K)(ho:SF g K ow):Ze (WK ow l g) K/\Yt g (WK ow l g):=by
 have J:=h.put (Pm (g:=g) (K:=K) 16);have C:=Yt.put g [ins 0x20 16 0 0];obtain⟨Y,A,_,I⟩:=RY l _ J;obtain⟨U,D⟩:=WY ow _ (l.map λp=>(p.1,look (Zx l (g.put [ins 0x20 16 0 0])).b p.2)) _ (aR _) Y (SF.up (C.trans A) ho) (λp hp=>by obtain⟨q,T,rfl⟩:=ai.1 hp;exact .inr (.inr ⟨q.2,I q T,rfl⟩))
 exact⟨U,(C.trans A).trans D⟩
theorem tF(l:List (Nat×Nat))(f:Nat->Nat)(a:Nat):VL (l.map λp=>(p.1,f p.2)) a=((l.find? (λp=>p.1 == a)).map (·.2)).map f:=by
 unfold VL
 induction l with
 |nil=>rfl
 |cons p r A=>
  rw[aec];by_cases h:p.1=a;·rw[aqc (by simpa using h),aqc (by simpa using h)];rfl
  ·rw[anb (by simpa using h),anb (by simpa using h)];exact A
theorem mf{w:Nat->Nat}{F:List Z9}{Bk:Nat->Nat}{ow d:Nat}{K:Int->Prop}(hF:ZR F)(hB:Pn w F Bk)(ho:ow≠0)(hd:∀a,JF w F ow a=some d)
 (l:List (Nat×Nat)) (g:G) (s rest:List Z9) (hr:SE l) (h:Ze g K) (J:SF g K ow) (hA:XS (WK ow l g).b Bk) (e1:F=g.l++s) (e2:F=(WK ow l g).l++rest) (a:Nat):Wl w s a=some (dB w d l):=by
 have h1:=h.put (Pm (g:=g) (K:=K) 16);have l1:=Yt.put g [ins 0x20 16 0 0];obtain⟨h2,l2,h3,I⟩:=RY l _ h1;have hm:∀p∈(l.map λp=>(p.1,look (Zx l (g.put [ins 0x20 16 0 0])).b p.2)),SF (Zx l (g.put [ins 0x20 16 0 0])) K (p.2:Int):=λp hp=>by obtain⟨q,U,rfl⟩:=ai.1 hp;exact .inr (.inr ⟨q.2,I q U,rfl⟩)
 have T:∀p∈(l.map λp=>(p.1,look (Zx l (g.put [ins 0x20 16 0 0])).b p.2)),p.2≠0:=λp hp=>by obtain⟨q,U,rfl⟩:=ai.1 hp;exact I q U
 have A:=SF.up (l1.trans l2) J;obtain⟨h5,Z⟩:=WY ow _ (l.map λp=>(p.1,look (Zx l (g.put [ins 0x20 16 0 0])).b p.2)) _ (aR _) h2 A hm;have D:XS (Zx l (g.put [ins 0x20 16 0 0])).b Bk:=XS.back (g':=WK ow l g) hA Z;obtain⟨xs,Y⟩:=Z.l;have e3:F=(Zx l (g.put [ins 0x20 16 0 0])).l++(xs++rest):=by rw[e2,<-aba,<-Y];rfl
 have e4:F=g.l++(ins 0x20 16 0 0::(xs++rest)):=by rw[e3,h3];show(g.l++[ins 0x20 16 0 0])++_=_;rw[aba];rfl
 have hs:=aka (e1.symm.trans e4);rw[hs,show ins 0x20 16 0 0=⟨0,0x20,16,0,0⟩ from rfl,W9];have C:SE (l.map λp=>(p.1,look (Zx l (g.put [ins 0x20 16 0 0])).b p.2)):=by unfold SE;rw[aeg];exact hr
 rw[Q7 hF ho _ _ _ (xs++rest) rest (aR _) C T h2 A hm e3 e2 (w 16),tF l (λc=>look (Zx l (g.put [ins 0x20 16 0 0])).b c)];unfold dB;cases hf:l.find? (λp=>p.1 == w 16) with
 |none=>exact hd _
 |some p=>
  have hp:=List.mem_of_find?_eq_some hf;show JF w F ((look (Zx l (g.put [ins 0x20 16 0 0])).b p.2:Nat):Int) (w 16)=some p.2;rw[<-D p.2 (I p hp)];exact hB p.2 (by rw[D p.2 (I p hp)];exact I p hp) _
inductive ZM where
 |rules (wide:Bool) (rs:List Z3)
 |subs (l:List (Nat×Nat))
def VV(ow:Nat):ZM->G->G
 | .rules wide rs,g=>XN wide ow rs g
 | .subs l,g=>WK ow l g
def tE(w:Nat->Nat)(d:Nat):ZM->Nat
 | .rules wide rs=>Pq w wide d rs
 | .subs l=>dB w d l
def GH:ZM->Prop
 | .rules wide rs=>∀r∈rs,∀c∈r.1,c.ok wide
 | .subs l=>SE l
theorem Ew(ow:Nat){K:Int->Prop}(p:ZM)(g:G)(h:Ze g K)(ho:SF g K ow):Ze (VV ow p g) K/\Yt g (VV ow p g):=by
 cases p with
 |rules wide rs=>exact Po wide ow rs g h ho
 |subs l=>exact tG ow l g h ho
theorem l8{w:Nat->Nat}{F:List Z9}{Bk:Nat->Nat}{ow d:Nat}{K:Int->Prop}(hF:ZR F)(hw:GJ w)(C:Pn w F Bk)(ho:ow≠0)(hd:∀a,JF w F ow a=some d)
 (p:ZM) (g:G) (s rest:List Z9) (hp:GH p) (h:Ze g K) (A:SF g K ow) (hA:XS (VV ow p g).b Bk) (e1:F=g.l++s) (e2:F=(VV ow p g).l++rest) (a:Nat):Wl w s a=some (tE w d p):=by
 cases p with
 |rules wide rs=>exact Ex hF hw C ho hd rs g s rest hp h A hA e1 e2 a
 |subs l=>exact mf hF C ho hd l g s rest hp h A hA e1 e2 a
def Yb(ow:Nat):List ZM->Nat->G->G
 |[],_,g=>g
 |p::ps,m,g=>Yb ow ps (m+1) (VV ow p (g.here m))
def Span(m k:Nat)(t:Int):Prop:=(m:Int)<=t/\t<((m+k:Nat):Int)
theorem Ze.marks{g:G}{K:Int->Prop}(h:Ze g K):∀k:Nat,Ze ⟨g.l,g.n+k,g.b⟩ (λt=>K t\/Span (g.n+1) k t)
 |0=>h.congr (λt=>⟨.inl,λe=>e.resolve_right (λe=>by unfold Span at e;omega)⟩)
 |k+1=>by
  have A:=(Ze.marks h k).mark;refine A.congr (λt=> ?_);show((K t\/Span (g.n+1) k t)\/t=((g.n+k+1:Nat):Int))↔(K t\/Span (g.n+1) (k+1) t);unfold Span;constructor
  ·rintro((e|e)|e);·exact .inl e
   ·exact .inr ⟨e.1,jO⟩
   ·exact .inr ⟨jO,jO⟩
  ·rintro(e|e);·exact .inl (.inl e)
   ·by_cases C:t=((g.n+k+1:Nat):Int);·exact .inr C
    ·exact .inl (.inr ⟨e.1,jO⟩)
theorem UW(ow:Nat){K:Int->Prop}:∀(ps:List ZM) (m:Nat) (g:G),m≠0->(∀t,Span m ps.length t->¬K t)->Ze g (λt=>K t\/Span m ps.length t)->SF g K ow->Ze (Yb ow ps m g) K/\Yt g (Yb ow ps m g)
 |[],m,g,_,_,h,_=>⟨h.congr (λt=>⟨λe=>e.resolve_right (λe=>by unfold Span at e;simp at e;omega),.inl⟩),Yt.refl g⟩
 |p::ps,m,g,hm,hk,h,ho=>by
  have A:¬(K (m:Int)\/Span (m+1) ps.length (m:Int)):=by
   rintro(e|e);·exact hk m ⟨jO,by simp only[aj];omega⟩ e
   ·unfold Span at e;omega
  have J:Ze g (λt=>(K t\/Span (m+1) ps.length t)\/t=(m:Int)):=h.congr (λt=>by
   unfold Span;simp only[aj];constructor
   ·rintro(e|e);·exact .inl (.inl e)
    ·by_cases D:t=(m:Int);·exact .inr D
     ·exact .inl (.inr ⟨jO,jO⟩)
   ·rintro((e|e)|e);·exact .inl e
    ·exact .inr ⟨jO,jO⟩
    ·exact .inr ⟨jO,jO⟩)
  have D:=J.here hm A;have C:=Yt.here g m;obtain⟨U,I⟩:=Ew ow p _ D ((SF.up C ho).imp id (λe=>e.imp .inl id));obtain⟨Y,T⟩:=UW ow ps (m+1) _ jO (λt ht=>hk t (by unfold Span at ht ⊢;simp only[aj];omega)) U (SF.up (C.trans I) ho);exact⟨Y,(C.trans I).trans T⟩
theorem Lg{w:Nat->Nat}{F:List Z9}{Bk:Nat->Nat}{ow d:Nat}{K:Int->Prop}(hF:ZR F)(hw:GJ w)(hB:Pn w F Bk)(ho:ow≠0)(hd:∀a,JF w F ow a=some d):
 ∀(ps:List ZM) (m:Nat) (g:G) (rest:List Z9),m≠0->(∀t,Span m ps.length t->¬K t)->Ze g (λt=>K t\/Span m ps.length t)->SF g K ow->(∀p∈ps,GH p)->XS (Yb ow ps m g).b Bk->F=(Yb ow ps m g).l++rest->
  ∀i p,ps[i]? =some p->∀a,JF w F ((m+i:Nat):Int) a=some (tE w d p)
 |[],m,g,rest,_,_,_,_,_,_,_,i,p,hi,_=>by simp at hi
 |q::ps,m,g,rest,hm,hk,h,mg,lZ,hA,e2,i,p,hi,a=>by
  have J:¬(K (m:Int)\/Span (m+1) ps.length (m:Int)):=by
   rintro(e|e);·exact hk m ⟨jO,by simp only[aj];omega⟩ e
   ·unfold Span at e;omega
  have h1:Ze g (λt=>(K t\/Span (m+1) ps.length t)\/t=(m:Int)):=h.congr (λt=>by
   unfold Span;simp only[aj];constructor
   ·rintro(e|e);·exact .inl (.inl e)
    ·by_cases I:t=(m:Int);·exact .inr I
     ·exact .inl (.inr ⟨jO,jO⟩)
   ·rintro((e|e)|e);·exact .inl e
    ·exact .inr ⟨jO,jO⟩
    ·exact .inr ⟨jO,jO⟩)
  have I:=h1.here hm J;have l2:=Yt.here g m;have A:SF (g.here m) (λt=>K t\/Span (m+1) ps.length t) ow:=(SF.up l2 mg).imp id (λe=>e.imp .inl id);obtain⟨Z,l3⟩:=Ew ow q _ I A;have D:∀t,Span (m+1) ps.length t->¬K t:=λt ht=>hk t (by unfold Span at ht ⊢;simp only[aj];omega)
  have C:=SF.up (l2.trans l3) mg;obtain⟨h4,Y⟩:=UW ow ps (m+1) _ jO D Z C;cases i with
  |zero=>
   obtain rfl:q=p:=ax hi;obtain⟨xs,U⟩:=l3.l;obtain⟨ys,T⟩:=Y.l;have e3:F=(VV ow q (g.here m)).l++(ys++rest):=by rw[e2,<-aba,<-T];rfl
   have e4:F=(g.here m).l++(xs++(ys++rest)):=by rw[e3,U,aba]
   have e5:F=g.l++Zr (m:Int)::(xs++(ys++rest)):=by rw[e4];show(g.l++[Zr (m:Int)])++_=_;rw[aba];rfl
   rw[aeb,TH hF e5 jO];exact l8 hF hw hB ho hd q _ _ (ys++rest) (lZ q jS) I A (XS.back (g':=Yb ow (q::ps) m g) hA Y) e4 e3 a
  |succ i=>
   have:=Lg hF hw hB ho hd ps (m+1) _ rest jO D Z C (λp hp=>lZ p (by simp[hp])) hA e2 i p (by simpa using hi) a;rw[show m+(i+1)=m+1+i from jO];exact this
def Vt:List (Nat×ZM)->Nat->List (Nat×Nat)
 |[],_=>[]
 |p::r,m=>(p.1,m)::Vt r (m+1)
theorem Uh:∀(ps:List (Nat×ZM)) (m:Nat),∀q∈Vt ps m,Span m ps.length (q.2:Int)/\∃p∈ps,p.1=q.1
 |[],_,q,A=>by cases A
 |p::r,m,q,A=>by
  rcases abf.1 A with rfl|A;·exact⟨⟨jO,by simp only[aj];omega⟩,p,jS,rfl⟩
  ·obtain⟨C,I,J,D⟩:=Uh r (m+1) q A;unfold Span at C ⊢;exact⟨⟨jO,by simp only[aj];omega⟩,I,by simp[J],D⟩
theorem Lf:∀(ps:List (Nat×ZM)) (m:Nat),ps.Pairwise (λp q=>p.1<q.1)->SE (Vt ps m)
 |[],_,_=>List.Pairwise.nil
 |p::r,m,h=>by obtain⟨A,C⟩:=aha.1 h;refine aha.2 ⟨λq D=> ?_,Lf r (m+1) C⟩;obtain⟨_,I,J,T⟩:=Uh r (m+1) q D;have:=A I J;show p.1<q.1;omega
theorem IZ:∀(ps:List (Nat×ZM)) (m a:Nat),(VL (Vt ps m) a=none/\ps.find? (λp=>p.1 == a)=none)\/∃i p,ps[i]? =some p/\VL (Vt ps m) a=some (m+i)/\ps.find? (λp=>p.1 == a)=some p
 |[],m,a=>.inl ⟨rfl,rfl⟩
 |p::r,m,a=>by
  by_cases h:p.1=a;·refine .inr ⟨0,p,rfl,?_,aqc (by simpa using h)⟩;unfold VL Vt;rw[aqc (by simpa using h)];rfl
  ·have e1:VL (Vt (p::r) m) a=VL (Vt r (m+1)) a:=by
    unfold VL;show((((p.1,m)::Vt r (m+1)).find? (λp=>p.1 == a)).map (·.2))=_;rw[anb (by simpa using h)]
   have e2:(p::r).find? (λp=>p.1 == a)=r.find? (λp=>p.1 == a):=anb (by simpa using h);rw[e1,e2];rcases IZ r (m+1) a with A|⟨i,q,A,D,C⟩;·exact .inl A
   ·exact .inr ⟨i+1,q,by simpa using A,by rw[D];congr 1;omega,C⟩
def Za(d:Nat)(ps:List (Nat×ZM))(g:G):G:=
 Yb (look (g.goes d).b d) (ps.map (·.2)) ((g.goes d).n+1) (ZH (look (g.goes d).b d) (Vt ps ((g.goes d).n+1)) ⟨(g.goes d).l,(g.goes d).n+ps.length,(g.goes d).b⟩)
def UU(w:Nat->Nat)(d:Nat)(ps:List (Nat×ZM))(a:Nat):Nat:=((ps.find? (λp=>p.1 == a)).map (λp=>tE w d p.2)).getD d
def WJ(ps:List (Nat×ZM)):Prop:=ps.Pairwise (λp q=>p.1<q.1)/\∀p∈ps,GH p.2
theorem OP{d:Nat}{ps:List (Nat×ZM)}{g:G} (h:Ze g K):
 look (g.goes d).b d≠0/\Yt g (g.goes d)/\(g.goes d).l=g.l/\
 Ze ⟨(g.goes d).l,(g.goes d).n+ps.length,(g.goes d).b⟩ (λt=>K t\/Span ((g.goes d).n+1) ps.length t)/\
 (∀t,Span ((g.goes d).n+1) ps.length t->¬K t)/\
 Ze (ZH (look (g.goes d).b d) (Vt ps ((g.goes d).n+1)) ⟨(g.goes d).l,(g.goes d).n+ps.length,(g.goes d).b⟩) (λt=>K t\/Span ((g.goes d).n+1) ps.length t)/\
 Yt g (ZH (look (g.goes d).b d) (Vt ps ((g.goes d).n+1)) ⟨(g.goes d).l,(g.goes d).n+ps.length,(g.goes d).b⟩)/\
 Yt ⟨(g.goes d).l,(g.goes d).n+ps.length,(g.goes d).b⟩ (ZH (look (g.goes d).b d) (Vt ps ((g.goes d).n+1)) ⟨(g.goes d).l,(g.goes d).n+ps.length,(g.goes d).b⟩):=by
 obtain⟨D,U,_,Y⟩:=h.goes d;have J:=Yt.goes h d;have T:=D.marks ps.length;have C:Yt (g.goes d) ⟨(g.goes d).l,(g.goes d).n+ps.length,(g.goes d).b⟩:=⟨⟨[],jS⟩,by show(g.goes d).n<=(g.goes d).n+ps.length;omega,λ_ _=>rfl⟩;have hB:∀{K:Int->Prop} {g':G},Yt (g.goes d) g'->SF g' K (look (g.goes d).b d:Nat):=λA=>.inr (.inr (A.MQ ⟨d,U,rfl⟩))
 obtain⟨Z,I⟩:=WY (look (g.goes d).b d) _ (Vt ps ((g.goes d).n+1)) _ (aR _) T (hB C) (λp hp=>.inr (.inl (.inr (Uh _ _ p hp).1)));refine⟨U,J,Y,T,λt ht hk=> ?_,Z,(J.trans C).trans I,I⟩;have:=(D.all t).2 (.inr (.inl hk));unfold Span at ht;omega
theorem Yc{d:Nat}{ps:List (Nat×ZM)}{g:G} (h:Ze g K):Ze (Za d ps g) K/\Yt g (Za d ps g)/\look (Za d ps g).b d≠0:=by
 obtain⟨C,l1,_,_,hk,T,U,Z⟩:=OP (d:=d) (ps:=ps) h;have hB:∀{K:Int->Prop} {g':G},Yt (g.goes d) g'->SF g' K (look (g.goes d).b d:Nat):=λA=>.inr (.inr (A.MQ ⟨d,C,rfl⟩))
 have J:Yt (g.goes d) ⟨(g.goes d).l,(g.goes d).n+ps.length,(g.goes d).b⟩:=⟨⟨[],jS⟩,by show(g.goes d).n<=(g.goes d).n+ps.length;omega,λ_ _=>rfl⟩;have D:=J.trans Z;obtain⟨Y,I⟩:=UW (look (g.goes d).b d) (ps.map (·.2)) ((g.goes d).n+1) _ jO (by rw[aad];exact hk) (by rw[aad];exact T) (hB D);refine⟨Y,U.trans I,?_⟩;have:=(D.trans I).b d C;show look (Yb _ _ _ _).b d≠0;rw[this];exact C
theorem Ug {F:List Z9} {d:Nat} (hF:ZR F)(hw:GJ w)(hB:Pn w F Bk)
 (ps:List (Nat×ZM)) (g:G) (s rest:List Z9) (C:WJ ps) (h:Ze g K) (hA:XS (Za d ps g).b Bk) (e1:F=g.l++s) (e2:F=(Za d ps g).l++rest) (a:Nat):Wl w s a=some (UU w d ps a):=by
 obtain⟨A,l1,h4,h5,hk,h6,l6,l7⟩:=OP (d:=d) (ps:=ps) h;have tB:∀{K:Int->Prop} {g':G},Yt (g.goes d) g'->SF g' K (look (g.goes d).b d:Nat):=λT=>.inr (.inr (T.MQ ⟨d,A,rfl⟩))
 have l5:Yt (g.goes d) ⟨(g.goes d).l,(g.goes d).n+ps.length,(g.goes d).b⟩:=⟨⟨[],jS⟩,by show(g.goes d).n<=(g.goes d).n+ps.length;omega,λ_ _=>rfl⟩;have I:=l5.trans l7;obtain⟨h9,l9⟩:=UW (look (g.goes d).b d) (ps.map (·.2)) ((g.goes d).n+1) _ jO (by rw[aad];exact hk) (by rw[aad];exact h6) (tB I);have D:Bk d=look (g.goes d).b d:=by have hx:=(I.trans l9).b d A;rw[hA d (by show look (Yb _ _ _ _).b d≠0;rw[hx];exact A)];exact hx
 have hd:∀a,JF w F ((look (g.goes d).b d:Nat):Int) a=some d:=by rw[<-D];exact hB d (by rw[D];exact A)
 obtain⟨ys,U⟩:=l9.l;have e3:F=(ZH (look (g.goes d).b d) (Vt ps ((g.goes d).n+1)) ⟨(g.goes d).l,(g.goes d).n+ps.length,(g.goes d).b⟩).l++(ys++rest):=by rw[e2,<-aba,<-U];rfl
 have e4:F=(G.mk (g.goes d).l ((g.goes d).n+ps.length) (g.goes d).b).l++s:=by show F=(g.goes d).l++s;rw[h4];exact e1
 rw[Q7 hF A _ _ _ s (ys++rest) (aR _) (Lf ps _ C.1) (λp hp=>by have:=(Uh _ _ p hp).1;unfold Span at this;omega) h5 (tB l5) (λp hp=>.inr (.inl (.inr (Uh _ _ p hp).1))) e4 e3 a];unfold UU;rcases IZ ps ((g.goes d).n+1) a with⟨Y,J⟩|⟨i,p,f0,Y,J⟩
 ·rw[Y,J];exact hd a
 ·rw[Y,J]
  exact Lg hF hw hB A hd (ps.map (·.2)) ((g.goes d).n+1) _ rest jO (by rw[aad];exact hk) (by rw[aad];exact h6) (tB I) (λq hq=>by obtain⟨q',Z,rfl⟩:=ai.1 hq;exact C.2 q' Z) hA e2 i p.2 (by rw[ada,f0];rfl) a
def Zo:Nat:=0x80000000
def V1:Nat:=0x40000000
def NONE:Nat:=0xffffffff
def Uz(Vy:Bool)(d:Nat)(LS Cn:List (Nat×ZM))(g:G):G:=
 let g1:=(g.goes d).put [ins 0x15 NONE (look (g.goes d).b d) 0]
 if Vy=false then Za d LS ((g1.goes Zo).put [ins 0x45 V1 (look (g1.goes Zo).b Zo) 0])
 else Za d Cn ((Za d LS (g1.mark.put [ins 0x45 V1 ((g1.n+1:Nat):Int) 0])).here (g1.n+1))
def xy(w:Nat->Nat)(Vy:Bool)(d:Nat)(LS Cn:List (Nat×ZM))(a:Nat):Nat:=
 if a=NONE then d else if a &&& V1≠0 then(if Vy=false then Zo else UU w d Cn a) else UU w d LS a
theorem Vs{g:G} (h:Ze g K){c k:Nat} (ht:SF g K t):Ze (g.put [ins c k t 0]) K:=h.put (λx hx=>by
 rcases aac.1 hx with rfl;exact⟨rfl,ht,.inl rfl⟩)
theorem zt{Vy:Bool}{d:Nat}{LS Cn:List (Nat×ZM)}{g:G}{K:Int->Prop}(h:Ze g K):Ze (Uz Vy d LS Cn g) K/\Yt g (Uz Vy d LS Cn g):=by
 obtain⟨h1,D,_,_⟩:=h.goes d;have l1:=Yt.goes h d;have A:=Vs (c:=0x15) (k:=NONE) h1 (.inr (.inr ⟨d,D,rfl⟩));have Z:=l1.trans (Yt.put (g.goes d) [ins 0x15 NONE (look (g.goes d).b d) 0]);unfold Uz;dsimp only;generalize (g.goes d).put [ins 0x15 NONE (look (g.goes d).b d) 0]=g1 at*;cases Vy with
 |false=>
  rw[aG rfl];obtain⟨T,Y,_,_⟩:=A.goes Zo;have l3:=Z.trans (Yt.goes A Zo);have U:=Vs (c:=0x45) (k:=V1) T (.inr (.inr ⟨Zo,Y,rfl⟩));have I:=l3.trans (Yt.put (g1.goes Zo) [ins 0x45 V1 (look (g1.goes Zo).b Zo) 0]);obtain⟨J,C,_⟩:=Yc (d:=d) (ps:=LS) U;exact⟨J,I.trans C⟩
 |true=>
  rw[aN jD];have T:=A.mark;have U:Ze (g1.mark.put [ins 0x45 V1 ((g1.n+1:Nat):Int) 0]) (λt=>K t\/t=((g1.n+1:Nat):Int)):=Vs (c:=0x45) (k:=V1) T (.inr (.inl (.inr rfl)));have I:Yt g (g1.mark.put [ins 0x45 V1 ((g1.n+1:Nat):Int) 0]):=(Z.trans (Yt.mark g1)).trans (Yt.put _ _);obtain⟨J,C,_⟩:=Yc (d:=d) (ps:=LS) U;have hk:¬K ((g1.n+1:Nat):Int):=λe=>by have:=(A.all ((g1.n+1:Nat):Int)).2 (.inr (.inl e));omega
  have h6:=J.here (m:=g1.n+1) jO hk;obtain⟨h7,l7,_⟩:=Yc (d:=d) (ps:=Cn) h6;exact⟨h7,((I.trans C).trans (Yt.here _ _)).trans l7⟩
theorem dA{w:Nat->Nat}{F:List Z9}{Bk:Nat->Nat}{Vy:Bool}{d:Nat}{LS Cn:List (Nat×ZM)}{g:G}{K:Int->Prop}(hF:ZR F)(hw:GJ w)(hB:Pn w F Bk)(T:WJ LS)(ok1:WJ Cn)(s rest:List Z9)(h:Ze g K)(hA:XS (Uz Vy d LS Cn g).b Bk)(e1:F=g.l++s)(e2:F=(Uz Vy d LS Cn g).l++rest)(a:Nat):
 Wl w s a=some (xy w Vy d LS Cn a):=by
 obtain⟨h1,D,_,h1l⟩:=h.goes d;have l1:=Yt.goes h d;have h2:=Vs (c:=0x15) (k:=NONE) h1 (.inr (.inr ⟨d,D,rfl⟩));have l2:=Yt.put (g.goes d) [ins 0x15 NONE (look (g.goes d).b d) 0];have A:((g.goes d).put [ins 0x15 NONE (look (g.goes d).b d) 0]).l=g.l++[ins 0x15 NONE (look (g.goes d).b d) 0]:=by show(g.goes d).l++_=_;rw[h1l]
 unfold Uz at hA e2;dsimp only at hA e2;obtain⟨M,hM⟩:∃M,M=look (g.goes d).b d:=⟨_,rfl⟩;have hM0:M≠0:=by rw[hM];exact D
 rw[<-hM] at hA e2 h2 l2 A;generalize (g.goes d).put [ins 0x15 NONE M 0]=g1 at*;have fin:∀{g':G},Yt g1 g'->XS g'.b Bk->Bk d=M/\∀a,JF w F (M:Int) a=some d:=λhle hag=>by have hb:=(XS.back (XS.back hag hle) l2) d D;rw[<-hM] at hb;refine⟨hb,?_⟩;have:=hB d (by rw[hb];exact hM0);rw[hb] at this;exact this
 unfold xy;cases Vy with
 |false=>
  rw[aG rfl] at hA e2;obtain⟨h3,C,_,h3l⟩:=h2.goes Zo;have l3:=Yt.goes h2 Zo;have Y:=Vs (c:=0x45) (k:=V1) h3 (.inr (.inr ⟨Zo,C,rfl⟩));have l4:=Yt.put (g1.goes Zo) [ins 0x45 V1 (look (g1.goes Zo).b Zo) 0];obtain⟨h5,J,_⟩:=Yc (d:=d) (ps:=LS) Y;obtain⟨xs,I⟩:=J.l;have Z:Bk Zo=look (g1.goes Zo).b Zo:=(XS.back (XS.back hA J) l4) Zo C;have e3:F=((g1.goes Zo).put [ins 0x45 V1 (look (g1.goes Zo).b Zo) 0]).l++(xs++rest):=by rw[e2,I,aba]
  have e4:F=g1.l++(ins 0x45 V1 (look (g1.goes Zo).b Zo) 0::(xs++rest)):=by rw[e3];show((g1.goes Zo).l++[_])++_=_;rw[h3l,aba];rfl
  have e5:F=g.l++(ins 0x15 NONE M 0::ins 0x45 V1 (look (g1.goes Zo).b Zo) 0::(xs++rest)):=by rw[e4,A];simp
  have hs:=aka (e1.symm.trans e5);rw[hs,Zm hF e5 rfl,XM];by_cases ha:a=NONE;·rw[aG (by simpa using ha),aN (show ¬(M:Int)=0 from jO),aG ha];exact(fin ((l3.trans l4).trans J) hA).2 a
  ·rw[aN (by simpa using ha),aG rfl,aN ha,Zm hF e4 rfl,zv];by_cases hb:a &&& V1=0;·rw[aN (by simpa using hb),aG rfl,aN (by simpa using hb)];exact Ug hF hw hB LS _ _ rest T Y hA e3 e2 a
   ·rw[aG (by simpa using hb),aN (show ¬((look (g1.goes Zo).b Zo:Nat):Int)=0 from jO),aG (by simpa using hb),aG rfl,<-Z];exact hB Zo (by rw[Z];exact C) a
 |true=>
  rw[aN jD] at hA e2;have h3:=h2.mark;have Y:Ze (g1.mark.put [ins 0x45 V1 ((g1.n+1:Nat):Int) 0]) (λt=>K t\/t=((g1.n+1:Nat):Int)):=Vs (c:=0x45) (k:=V1) h3 (.inr (.inl (.inr rfl)));have l4:Yt g1 (g1.mark.put [ins 0x45 V1 ((g1.n+1:Nat):Int) 0]):=(Yt.mark g1).trans (Yt.put _ _);obtain⟨h5,J,_⟩:=Yc (d:=d) (ps:=LS) Y;have hk:¬K ((g1.n+1:Nat):Int):=λe=>by have:=(h2.all ((g1.n+1:Nat):Int)).2 (.inr (.inl e));omega
  have h6:=h5.here (m:=g1.n+1) jO hk;have l6:=Yt.here (Za d LS (g1.mark.put [ins 0x45 V1 ((g1.n+1:Nat):Int) 0])) (g1.n+1);obtain⟨h7,l7,_⟩:=Yc (d:=d) (ps:=Cn) h6;obtain⟨xs,I⟩:=J.l;obtain⟨ys,hys⟩:=l7.l;have e3:F=((Za d LS (g1.mark.put [ins 0x45 V1 ((g1.n+1:Nat):Int) 0])).here (g1.n+1)).l++(ys++rest):=by rw[e2,hys,aba]
  have e4:F=(Za d LS (g1.mark.put [ins 0x45 V1 ((g1.n+1:Nat):Int) 0])).l++(Zr ((g1.n+1:Nat):Int)::(ys++rest)):=by rw[e3];show((Za d LS _).l++[_])++_=_;rw[aba];rfl
  have e5:F=(g1.mark.put [ins 0x45 V1 ((g1.n+1:Nat):Int) 0]).l++(xs++(Zr ((g1.n+1:Nat):Int)::(ys++rest))):=by rw[e4,I,aba]
  have e6:F=g1.l++(ins 0x45 V1 ((g1.n+1:Nat):Int) 0::(xs++(Zr ((g1.n+1:Nat):Int)::(ys++rest)))):=by rw[e5];show(g1.l++[_])++_=_;rw[aba];rfl
  have e7:F=g.l++(ins 0x15 NONE M 0::ins 0x45 V1 ((g1.n+1:Nat):Int) 0::(xs++(Zr ((g1.n+1:Nat):Int)::(ys++rest)))):=by rw[e6,A];simp
  have hs:=aka (e1.symm.trans e7);have hA6:=XS.back hA l7;have U:XS (Za d LS (g1.mark.put [ins 0x45 V1 ((g1.n+1:Nat):Int) 0])).b Bk:=XS.back hA6 l6;rw[hs,Zm hF e7 rfl,XM];by_cases ha:a=NONE;·rw[aG (by simpa using ha),aN (show ¬(M:Int)=0 from jO),aG ha];exact(fin (l4.trans J) U).2 a
  ·rw[aN (by simpa using ha),aG rfl,aN ha,Zm hF e6 rfl,zv];by_cases hb:a &&& V1=0;·rw[aN (by simpa using hb),aG rfl,aN (by simpa using hb)];exact Ug hF hw hB LS _ _ _ T Y U e5 e4 a
   ·rw[aG (by simpa using hb),aN (show ¬((g1.n+1:Nat):Int)=0 from jO),aG (by simpa using hb),aN jD,TH hF e4 jO];exact Ug hF hw hB Cn _ _ rest ok1 h6 hA e3 e2 a
def QN:Nat:=0xc000003e
def Pk:Nat:=0x40000003
def Pj:Nat:=0xc00000b7
def Ph:Nat:=0xc00000f3
def Zw(b:List (Nat×Nat))(cs:List Nat):List Z9:=cs.flatMap λc=>[Zr (look b c),ins 0x06 c 0 0]
def Le:G:=⟨[ins 0x20 4 0 0,ins 0x15 QN 1 0,ins 0x15 Pk 2 0,ins 0x15 Pj 3 0,ins 0x15 Ph 4 0],4,[]⟩
def XL:G:=(Le.goes Zo).put [ins 0x05 0 (look (Le.goes Zo).b Zo) 0]
def Vr(m:Nat)(g:G):G:=(g.here m).put [ins 0x20 0 0 0]
structure YH where
 Vy:Bool
 d:Nat
 (p0 p1 p2 p3 p4:List (Nat×ZM))
def YH.ok(p:YH):Prop:=WJ p.p0/\WJ p.p1/\WJ p.p2/\WJ p.p3/\WJ p.p4
def gA(p:YH):G:=Uz p.Vy p.d p.p0 p.p1 (Vr 1 XL)
def gB(p:YH):G:=Za p.d p.p2 (Vr 2 (gA p))
def gC(p:YH):G:=Za p.d p.p3 (Vr 3 (gB p))
def gD(p:YH):G:=Za p.d p.p4 (Vr 4 (gC p))
def ZL(p:YH)(cs:List Nat):List Z9:=(gD p).l++Zw (gD p).b cs
def Ev(w:Nat->Nat)(p:YH):Nat:=
 if w 4=QN then xy w p.Vy p.d p.p0 p.p1 (w 0)
 else if w 4=Pk then UU w p.d p.p2 (w 0)
 else if w 4=Pj then UU w p.d p.p3 (w 0)
 else if w 4=Ph then UU w p.d p.p4 (w 0)
 else Zo
def SD(m k:Nat)(t:Int):Prop:=(m:Int)<=t/\t<=(k:Int)
theorem Eu:Ze Le (SD 1 4):=by
 have I:Ze ⟨[ins 0x20 4 0 0],0,[]⟩ (λ_=>False):=by
  refine⟨λt=> ?_,λt e=>e.elim,λt ⟨c,e,_⟩=>(e rfl).elim,?_,λc d _ e=>(e rfl).elim,λp hp=>by cases hp⟩
  ·show(1<=t/\t<=((0:Nat):Int))↔(t∈([]:List Int)\/False\/_);constructor;·intro h;omega
   ·rintro(h|h|⟨c,h,_⟩)
    ·cases h
    ·exact h.elim
    ·exact(h rfl).elim
  ·exact⟨trivial,by rw[aN (λe=>e rfl)];exact⟨λe=>(e rfl).elim,λe=>(e rfl).elim⟩⟩
 have D:=Vs (c:=0x15) (k:=QN) (t:=1) I.mark (.inr (.inl (.inr rfl)));have C:=Vs (c:=0x15) (k:=Pk) (t:=2) D.mark (.inr (.inl (.inr rfl)));have J:=Vs (c:=0x15) (k:=Pj) (t:=3) C.mark (.inr (.inl (.inr rfl)));have A:=Vs (c:=0x15) (k:=Ph) (t:=4) J.mark (.inr (.inl (.inr rfl)));refine Ze.congr (g:=Le) A (λt=> ?_);unfold SD;constructor
 ·rintro((((h|h)|h)|h)|h);·exact h.elim
  ·have h:t=1:=h;omega
  ·have h:t=2:=h;omega
  ·have h:t=3:=h;omega
  ·have h:t=4:=h;omega
 ·intro h;have:t=1\/t=2\/t=3\/t=4:=jO;rcases this with rfl|rfl|rfl|rfl;·exact .inl (.inl (.inl (.inr rfl)))
  ·exact .inl (.inl (.inr rfl))
  ·exact .inl (.inr rfl)
  ·exact .inr rfl
theorem OO:Ze XL (SD 1 4)/\Yt Le XL/\look XL.b Zo≠0:=by
 obtain⟨C,A,_,_⟩:=Eu.goes Zo;exact⟨Vs C (.inr (.inr ⟨Zo,A,rfl⟩)),(Yt.goes Eu Zo).trans (Yt.put _ _),A⟩
theorem UT{g:G}{m:Nat}(hm:m≠0)(h:Ze g (SD m 4))(D:m<=4):Ze (Vr m g) (SD (m+1) 4)/\Yt g (Vr m g):=by
 have A:Ze g (λt=>SD (m+1) 4 t\/t=(m:Int)):=h.congr (λt=>by
  unfold SD;constructor
  ·intro e;by_cases e2:t=(m:Int);·exact .inr e2
   ·exact .inl ⟨jO,e.2⟩
  ·rintro(e|e);·exact⟨jO,e.2⟩
   ·exact⟨jO,jO⟩)
 have C:=A.here hm (λe=>by unfold SD at e;omega);exact⟨C.put (Pm 0),(Yt.here g m).trans (Yt.put _ _)⟩
theorem Uf(p:YH):Ze (gA p) (SD 2 4)/\Ze (gB p) (SD 3 4)/\Ze (gC p) (SD 4 4)/\Ze (gD p) (λ_=>False)/\Yt XL (gA p)/\Yt (gA p) (gB p)/\Yt (gB p) (gC p)/\Yt (gC p) (gD p):=by
 obtain⟨U,_,_⟩:=OO;obtain⟨J,l1⟩:=UT jD U jD;obtain⟨D,l2⟩:=zt (Vy:=p.Vy) (d:=p.d) (LS:=p.p0) (Cn:=p.p1) J;obtain⟨h3,l3⟩:=UT (m:=2) jD D jD;obtain⟨A,l4,_⟩:=Yc (d:=p.d) (ps:=p.p2) h3;obtain⟨h5,I⟩:=UT (m:=3) jD A jD;obtain⟨C,Y,_⟩:=Yc (d:=p.d) (ps:=p.p3) h5;obtain⟨h7,l7⟩:=UT (m:=4) jD C jD;obtain⟨Z,T,_⟩:=Yc (d:=p.d) (ps:=p.p4) h7;exact⟨D,A,C,Z.congr (λt=>⟨λe=>by unfold SD at e;omega,λe=>e.elim⟩),l1.trans l2,l3.trans l4,I.trans Y,l7.trans T⟩
def OM(p:YH)(cs:List Nat):Prop:=cs.Nodup/\∀c,c∈cs↔look (gD p).b c≠0
theorem WI(b:List (Nat×Nat)):∀cs:List Nat,(∀c∈cs,look b c≠0)->marks (Zw b cs)=cs.map λc=>((look b c:Nat):Int)
 |[],_=>rfl
 |c::cs,h=>by have A:=WI b cs (λd hd=>h d (by simp[hd]));have hc:=h c jS;show marks ([Zr (look b c),ins 0x06 c 0 0]++Zw b cs)=_;rw[WS,A,Zq (show(Zr (look b c)).mark≠0 by show((look b c:Nat):Int)≠0;omega),Y2 (show(ins 0x06 c 0 0).mark=0 from rfl)];rfl
theorem IY{b:List (Nat×Nat)}(one:∀c d,look b c=look b d->look b c≠0->c=d):∀cs:List Nat,cs.Nodup->(∀c∈cs,look b c≠0)->PF (λ_=>False) (Zw b cs)
 |[],_,_=>trivial
 |c::cs,hn,h=>by
  obtain⟨C,D⟩:=aye.1 hn;have A:=IY one cs D (λd hd=>h d (by simp[hd]));have hc:=h c jS;show PF _ ([Zr (look b c),ins 0x06 c 0 0]++Zw b cs);refine⟨⟨A,?_⟩,?_⟩;·rw[aN (λe=>e rfl)];exact⟨λe=>(e rfl).elim,λe=>(e rfl).elim⟩
  ·rw[aG (show(Zr (look b c)).mark≠0 by show((look b c:Nat):Int)≠0;omega)];show((look b c:Nat):Int)∉marks (ins 0x06 c 0 0::Zw b cs);rw[Y2 rfl,WI b cs (λd hd=>h d (by simp[hd]))];intro e;obtain⟨d,hd,e2⟩:=ai.1 e;have e2:look b d=look b c:=jO;exact C (one c d e2.symm hc▸hd)
theorem VE{p:YH}{cs:List Nat}(hc:OM p cs):ZR (ZL p cs):=by
 obtain⟨_,_,_,h,_⟩:=Uf p;have hl:∀c∈cs,look (gD p).b c≠0:=λc hm=>(hc.2 c).1 hm
 refine PF.formed (PF.app h.pf (IY h.one cs hc.1 hl) (λm hm e=> ?_) (λt ht=> ?_));·rw[WI _ cs hl] at e;obtain⟨c,A,rfl⟩:=ai.1 e;exact h.xD _ ⟨c,hl c A,rfl⟩ hm
 ·rcases ht with ht|⟨c,A,rfl⟩;·exact ht.elim
  ·left
   rw[WI _ cs hl];exact ai.2 ⟨c,(hc.2 c).2 A,rfl⟩
theorem IX(b:List (Nat×Nat)):∀(cs:List Nat) (c:Nat),c∈cs->∃x y,Zw b cs=x++Zr (look b c)::ins 0x06 c 0 0::y
 |e::cs,c,h=>by
  rcases abf.1 h with rfl|h;·exact⟨[],Zw b cs,rfl⟩
  ·obtain⟨x,y,A⟩:=IX b cs c h;refine⟨[Zr (look b e),ins 0x06 e 0 0]++x,y,?_⟩;show [Zr (look b e),ins 0x06 e 0 0]++Zw b cs=_;rw[A,aba]
theorem GG {p:YH}{cs:List Nat}(hc:OM p cs):Pn w (ZL p cs) (look (gD p).b):=by
 intro c h a;obtain⟨x,y,e⟩:=IX (gD p).b cs c ((hc.2 c).2 h);have e2:ZL p cs=((gD p).l++x)++Zr (look (gD p).b c)::ins 0x06 c 0 0::y:=by unfold ZL;rw[e,aba]
 rw[TH (VE hc) e2 jO,show ins 0x06 c 0 0=⟨0,0x06,c,0,0⟩ from rfl,dC]
theorem GF {F:List Z9}{g g':G}{m:Nat}{rest:List Z9}(hF:ZR F)(hm:m≠0)(l:Yt (Vr m g) g')(e:F=g'.l++rest)(a:Nat):
 ∃s,F=(Vr m g).l++s/\JF w F (m:Int) a=Wl w s (w 0):=by
 obtain⟨xs,A⟩:=l.l;have e2:F=(Vr m g).l++(xs++rest):=by rw[e,A,aba]
 have e3:F=g.l++Zr (m:Int)::ins 0x20 0 0 0::(xs++rest):=by rw[e2];show(g.l++[Zr (m:Int)]++[ins 0x20 0 0 0])++_=_;simp
 refine⟨_,e2,?_⟩;rw[TH hF e3 jO,show ins 0x20 0 0 0=⟨0,0x20,0,0,0⟩ from rfl,W9]
theorem tD {p:YH}{cs:List Nat}(hw:GJ w)(C:p.ok)(hc:OM p cs)(a:Nat):Wl w (ZL p cs) a=some (Ev w p):=by
 have hF:=VE hc;have I:=GG (w:=w) hc;obtain⟨h0,l0,hk⟩:=OO;obtain⟨iA,iB,iC,iD,lA,lB,lC,lD⟩:=Uf p;have aD:XS (gD p).b (look (gD p).b):=λ_ _=>rfl
 have aC:=XS.back aD lD;have aB:=XS.back aC lC;have aA:=XS.back aB lB;have aK:=XS.back aA lA;obtain⟨T,hD⟩:=lD.l;obtain⟨xC,hC⟩:=lC.l;obtain⟨xB,hB'⟩:=lB.l;obtain⟨xA,hA⟩:=lA.l;have eD:ZL p cs=(gD p).l++Zw (gD p).b cs:=rfl;have eC:ZL p cs=(gC p).l++(T++Zw (gD p).b cs):=by rw[eD,hD,aba]
 have Z:ZL p cs=(gB p).l++(xC++(T++Zw (gD p).b cs)):=by rw[eC,hC,aba]
 have eA:ZL p cs=(gA p).l++(xB++(xC++(T++Zw (gD p).b cs))):=by rw[Z,hB',aba]
 obtain⟨rest,A⟩:∃rest,ZL p cs=XL.l++rest:=⟨xA++(xB++(xC++(T++Zw (gD p).b cs))),by rw[eA,hA,aba]⟩;have t0:=UT (m:=1) jD h0 jD;have t2:=UT (m:=2) jD iA jD;have t3:=UT (m:=3) jD iB jD;have t4:=UT (m:=4) jD iC jD;have j1:∀a,JF w (ZL p cs) ((1:Nat):Int) a=some (xy w p.Vy p.d p.p0 p.p1 (w 0)):=by intro a;obtain⟨s,e1,e2⟩:=GF (w:=w) hF (m:=1) jD (zt (Vy:=p.Vy) (d:=p.d) (LS:=p.p0) (Cn:=p.p1) t0.1).2 eA a;rw[e2];exact dA hF hw I C.1 C.2.1 s _ t0.1 aA e1 eA (w 0)
 have j2:∀a,JF w (ZL p cs) ((2:Nat):Int) a=some (UU w p.d p.p2 (w 0)):=by intro a;obtain⟨s,e1,e2⟩:=GF (w:=w) hF (m:=2) jD (Yc (d:=p.d) (ps:=p.p2) t2.1).2.1 Z a;rw[e2];exact Ug hF hw I p.p2 _ s _ C.2.2.1 t2.1 aB e1 Z (w 0)
 have j3:∀a,JF w (ZL p cs) ((3:Nat):Int) a=some (UU w p.d p.p3 (w 0)):=by intro a;obtain⟨s,e1,e2⟩:=GF (w:=w) hF (m:=3) jD (Yc (d:=p.d) (ps:=p.p3) t3.1).2.1 eC a;rw[e2];exact Ug hF hw I p.p3 _ s _ C.2.2.2.1 t3.1 aC e1 eC (w 0)
 have j4:∀a,JF w (ZL p cs) ((4:Nat):Int) a=some (UU w p.d p.p4 (w 0)):=by intro a;obtain⟨s,e1,e2⟩:=GF (w:=w) hF (m:=4) jD (Yc (d:=p.d) (ps:=p.p4) t4.1).2.1 eD a;rw[e2];exact Ug hF hw I p.p4 _ s _ C.2.2.2.2 t4.1 aD e1 eD (w 0)
 have hkl:XL.l=[ins 0x20 4 0 0,ins 0x15 QN 1 0,ins 0x15 Pk 2 0,ins 0x15 Pj 3 0,ins 0x15 Ph 4 0,ins 0x05 0 (look XL.b Zo) 0]:=rfl;have D:=aK Zo hk;rw[hkl] at A;have r1:ZL p cs=[ins 0x20 4 0 0]++ins 0x15 QN 1 0::ins 0x15 Pk 2 0::ins 0x15 Pj 3 0::ins 0x15 Ph 4 0::ins 0x05 0 (look XL.b Zo) 0::rest:=A;have r2:ZL p cs=[ins 0x20 4 0 0,ins 0x15 QN 1 0]++ins 0x15 Pk 2 0::ins 0x15 Pj 3 0::ins 0x15 Ph 4 0::ins 0x05 0 (look XL.b Zo) 0::rest:=A;have r3:ZL p cs=[ins 0x20 4 0 0,ins 0x15 QN 1 0,ins 0x15 Pk 2 0]++ins 0x15 Pj 3 0::ins 0x15 Ph 4 0::ins 0x05 0 (look XL.b Zo) 0::rest:=A;have r4:ZL p cs=[ins 0x20 4 0 0,ins 0x15 QN 1 0,ins 0x15 Pk 2 0,ins 0x15 Pj 3 0]++ins 0x15 Ph 4 0::ins 0x05 0 (look XL.b Zo) 0::rest:=A;have r5:ZL p cs=[ins 0x20 4 0 0,ins 0x15 QN 1 0,ins 0x15 Pk 2 0,ins 0x15 Pj 3 0,ins 0x15 Ph 4 0]++⟨0,0x05,0,(look XL.b Zo:Nat),0⟩::rest:=A;have start:Wl w (ZL p cs) a=Wl w (ins 0x15 QN 1 0::ins 0x15 Pk 2 0::ins 0x15 Pj 3 0::ins 0x15 Ph 4 0::ins 0x05 0 (look XL.b Zo) 0::rest) (w 4):=by rw[A];exact W9 w _ 4 0 0 a
 rw[start];unfold Ev;rw[Zm hF r1 rfl,XM];by_cases c0:w 4=QN;·rw[aG (by simpa using c0),aN jD,aG c0];exact j1 _
 ·rw[aN (by simpa using c0),aG rfl,aN c0,Zm hF r2 rfl,XM];by_cases Y:w 4=Pk;·rw[aG (by simpa using Y),aN jD,aG Y];exact j2 _
  ·rw[aN (by simpa using Y),aG rfl,aN Y,Zm hF r3 rfl,XM];by_cases U:w 4=Pj;·rw[aG (by simpa using U),aN jD,aG U];exact j3 _
   ·rw[aN (by simpa using U),aG rfl,aN U,Zm hF r4 rfl,XM];by_cases J:w 4=Ph;·rw[aG (by simpa using J),aN jD,aG J];exact j4 _
    ·rw[aN (by simpa using J),aG rfl,aN J];have hj:=Lu (w:=w) hF r5 jO (w 4);rw[show ins 0x05 0 (look XL.b Zo:Nat) 0=⟨0,0x05,0,(look XL.b Zo:Nat),0⟩ from rfl,hj,<-D];exact I Zo (by rw[D];exact hk) _
end Go.Proofs.YtclgigmgbebhgaaGreatDoor
namespace Go.Proofs.YtclgigmgbebhgaaGreatDoor
open Tryz
open Go Go.Proofs Go.RowKit Go.Maps Go.WideMaps Go.ChangeMaps
variable {W W':World}
def ZB(W:World)(B:Nat)(S:List (Value×Value)):Prop:=∃es clock,W.heap[B]? =some (.map es clock)/\es.toList.map (λe=>(e.key,e.val))=S/\MapKept.Stamped es clock
theorem ZB.lt {B:Nat}{S:List (Value×Value)}(h:ZB W B S):B<W.heap.size:=by
 obtain⟨es,c,h,_⟩:=h;exact(aaa.1 h).1
theorem ZB.kept {row:Option Nat}{B:Nat}{S:List (Value×Value)}(h:ZB W B S)(C:W.grownBy W' row)(A:some B≠row):ZB W' B S:=by
 have hl:=h.lt;obtain⟨es,c,h,D⟩:=h;exact⟨es,c,(C.block B hl A).trans h,D⟩
theorem ZB.below{n:Nat} {B:Nat}{S:List (Value×Value)}(h:ZB W B S)(hb:Below n W W')(A:B<n):ZB W' B S:=by
 obtain⟨es,c,h,C⟩:=h;exact⟨es,c,(hb.block B A).trans h,C⟩
theorem ZB.alloc {B:Nat}{S:List (Value×Value)}(h:ZB W B S)(o:Obj):ZB (W.alloc o) B S:=h.kept (aea W o none) jS
theorem ZB.made(W:World):ZB (W.alloc (.map #[] 0)) W.heap.size []:=⟨#[],0,ard W _,rfl,λx hx=>(by simp at hx),List.Pairwise.nil,List.Pairwise.nil⟩
theorem Ue{es:Array MapEntry}{S:List (Value×Value)}(C:es.toList.map (λe=>(e.key,e.val))=S):(∀e∈es.toList,(e.key,e.val)∈S)/\∀p∈S,∃e∈es.toList,e.key=p.1/\e.val=p.2:=by
 subst C;constructor;·intro e A;exact ai.2 ⟨e,A,rfl⟩
 ·intro p hp;obtain⟨e,A,rfl⟩:=ai.1 hp;exact⟨e,A,rfl,rfl⟩
section
variable {P:Program} {tm tk tv:TypeId} (hu:P.underlying tm=some (.map tk tv)) (K:Keyed P tk) {z:Value} (hz:∀W,(zeroValue tv).run P W=.ok z W)
variable {W:World} {B:Nat} {S:List (Value×Value)} (h:ZB W B S) (hS:∀p∈S,∃l,keyOf P tk p.1=some l) {k:Value} (hk:∃l,keyOf P tk k=some l)
include hu K hz h hS hk
theorem Ud(hn:∀p∈S,p.1≠k):(Instr.lookup tm (.map (some B)) k false).run P W=.ok z W:=by
 obtain⟨es,clock,hb,Y,J⟩:=h;obtain⟨C,k2⟩:=Ue Y;obtain⟨Z,A⟩:=hk;rcases K.find W A es.toList (λe U=>hS _ (C e U)) with⟨I,D⟩|⟨j,e0,I,D,T⟩;·simp[Instr.lookup,ajb hu,aic hb,K.check W _ A,I,hz,Result.andThen]
 ·exact absurd T.symm (λe=>hn _ (C e0 (af D)) (by first|exact e.symm|exact e))
omit hz in
theorem Xu{v:Value}(hv:(k,v)∈S)(hd:S.Pairwise (λp q=>p.1≠q.1)):(Instr.lookup tm (.map (some B)) k false).run P W=.ok v W:=by
 obtain⟨es,clock,hb,h2,hst⟩:=h;obtain⟨Z,k2⟩:=Ue h2;obtain⟨kl,C⟩:=hk;rcases K.find W C es.toList (λe Y=>hS _ (Z e Y)) with⟨h4,T⟩|⟨j,e0,h4,T,h6⟩
 ·obtain⟨e,Y,e1,_⟩:=k2 (k,v) hv;exact absurd e1 (T e Y)
 ·have hm:=Z e0 (af T)
  have hval:e0.val=v:=by
   have e1:e0.key=k:=by first|exact h6|exact h6.symm
   rw[e1] at hm;obtain⟨i,hi,J⟩:=agb.1 hm;obtain⟨U,I,A⟩:=agb.1 hv;by_cases e:i=U;·subst e;rw[J] at A;exact(Prod.mk.inj A).2
   ·exfalso;have hp:=amb.1 hd;rcases aza e with D|D;·exact hp i U hi I D (by rw[J,A])
    ·exact hp U i I hi D (by rw[J,A])
  simp[Instr.lookup,ajb hu,aic hb,K.check W _ C,h4,Result.andThen,hval]
theorem B7(hn:∀p∈S,p.1≠k):(Instr.lookup tm (.map (some B)) k true).run P W=.ok (.tuple #[z,.bool false]) W:=by
 obtain⟨es,clock,hb,Y,J⟩:=h;obtain⟨C,k2⟩:=Ue Y;obtain⟨Z,A⟩:=hk;rcases K.find W A es.toList (λe U=>hS _ (C e U)) with⟨I,D⟩|⟨j,e0,I,D,T⟩;·simp[Instr.lookup,ajb hu,aic hb,K.check W _ A,I,hz,Result.andThen]
 ·exact absurd T.symm (λe=>hn _ (C e0 (af D)) (by first|exact e.symm|exact e))
omit hz in
theorem Ld{v:Value}(hv:(k,v)∈S)(hd:S.Pairwise (λp q=>p.1≠q.1)):(Instr.lookup tm (.map (some B)) k true).run P W=.ok (.tuple #[v,.bool true]) W:=by
 obtain⟨es,clock,hb,h2,hst⟩:=h;obtain⟨Z,k2⟩:=Ue h2;obtain⟨kl,C⟩:=hk;rcases K.find W C es.toList (λe Y=>hS _ (Z e Y)) with⟨h4,T⟩|⟨j,e0,h4,T,h6⟩
 ·obtain⟨e,Y,e1,_⟩:=k2 (k,v) hv;exact absurd e1 (T e Y)
 ·have hm:=Z e0 (af T)
  have hval:e0.val=v:=by
   have e1:e0.key=k:=by first|exact h6|exact h6.symm
   rw[e1] at hm;obtain⟨i,hi,J⟩:=agb.1 hm;obtain⟨U,I,A⟩:=agb.1 hv;by_cases e:i=U;·subst e;rw[J] at A;exact(Prod.mk.inj A).2
   ·exfalso;have hp:=amb.1 hd;rcases aza e with D|D;·exact hp i U hi I D (by rw[J,A])
    ·exact hp U i I hi D (by rw[J,A])
  simp[Instr.lookup,ajb hu,aic hb,K.check W _ C,h4,Result.andThen,hval]
omit hz in
theorem Vq(hn:∀p∈S,p.1≠k)(v:Value):∃W',(Instr.mapUpdate tm (.map (some B)) k v).run P W=.ok () W'/\ZB W' B (S++[(k,v)])/\W.grownBy W' (some B):=by
 obtain⟨es,clock,hb,J,D⟩:=h;obtain⟨I,k2⟩:=Ue J;obtain⟨kl,C⟩:=hk;rcases K.find W C es.toList (λe he=>hS _ (I e he)) with⟨U,T⟩|⟨j,e0,U,T,Z⟩
 ·refine⟨setBlock W B (.map (es.push ⟨k,v,clock⟩) (clock+1)),?_,⟨_,_,heap_setBlock_same hb _,?_,?_⟩,⟨rfl,rfl,rfl,by simp[setBlock],λi _ hi=>heap_setBlock_other hb _ (λe=>hi (by rw[e]))⟩⟩;·simp[Instr.mapUpdate,ajb hu,aic hb,K.check W false C,U,awc _ hb,Result.andThen,setBlock]
  ·simp[J]
  ·obtain⟨s1,s2,Y⟩:=D;refine⟨λx hx=> ?_,?_,?_⟩
   ·rw[Array.toList_push] at hx;rcases abe.1 hx with hx|hx;·exact Nat.lt_succ_of_lt (s1 x hx)
    ·rw[aac.1 hx];exact amg _
   ·rw[Array.toList_push,acf,aub];refine⟨s2,jS,λa ha b A e=> ?_⟩;obtain⟨x,hx,rfl⟩:=ai.1 ha;have:=s1 x hx;simp at A;omega
   ·rw[Array.toList_push,acf,aub];refine⟨Y,jS,λa ha b A e=> ?_⟩;obtain⟨x,hx,rfl⟩:=ai.1 ha;simp at A;exact hn _ (I x hx) (by rw[e,A])
 ·exact absurd Z.symm (λe=>hn _ (I e0 (af T)) (by first|exact e.symm|exact e))
end
end Go.Proofs.YtclgigmgbebhgaaGreatDoor
namespace Go.Proofs.YtclgigmgbebhgaaGreatDoor
open Tryz
open Go Go.Proofs Go.RowKit
theorem OL{k:IntKind}{a b:Int}(h:a=b):Ending.returned (.int k a)=.returned (.int k b):=by rw[h]
theorem GD{a b:Bool}(h:a=b):Ending.returned (.bool a)=.returned (.bool b):=by rw[h]
section
variable {F:Fence} {n:Nat} {P:Program} {ops:Array Oper} {rest:List Oper} {a:Act} {w:World} {Q:Exit->Act->World->Prop}
theorem Pg{ty:TypeId}{x y:Operand}{tt:TypeId}{pos:String}{after:Array Edge}
 (W:World) (t:TypeId) (old cells:Array Value) (hw:w=W.alloc (.cells old t)) (hx:a.eval x=.pointer (some ⟨W.heap.size,0,none⟩)) (hy:a.eval y=.agg cells)
 (hi:(P.info? ty).map (·.size)=some cells.size) (hold:old.size=cells.size) (A:cells.all (·.oneCell')=true)
 (h:wpListIn F n P ops Q rest a (W.alloc (.cells cells t))):wpListIn F n P ops Q ({dst:=none,op:=.store ty x y,type:=tt,pos,after,guard:=none}::rest) a w:=
 wpListIn_plain rfl λK C=>by
  subst hw;refine⟨λf hf=> ?_,?_⟩;·simp[Oper.about] at hf
  ·rw[Oper.semAt_eq _ _ _ jS];unfold execOp;simp only[hx,hy,Instr.storeAt,Instr.sureAddr,Sem.run_bind,Sem.run_pure,asa,run_storeVar_row (P:=P) (W.alloc (.cells old t)) W.heap.size t ty old cells (heap_alloc_last W _) hi hold A,World.setRow_alloc_new];simp only[Oper.uponIn,Act.put];exact C _ _ h
theorem OJ{k:Tmp}{ty:TypeId}{x:Operand}{tt:TypeId}{pos:String}{after:Array Edge}
 (g:Nat) (t:TypeId) (cs:Array Value) (fr:Nat×Nat) (d:TypeDesc) (C:w.heap[g]? =some (.cells cs t fr)) (hx:a.eval x=.pointer (some ⟨g,0,none⟩))
 (hu:P.underlying ty=some d) (A:(match d with | .struct _ | .array _ _=>true|_=>false)=true) (hi:(P.info? ty).map (·.size)=some cs.size)
 (h:wpListIn F n P ops Q rest {a with tmps:=a.tmps.setIfInBounds k (.agg cs)} w):wpListIn F n P ops Q ({dst:=some k,op:=.load ty x,type:=tt,pos,after,guard:=none}::rest) a w:=
 wpListIn_plain rfl λK D=>by
  refine⟨λf hf=> ?_,?_⟩;·simp[Oper.about] at hf
  ·rw[Oper.semAt_eq _ _ _ jS];unfold execOp;simp only[hx,Instr.loadAt,Instr.sureAddr,Sem.run_bind,Sem.run_pure,asa,run_loadVar_row w g t ty cs fr d C hu A hi];simp only[Oper.uponIn,Act.put];exact D _ _ h
end
end Go.Proofs.YtclgigmgbebhgaaGreatDoor
namespace Go.Proofs.YtclgigmgbebhgaaGreatDoor
open Tryz
open Go Go.Proofs Go.RowKit Go.Maps Go.WideMaps Go.ChangeMaps
variable {xs:List Value} {LO M Bm j m:Nat} {a W w w':World}
abbrev Fx:Nat:=135
abbrev Wk:Nat:=139
def zr(x:Z9):List Value:=[.int .i64 x.mark,.int .u16 x.code,.int .u32 x.k,.int .i64 x.t,.int .i64 x.f]
def XY(l:List Z9):List Value:=l.flatMap zr
theorem BZ(a b:List Z9):XY (a++b)=XY a++XY b:=by unfold XY;rw[acb]
theorem Lc:∀l:List Z9,(XY l).length=l.length*5
 |[]=>rfl
 |x::l=>by have A:=Lc l;unfold XY at*;rw[acd,ay,A,aj];show 5+_=_;omega
theorem BX(l:List Z9):∀u∈XY l,u.oneCell'=true:=by
 intro u hu;obtain⟨x,_,hx⟩:=aqf.1 hu;unfold zr at hx;simp only[abf,ajf,atg] at hx;rcases hx with rfl|rfl|rfl|rfl|rfl<;>rfl
theorem dz:(prog.info? Wk).map (λi=>(i.zero,i.size,i.bytes))=some (some (.agg #[.int .i64 0,.int .u16 0,.int .u32 0,.int .i64 0,.int .i64 0]),5,32):=jK
theorem ZP{P:Program}{t:TypeId}{z:Value}{s b:Nat}(h:(P.info? t).map (λi=>(i.zero,i.size,i.bytes))=some (some z,s,b)):∃i,P.info? t=some i/\i.zero=some z/\i.size=s/\i.bytes=b:=by
 cases hi:P.info? t with
 |none=>rw[hi] at h;cases h
 |some i=>
  rw[hi] at h;simp only[avf,akf,asb] at h;exact⟨i,rfl,h.1,h.2.1,h.2.2⟩
def QM(b:List (Nat×Nat)):List (Value×Value):=b.map λp=>(.int .u32 p.1,.int .i64 p.2)
structure Zl(LO M Bm:Nat)(W:World)(v:Value)(g:G):Prop where
 blk:Z7 W M Fx #[v,.int .i64 g.n,.map (some Bm)]
 own:W.ownsRow LO Wk 5 v g.l.length (XY g.l)
 map:ZB W Bm (QM g.b)
 lo:LO<=M/\LO<=Bm
def Yh(LO M Bm:Nat)(w w':World):Prop:=Below LO w w'/\w.heap.size<=w'.heap.size/\∀k o,w.heap[k]? =some o->k≠M->k≠Bm->(∀cs f,o≠.cells cs Wk f)->w'.heap[k]? =some o
theorem Yh.refl(LO M Bm:Nat)(w:World):Yh LO M Bm w w:=⟨aH _ _,aR _,λ_ _ h _ _ _=>h⟩
theorem Yh.trans {b c:World}(h:Yh LO M Bm a b)(k:Yh LO M Bm b c):Yh LO M Bm a c:=⟨h.1.trans k.1,aO h.2.1 k.2.1,λj o I C A D=>k.2.2 j o (h.2.2 j o I C A D) C A D⟩
theorem Yh.below {b:World}(h:Below a.heap.size a b)(A:LO<=a.heap.size):Yh LO M Bm a b:=⟨h.mono A,h.size,λk o hk _ _ _=>(h.block k (aaa.1 hk).1).trans hk⟩
theorem Yh.alloc(o:Obj)(A:LO<=a.heap.size):Yh LO M Bm a (a.alloc o):=Yh.below ((aH _ a).alloc (aR _) o) A
theorem Yh.blk {b:World}(h:Yh LO M Bm a b){B:Nat}{t:TypeId}{cs:Array Value}(C:Z7 a B t cs)(A:B≠M)(D:B≠Bm)(ht:t≠Wk):Z7 b B t cs:=h.2.2 B _ C A D (λcs f e=>by
 injection e with _ e2;exact ht e2)
theorem ZB.af5 {B:Nat}{u:Value}{S:List (Value×Value)}(h:ZB W B S)(A:B≠M):ZB (W.setCell ⟨M,j,none⟩ u) B S:=by
 obtain⟨es,c,C,D⟩:=h;exact⟨es,c,(aef W ⟨M,j,none⟩ u B A).trans C,D⟩
theorem Lb {B e size n g t:Nat}{v u:Value} {cs:Array Value}(h:W.ownsRow B e size v n xs)(Y:Z7 W g t cs)(D:e≠t):(W.setCell ⟨g,j,none⟩ u).ownsRow B e size v n xs:=by
 refine⟨h.1,?_⟩;rcases h.2 with I|⟨A,cap,C,U,I,J,T⟩;·exact .inl I
 ·refine .inr ⟨A,cap,C,U,I,(aef W ⟨g,j,none⟩ u A (show A≠g from λe2=> ?_)).trans J,T⟩;subst e2;have:=J.symm.trans Y;injection this with this;injection this with _ e3;exact D e3
theorem ZI {B e s n:Nat}{v:Value} (h:W.ownsRow B e s v n xs):∃a c,v=.slice a n c:=by
 rcases h.2 with⟨rfl,rfl⟩|⟨g,c,_,rfl,_⟩;·exact⟨_,_,rfl⟩
 ·exact⟨_,_,rfl⟩
theorem tC{v:Value}{n:Nat} {cs:Array Value}(h:W.ownsRow LO Wk 5 v n xs)(A:Z7 W M Fx cs):v.ownBlock≠some M:=by
 rcases h.2 with⟨rfl,_⟩|⟨g,c,D,rfl,_,C,_⟩;·intro e;cases e
 ·intro e;have e:g=M:=ax e;subst e;have:=C.symm.trans A;injection this with this;injection this with _ I;exact absurd I jD
theorem La {B:Nat}{v:Value}{n:Nat} {S:List (Value×Value)}(h:W.ownsRow LO Wk 5 v n xs)(D:ZB W B S):v.ownBlock≠some B:=by
 rcases h.2 with⟨rfl,_⟩|⟨g,c,C,rfl,_,A,_⟩;·intro e;cases e
 ·intro e;have e:g=B:=ax e;subst e;obtain⟨es,I,hb,_⟩:=D;have:=A.symm.trans hb;injection this with this;cases this
theorem K4 {B:Nat}{cs:Array Value}{S:List (Value×Value)}(A:Z7 W M Fx cs)(C:ZB W B S):M≠B:=by
 rintro rfl;obtain⟨es,D,hb,_⟩:=C;have:=hb.symm.trans A;injection this with this;cases this
theorem lY {v:Value}{g:G}{xs:List Z9}{ad:Addr}{c:Nat}(w:World)(h:Zl LO M Bm w v g)(hx:∀j u,(XY xs)[j]? =some u->w.cell? (ad.add j)=some u)(hlen:g.l.length+xs.length<=1000000)(T:LO<=w.heap.size):
 Calls prog 47 #[.pointer (some ⟨M,0,none⟩),.slice (some ad) xs.length c] w λe w'=>e=.returned (.tuple #[])/\∃v',Zl LO M Bm w' v' (g.put xs)/\Yh LO M Bm w w':=by
 obtain⟨hb,ho,hm,U⟩:=h;obtain⟨i0,hi,hz0,hz1,hz2⟩:=ZP dz;have lX:=tC ho hb;have Cl:=La ho hm;have hMB:=K4 hb hm;obtain⟨L,hL⟩:=jX g.l.length;obtain⟨K,hK⟩:=jX xs.length;have Y:=Lc xs;have ar4:=BX xs;have D:=BZ g.l xs;rw[hL,hK] at hlen;rw[hK] at Y ⊢;rw[hL] at ho;obtain⟨va,vc,rfl⟩:=ZI ho;have HGL:Hid ((g.put xs).l.length=L+K):=by show(g.l++xs).length=_;rw[ay,hL,hK]
 have HGF:Hid (XY (g.put xs).l=XY g.l++XY xs):=D;have c0:=hb.e0;have HX:=aT hx;have HO:=aT ho;have nA:=aT hb;have HMp:=aT hm;have HM1:=aT lX;have Uy:=aT Cl;have HMB:=aT hMB;have Z:=aT U;clear hb hm hx D ho lX Cl hMB U;go_enter func47,ntmps47
 go_wp2_with (at_builtin;refine adg _ rfl _ _ 79 rfl LO Wk i0 (.agg #[.int .i64 0,.int .u16 0,.int .u32 0,.int .i64 0,.int .i64 0]) 5 32 underlying79 hi hz0 hz1 hz2 rfl jD _ L _ rfl HO ad K c (XY xs) rfl ?c1 ?c2 ?c3 ?c4 ?c5 ?c6 ?_;(case c1=>exact Y);(case c2=>exact HX);(case c3=>exact ar4);(case c4=>unfold maxLen;omega);(case c5=>omega);(case c6=>exact T);intro v' w6 C A _;obtain⟨sa,sc,rfl⟩:=ZI C;have I:Z7 w6 M Fx #[.slice va L vc,.int .i64 g.n,.map (some Bm)]:=(A.block M nA.lt (λe=>HM1 e.symm)).trans nA;have d0:=I.cell 0;(simp only[ak,aL] at d0);have z0:=I.frozen 0)
 have hm6:ZB w6 Bm (QM g.b):=HMp.kept A (λe=>Uy e.symm);have HK:Hid (Zl LO M Bm (w6.setCell ⟨M,0,none⟩ (.slice sa (L+K) sc)) (.slice sa (L+K) sc) (g.put xs)):=⟨Z7.set 0 _ I,by rw[HGL.out,HGF.out];exact Lb C I jD,ZB.af5 hm6 (λe=>HMB e.symm),Z⟩;have J:Hid (Yh LO M Bm w (w6.setCell ⟨M,0,none⟩ (.slice sa (L+K) sc))):=by
  refine⟨(((aH LO w).grown A T (λr e=>(HO.lt r e).1))).setCell (p:=⟨M,0,none⟩) Z.1 _,by rw[World.size_setCell];exact A.size,λk o hk h1 h2 h3=> ?_⟩;rw[aef w6 ⟨M,0,none⟩ _ k h1];refine(A.block k (aaa.1 hk).1 (λe=> ?_)).trans hk;rcases HO.out.2 with⟨e2,_⟩|⟨g1,c1,cur,e2,_,hg,_⟩;·rw[e2] at e;cases e
  ·rw[e2] at e;have e:k=g1:=ax e;subst e;exact h3 cur _ (ax (hk.symm.trans hg))
 first
  |(go_end0;exact⟨rfl,_,HK,J⟩)
  |(refine aag (aog rfl _ _ _) rfl ?_;exact⟨rfl,_,HK,J⟩)
  |(go_ret;exact⟨rfl,_,HK,J⟩)
structure Wj(g:G):Prop where
 keys:g.b.Pairwise (λp q=>p.1≠q.1)
 Fw:∀p∈g.b,p.1<4294967296/\p.2≠0
 len:g.b.length<=g.n
theorem K3:∀{b:List (Nat×Nat)} {c:Nat},look b c≠0->(c,look b c)∈b
 |[],c,h=>absurd rfl h
 |(d,m)::b,c,h=>by
  unfold look at h ⊢;split;·rename_i e;subst e;exact agf
  ·rename_i e;rw[aN e] at h;exact afd _ (K3 h)
theorem Xt:∀{b:List (Nat×Nat)} {c:Nat},(∀p∈b,p.2≠0)->look b c=0->∀p∈b,p.1≠c
 |[],c,_,_,p,hp=>by cases hp
 |(d,m)::b,c,hz,h,p,hp=>by
  unfold look at h;split at h;·exact absurd h (hz (d,m) agf)
  ·rename_i e;rcases abf.1 hp with rfl|hp;·exact e
   ·exact Xt (λq A=>hz q (afd _ A)) h p hp
theorem Wj.put{g:G}(h:Wj g)(xs:List Z9):Wj (g.put xs):=⟨h.keys,h.Fw,h.len⟩
theorem Wj.here{g:G}(h:Wj g)(m:Nat):Wj (g.here m):=⟨h.keys,h.Fw,h.len⟩
theorem Wj.mark{g:G}(h:Wj g):Wj g.mark:=⟨h.keys,h.Fw,Nat.le_succ_of_le h.len⟩
theorem Wj.goes{g:G}(h:Wj g){c:Nat}(hc:c<4294967296):Wj (g.goes c):=by
 unfold G.goes;split
 ·rename_i A;refine⟨afa.2 ⟨h.keys,apg _ _,λp hp q C=> ?_⟩,λp hp=> ?_,by rw[ay];exact axd h.len⟩;·rcases aac.1 C with rfl;exact Xt (λp hp=>(h.Fw p hp).2) A p hp
  ·rcases abe.1 hp with hp|hp;·exact h.Fw p hp
   ·rcases aac.1 hp with rfl;exact⟨hc,aqg _⟩
 ·exact h
theorem K2:Keyed prog 53:=int_keyed underlying53
theorem xx{c:Nat}(h:c<4294967296):∃l,keyOf prog 53 (.int .u32 c)=some l:=⟨_,keyOf_int_mk underlying53 (by
 show(decide (IntKind.u32.min<=(c:Int))&&decide ((c:Int)<=IntKind.u32.max))=true;rw[show IntKind.u32.min=0 from jD,show IntKind.u32.max=4294967295 from jD];simp only[agc,aed];omega)⟩
theorem OI{b:List (Nat×Nat)}{p:Value×Value}(hp:p∈QM b):∃q∈b,p=(.int .u32 q.1,.int .i64 q.2):=by
 obtain⟨q,A,e⟩:=ai.1 hp;exact⟨q,A,e.symm⟩
theorem K1 {c:Nat}{b:List (Nat×Nat)}(h:ZB W Bm (QM b))(hk:b.Pairwise (λp q=>p.1≠q.1))(hb:∀p∈b,p.1<4294967296/\p.2≠0)(hc:c<4294967296):
 (Instr.lookup 133 (.map (some Bm)) (.int .u32 c) false).run prog W=.ok (.int .i64 ((look b c:Nat):Int)) W:=by
 have hz:∀W,(zeroValue 3).run prog W=.ok (.int .i64 0) W:=λ_=>jK
 have hS:∀p∈QM b,∃l,keyOf prog 53 p.1=some l:=λp hp=>by obtain⟨q,C,rfl⟩:=OI hp;exact xx (hb q C).1
 by_cases A:look b c=0
 ·rw[A];refine Ud underlying133 K2 hz h hS (xx hc) (λp hp e=> ?_);obtain⟨q,C,rfl⟩:=OI hp;have e:(q.1:Int)=(c:Int):=by injection e
  exact Xt (λp hp=>(hb p hp).2) A q C jO
 ·refine Xu underlying133 K2 h hS (xx hc) (ai.2 ⟨(c,look b c),K3 A,rfl⟩) ?_;unfold QM;rw[aeg]
  exact hk.imp (λ{p q} D e=>by
   have e:(p.1:Int)=(q.1:Int):=by injection e
   exact D jO)
theorem lW {c:Nat}{b:List (Nat×Nat)}(h:ZB W Bm (QM b))(hb:∀p∈b,p.1<4294967296/\p.2≠0)(hc:c<4294967296)(I:look b c=0):
 ∃W',(Instr.mapUpdate 133 (.map (some Bm)) (.int .u32 c) (.int .i64 ((m:Int)+1))).run prog W=.ok () W'/\ZB W' Bm (QM (b++[(c,m+1)]))/\W.grownBy W' (some Bm):=by
 have hS:∀p∈QM b,∃l,keyOf prog 53 p.1=some l:=λp hp=>by obtain⟨q,A,rfl⟩:=OI hp;exact xx (hb q A).1
 obtain⟨W',D,C,J⟩:=Vq underlying133 K2 h hS (xx hc) (λp hp e=>by
  obtain⟨q,A,rfl⟩:=OI hp;have e:(q.1:Int)=(c:Int):=by injection e
  exact Xt (λp hp=>(hb p hp).2) I q A jO) (.int .i64 ((m:Int)+1))
 exact⟨W',D,by unfold QM at C ⊢;rw[acf];exact C,J⟩
theorem Yh.tA(h:w.grownBy w' (some Bm))(I:LO<=Bm)(A:LO<=w.heap.size):Yh LO M Bm w w':=
 ⟨(aH LO w).grown h A (λk e=>by have:=ax e;omega),h.size,λk o hk D C _=>(h.block k (aaa.1 hk).1 (λe=>C (ax e))).trans hk⟩
theorem Zl.drew{v:Value}{g:G}(h:Zl LO M Bm w v g):Zl LO M Bm w.drew v g:=⟨h.blk,h.own.drew,h.map,h.lo⟩
theorem Yh.drew(h:Yh LO M Bm w w'):Yh LO M Bm w w'.drew:=⟨h.1.drew,h.2.1,h.2.2⟩
theorem Yh.Pf(h:Yh LO M Bm w.drew w'):Yh LO M Bm w w':=(Yh.refl LO M Bm w).drew.trans h
def GB(g:G):Prop:=g.l.length<=900000/\g.n<=900000
structure U9(g g':G):Prop where
 l:g.l.length<=g'.l.length
 n:g.n<=g'.n
theorem U9.refl(g:G):U9 g g:=⟨aR _,aR _⟩
theorem U9.trans{a b c:G}(h:U9 a b)(k:U9 b c):U9 a c:=⟨aO h.l k.l,aO h.n k.n⟩
theorem U9.put(g:G)(xs:List Z9):U9 g (g.put xs):=⟨by simp[G.put],aR _⟩
theorem U9.here(g:G)(m:Nat):U9 g (g.here m):=⟨by simp[G.here],aR _⟩
theorem U9.mark(g:G):U9 g g.mark:=⟨aR _,azf _⟩
theorem U9.goes(g:G)(c:Nat):U9 g (g.goes c):=by
 unfold G.goes;split;·exact⟨aR _,azf _⟩
 ·exact U9.refl g
theorem GB.back{g g':G}(h:GB g')(l:U9 g g'):GB g:=⟨aO l.l h.1,aO l.n h.2⟩
theorem Yh.ar5 {b:World}(h:Yh LO M Bm a b)(C:LO<=M)(j:Nat)(u:Value):Yh LO M Bm a (b.setCell ⟨M,j,none⟩ u):=
 ⟨h.1.setCell (p:=⟨M,j,none⟩) C u,by rw[World.size_setCell];exact h.2.1,λk o hk A I D=>by rw[aef b ⟨M,j,none⟩ u k A];exact h.2.2 k o hk A I D⟩
theorem Zl.al{v:Value}{g:G}(h:Zl LO M Bm w v g)(o:Obj):Zl LO M Bm (w.alloc o) v g:=
 ⟨h.blk.alloc o,h.own.alloc o,h.map.alloc o,h.lo⟩
theorem Vp {v:Value}{g:G}(w:World)(h:Zl LO M Bm w v g)(hn:g.n+1<=1000000):
 Calls prog 49 #[.pointer (some ⟨M,0,none⟩)] w λe w'=>e=.returned (.int .i64 ((g.n:Int)+1))/\Zl LO M Bm w' v g.mark/\Yh LO M Bm w w':=by
 obtain⟨N,hN⟩:=jX g.n;have hb:=h.blk;rw[hN] at hb hn;have c1:=hb.e1;have T:=hb.frozen 1;have I:=jW N;have A:Z7 (w.setCell ⟨M,1,none⟩ (.int .i64 ((N:Int)+1))) M Fx #[v,.int .i64 ((N:Int)+1),.map (some Bm)]:=Z7.set 1 _ hb;have J:Hid (Zl LO M Bm (w.setCell ⟨M,1,none⟩ (.int .i64 ((N:Int)+1))) v g.mark):=⟨by show Z7 _ M Fx #[v,.int .i64 ((g.n+1:Nat):Int),.map (some Bm)];rw[hN];exact A,Lb h.own h.blk jD,ZB.af5 h.map (λe=>K4 h.blk h.map e.symm),h.lo⟩;have C:=aT ((Yh.refl LO M Bm w).ar5 h.lo.1 1 (.int .i64 ((N:Int)+1)));have U:=A.e1;have D:=aT hN;clear hb A h hN;go_enter func49,ntmps49;go_wp2_with fail;go_ret;exact⟨by rw[D.out];rfl,J,C⟩
theorem Y0 {v:Value}{g:G}{xs:List Z9}{cs:Array Value}{n c:Nat}(w:World)(h:Zl LO M Bm w v g)(hcs:cs.toList=XY xs)(hn:xs.length=n)(hlen:g.l.length+n<=1000000)(A:LO<=w.heap.size):
 Calls prog 47 #[.pointer (some ⟨M,0,none⟩),.slice (some ⟨w.heap.size,0,none⟩) n c] (w.alloc (.cells cs Wk)) λe w'=>e=.returned (.tuple #[])/\∃v',Zl LO M Bm w' v' (g.put xs)/\Yh LO M Bm w w':=by
 subst hn;refine(lY (xs:=xs) (ad:=⟨w.heap.size,0,none⟩) (c:=c) (w.alloc (.cells cs Wk)) (h.al _) (λj u C=> ?_) hlen (by rw[ah];omega)).mono ?_;·have e:=(Z7.new w Wk cs).cell j;rw[show(⟨w.heap.size,0,none⟩:Addr).add j=⟨w.heap.size,j,none⟩ by simp[Addr.add];omega,e,<-aff,hcs,C]
 ·rintro e w' ⟨rfl,v',D,I⟩;exact⟨rfl,v',D,(Yh.alloc _ A).trans I⟩
theorem K0 {v:Value}{g:G} (w:World)(h:Zl LO M Bm w v g)(hl:g.l.length+1<=1000000)(A:LO<=w.heap.size):
 Calls prog 53 #[.pointer (some ⟨M,0,none⟩),.int .i64 m] w λe w'=>e=.returned (.tuple #[])/\∃v',Zl LO M Bm w' v' (g.here m)/\Yh LO M Bm w w':=by
 have T:=aT h;clear h;go_enter func53,ntmps53
 go_wp2_with (refine Great.wpList_buildSliceTo rfl 79 Wk 1 _ rfl _ rfl _ rfl underlying79 #[.int .i64 m,.int .u16 0,.int .u32 0,.int .i64 0,.int .i64 0] jK ?_)
 refine(Y0 (xs:=[Zr m]) w T rfl rfl hl A).mono ?_;rintro e w' ⟨rfl,v',C,D⟩;have I:=aT C;have J:=aT D;clear C D;go_wp2_with fail;go_end0;exact⟨rfl,v',I,J⟩
theorem Uc {v:Value}{g:G}{c:Nat}(w:World)(h:Zl LO M Bm w v g)(hg:Wj g)(hc:c<4294967296)(hn:(g.goes c).n<=1000000)(RX:LO<=w.heap.size):
 Calls prog 50 #[.pointer (some ⟨M,0,none⟩),.int .u32 c] w λe w'=>e=.returned (.int .i64 ((look (g.goes c).b c:Nat):Int))/\Zl LO M Bm w' v (g.goes c)/\Yh LO M Bm w w':=by
 have hb:=h.blk;have c2:=hb.e2;have HH:=aT h;have HG:=aT hg;have LK:=aT (λW h=>K1 (c:=c) (W:=W) (Bm:=Bm) (b:=g.b) h hg.keys hg.Fw hc);have lk:=LK w h.map;clear hb h hg;by_cases D:look g.b c=0
 ·have T:g.goes c=⟨g.l,g.n+1,g.b++[(c,g.n+1)]⟩:=by unfold G.goes;rw[aG D]
  rw[T] at hn ⊢;rw[D] at lk;have HC:Hid (∀W:World,∀{v g},Zl LO M Bm W v g->W.cell? ⟨M,2,none⟩=some (.map (some Bm))):=λW v g h=>by have:=h.blk.cell 2;simpa using this
  have Z:Hid (∀W:World,ZB W Bm (QM g.b)->_):=λW h=>lW h HG.Fw hc D (m:=g.n)
  go_enter func50,ntmps50;go_upto_region 2 with fail;clear lk c2
  go_region_held3 (λw'=>w'.cell? ⟨M,2,none⟩=some (.map (some Bm))) (first|exact HC _ HH.drew|(with_reducible assumption)) (first
   |(go_at_call 49
     refine(Vp _ HH.drew hn).mono ?_;rintro e w1 ⟨rfl,A,f1⟩;have HH1:=aT A;have tz:=aT f1;obtain⟨w2,u2,m2,g2⟩:=Z w1 A.map;have J:Z7 w2 M Fx #[v,.int .i64 ((g.n+1:Nat):Int),.map (some Bm)]:=A.blk.kept g2 (λe=>K4 A.blk A.map (ax e));have ny:w2.cell? ⟨M,2,none⟩=some (.map (some Bm)):=by simpa using J.cell 2
     have Y:Hid (Zl LO M Bm w2 v ⟨g.l,g.n+1,g.b++[(c,g.n+1)]⟩):=⟨J,A.own.kept g2 (.inr (La A.own A.map)),m2,A.lo⟩;have OH:Hid (Yh LO M Bm w1 w2):=Yh.tA g2 A.lo.2 (aO RX f1.2.1);have TJ:=HC _ A;clear A f1 m2 g2))
  have U:look (g.b++[(c,g.n+1)]) c=g.n+1:=by rw[R1 _ _ _ _ D (λp hp=>(HG.out.Fw p hp).2),aG rfl]
  have C:Wj ⟨g.l,g.n+1,g.b++[(c,g.n+1)]⟩:=by rw[<-T];exact HG.goes hc
  have I:=K1 Y.map C.keys C.Fw hc;dsimp only at I;rw[U] at I;simp only[avg,azb] at I;clear HC Z LK C T J HH1;go_wp2_with fail;go_ret;exact⟨by dsimp only;rw[U];rfl,Y,(tz.trans OH).Pf⟩
 ·have e0:g.goes c=g:=by unfold G.goes;rw[aN D]
  rw[e0];obtain⟨L,hL⟩:=jX (look g.b c);rw[hL] at D lk ⊢;have hne:((L:Int) == 0)=false:=by simpa using D
  clear e0;go_enter func50,ntmps50;go_wp2_with fail;go_ret;exact⟨rfl,HH,Yh.refl _ _ _ _⟩
end Go.Proofs.YtclgigmgbebhgaaGreatDoor
namespace Go.Proofs.YtclgigmgbebhgaaGreatDoor
open Tryz
open Go Go.Proofs Go.RowKit
variable {LO M Bm:Nat}
theorem GC(g:G)(a b:List Z9):(g.put a).put b=g.put (a++b):=by unfold G.put;simp
def U4(lA hA ll hh ml mh:Nat)(wide:Bool)(yes no:Int):Array Value:=#[.int .u32 lA,.int .u32 hA,.int .u32 ll,.int .u32 hh,.int .u32 ml,.int .u32 mh,.bool wide,.int .i64 yes,.int .i64 no]
def VN(LO M Bm:Nat)(g:G)(w:World)(xs:List Z9):Ending->World->Prop:=λe w'=>e=.returned (.tuple #[])/\∃v',Zl LO M Bm w' v' (g.put xs)/\Yh LO M Bm w w'
theorem Et{LO M Bm:Nat}{v:Value}{g:G}(C hA D J Y mh:Nat)(wide:Bool)(yes no:Int)(w:World)(h:Zl LO M Bm w v g)(hl:g.l.length+4<=1000000)(RX:LO<=w.heap.size):
 Calls prog 309 #[.pointer (some ⟨M,0,none⟩),.agg (U4 C hA D J Y mh wide yes no)] w (VN LO M Bm g w (R2 hA C J D wide yes no)):=by
 have Ck:=Z7.new w 391 (U4 C hA D J Y mh wide yes no);have I:=aT Ck;have HH:=aT (h.al (.cells (U4 C hA D J Y mh wide yes no) 391));have HF:=aT (Yh.alloc (LO:=LO) (M:=M) (Bm:=Bm) (a:=w) (.cells (U4 C hA D J Y mh wide yes no) 391) RX);have hNM:w.heap.size≠M:=λe=>by have:=h.blk.lt;omega
 have nu:w.heap.size≠Bm:=λe=>by have:=h.map.lt;omega
 have hs:LO<=(w.alloc (.cells (U4 C hA D J Y mh wide yes no) 391)).heap.size:=by rw[ah];omega
 clear Ck h;unfold VN;unfold U4 at*;go_enter func309,ntmps309;go_upto_region 1 with fail;generalize hwx:w.alloc (.cells #[.int .u32 C,.int .u32 hA,.int .u32 D,.int .u32 J,.int .u32 Y,.int .u32 mh,.bool wide,.int .i64 yes,.int .i64 no] 391)=wx at*;clear hwx;have c0:=I.cell 0;have c1:=I.cell 1;have c2:=I.cell 2;have c3:=I.cell 3;have c4:=I.cell 4;have c5:=I.cell 5;have c6:=I.cell 6;have c7:=I.cell 7;have c8:=I.cell 8;simp only[U4,ak,aL,aF] at c0 c1 c2 c3 c4 c5 c6 c7 c8;cases wide with
 |true=>
  go_wp2_with (refine Great.wpList_buildSliceTo rfl 79 Wk 2 _ rfl _ rfl _ rfl underlying79 #[.int .i64 0,.int .u16 32,.int .u32 hA,.int .i64 0,.int .i64 0,.int .i64 0,.int .u16 21,.int .u32 J,.int .i64 0,.int .i64 no] jK ?_)
  refine(Y0 (xs:=[ins 32 hA 0 0,ins 21 J 0 no]) wx HH rfl rfl (by show _+2<=_;omega) hs).mono ?_;rintro e w2 ⟨rfl,v2,h2,f2⟩;have LR:=aT h2;have OH:=aT (HF.trans f2);have A:=aT (f2.blk I hNM nu jD);have hs2:=aO hs f2.2.1;clear h2 f2 c0 c1 c2 c3 c4 c5 c6 c7 c8;have d0:=A.cell 0;have d1:=A.cell 1;have d2:=A.cell 2;have d3:=A.cell 3;have d4:=A.cell 4;have d5:=A.cell 5;have d6:=A.cell 6;have d7:=A.cell 7;have d8:=A.cell 8;simp only[U4,ak,aL,aF] at d0 d1 d2 d3 d4 d5 d6 d7 d8
  go_wp2_with (refine Great.wpList_buildSliceTo rfl 79 Wk 2 _ rfl _ rfl _ rfl underlying79 #[.int .i64 0,.int .u16 32,.int .u32 C,.int .i64 0,.int .i64 0,.int .i64 0,.int .u16 21,.int .u32 D,.int .i64 yes,.int .i64 no] jK ?_)
  refine(Y0 (xs:=[ins 32 C 0 0,ins 21 D yes no]) w2 LR rfl rfl (by show(g.l++_).length+2<=_;rw[ay];show _+2+_<=_;omega) hs2).mono ?_;rintro e w3 ⟨rfl,v3,Z,f3⟩;rw[GC] at Z;have T:=aT Z;have U:=aT (OH.trans f3);clear Z f3;go_wp2_with fail;go_end0;exact⟨rfl,v3,T,U⟩
 |false=>
  go_wp2_with (refine Great.wpList_buildSliceTo rfl 79 Wk 2 _ rfl _ rfl _ rfl underlying79 #[.int .i64 0,.int .u16 32,.int .u32 C,.int .i64 0,.int .i64 0,.int .i64 0,.int .u16 21,.int .u32 D,.int .i64 yes,.int .i64 no] jK ?_)
  refine(Y0 (xs:=[ins 32 C 0 0,ins 21 D yes no]) wx HH rfl rfl (by show _+2<=_;omega) hs).mono ?_;rintro e w3 ⟨rfl,v3,Z,f3⟩;have T:=aT Z;have U:=aT (HF.trans f3);clear Z f3;go_wp2_with fail;go_end0;exact⟨rfl,v3,T,U⟩
theorem IW{LO M Bm:Nat}{v:Value}{g:G}(C hA D I Y mh:Nat)(wide:Bool)(yes no:Int)(w:World)(h:Zl LO M Bm w v g)(hl:g.l.length+5<=1000000)(RX:LO<=w.heap.size):
 Calls prog 312 #[.pointer (some ⟨M,0,none⟩),.agg (U4 C hA D I Y mh wide yes no)] w (VN LO M Bm g w (Vu hA C I D wide yes no)):=by
 have Ck:=Z7.new w 391 (U4 C hA D I Y mh wide yes no);have J:=aT Ck;have HH:=aT (h.al (.cells (U4 C hA D I Y mh wide yes no) 391));have HF:=aT (Yh.alloc (LO:=LO) (M:=M) (Bm:=Bm) (a:=w) (.cells (U4 C hA D I Y mh wide yes no) 391) RX);have hNM:w.heap.size≠M:=λe=>by have:=h.blk.lt;omega
 have nu:w.heap.size≠Bm:=λe=>by have:=h.map.lt;omega
 have hs:LO<=(w.alloc (.cells (U4 C hA D I Y mh wide yes no) 391)).heap.size:=by rw[ah];omega
 clear Ck h;unfold VN;unfold U4 at*;go_enter func312,ntmps312;go_upto_region 1 with fail;generalize hwx:w.alloc (.cells #[.int .u32 C,.int .u32 hA,.int .u32 D,.int .u32 I,.int .u32 Y,.int .u32 mh,.bool wide,.int .i64 yes,.int .i64 no] 391)=wx at*;clear hwx;have c0:=J.cell 0;have c1:=J.cell 1;have c2:=J.cell 2;have c3:=J.cell 3;have c4:=J.cell 4;have c5:=J.cell 5;have c6:=J.cell 6;have c7:=J.cell 7;have c8:=J.cell 8;simp only[U4,ak,aL,aF] at c0 c1 c2 c3 c4 c5 c6 c7 c8;cases wide with
 |true=>
  go_wp2_with (refine Great.wpList_buildSliceTo rfl 79 Wk 3 _ rfl _ rfl _ rfl underlying79 #[.int .i64 0,.int .u16 32,.int .u32 hA,.int .i64 0,.int .i64 0,.int .i64 0,.int .u16 37,.int .u32 I,.int .i64 yes,.int .i64 0,.int .i64 0,.int .u16 21,.int .u32 I,.int .i64 0,.int .i64 no] jK ?_)
  refine(Y0 (xs:=[ins 32 hA 0 0,ins 37 I yes 0,ins 21 I 0 no]) wx HH rfl rfl (by show _+3<=_;omega) hs).mono ?_;rintro e w2 ⟨rfl,v2,h2,f2⟩;have LR:=aT h2;have OH:=aT (HF.trans f2);have A:=aT (f2.blk J hNM nu jD);have hs2:=aO hs f2.2.1;clear h2 f2 c0 c1 c2 c3 c4 c5 c6 c7 c8;have d0:=A.cell 0;have d1:=A.cell 1;have d2:=A.cell 2;have d3:=A.cell 3;have d4:=A.cell 4;have d5:=A.cell 5;have d6:=A.cell 6;have d7:=A.cell 7;have d8:=A.cell 8;simp only[U4,ak,aL,aF] at d0 d1 d2 d3 d4 d5 d6 d7 d8
  go_wp2_with (refine Great.wpList_buildSliceTo rfl 79 Wk 2 _ rfl _ rfl _ rfl underlying79 #[.int .i64 0,.int .u16 32,.int .u32 C,.int .i64 0,.int .i64 0,.int .i64 0,.int .u16 53,.int .u32 D,.int .i64 yes,.int .i64 no] jK ?_)
  refine(Y0 (xs:=[ins 32 C 0 0,ins 53 D yes no]) w2 LR rfl rfl (by show(g.l++_).length+2<=_;rw[ay];show _+3+_<=_;omega) hs2).mono ?_;rintro e w3 ⟨rfl,v3,Z,f3⟩;rw[GC] at Z;have T:=aT Z;have U:=aT (OH.trans f3);clear Z f3;go_wp2_with fail;go_end0;exact⟨rfl,v3,T,U⟩
 |false=>
  go_wp2_with (refine Great.wpList_buildSliceTo rfl 79 Wk 2 _ rfl _ rfl _ rfl underlying79 #[.int .i64 0,.int .u16 32,.int .u32 C,.int .i64 0,.int .i64 0,.int .i64 0,.int .u16 53,.int .u32 D,.int .i64 yes,.int .i64 no] jK ?_)
  refine(Y0 (xs:=[ins 32 C 0 0,ins 53 D yes no]) wx HH rfl rfl (by show _+2<=_;omega) hs).mono ?_;rintro e w3 ⟨rfl,v3,Z,f3⟩;have T:=aT Z;have U:=aT (HF.trans f3);clear Z f3;go_wp2_with fail;go_end0;exact⟨rfl,v3,T,U⟩
theorem BW{LO M Bm:Nat}{v:Value}{g:G}(D hA I U C T:Nat)(wide:Bool)(yes no:Int)(w:World)(h:Zl LO M Bm w v g)(hl:g.l.length+6<=1000000)(RX:LO<=w.heap.size):
 Calls prog 313 #[.pointer (some ⟨M,0,none⟩),.agg (U4 D hA I U C T wide yes no)] w (VN LO M Bm g w (MR hA D U I T C wide yes no)):=by
 have Ck:=Z7.new w 391 (U4 D hA I U C T wide yes no);have J:=aT Ck;have HH:=aT (h.al (.cells (U4 D hA I U C T wide yes no) 391));have HF:=aT (Yh.alloc (LO:=LO) (M:=M) (Bm:=Bm) (a:=w) (.cells (U4 D hA I U C T wide yes no) 391) RX);have hNM:w.heap.size≠M:=λe=>by have:=h.blk.lt;omega
 have nu:w.heap.size≠Bm:=λe=>by have:=h.map.lt;omega
 have hs:LO<=(w.alloc (.cells (U4 D hA I U C T wide yes no) 391)).heap.size:=by rw[ah];omega
 clear Ck h;unfold VN;unfold U4 at*;go_enter func313,ntmps313;go_upto_region 1 with fail;generalize hwx:w.alloc (.cells #[.int .u32 D,.int .u32 hA,.int .u32 I,.int .u32 U,.int .u32 C,.int .u32 T,.bool wide,.int .i64 yes,.int .i64 no] 391)=wx at*;clear hwx;have c0:=J.cell 0;have c1:=J.cell 1;have c2:=J.cell 2;have c3:=J.cell 3;have c4:=J.cell 4;have c5:=J.cell 5;have c6:=J.cell 6;have c7:=J.cell 7;have c8:=J.cell 8;simp only[U4,ak,aL,aF] at c0 c1 c2 c3 c4 c5 c6 c7 c8;cases wide with
 |true=>
  go_wp2_with (refine Great.wpList_buildSliceTo rfl 79 Wk 3 _ rfl _ rfl _ rfl underlying79 #[.int .i64 0,.int .u16 32,.int .u32 hA,.int .i64 0,.int .i64 0,.int .i64 0,.int .u16 84,.int .u32 T,.int .i64 0,.int .i64 0,.int .i64 0,.int .u16 21,.int .u32 U,.int .i64 0,.int .i64 no] jK ?_)
  refine(Y0 (xs:=[ins 32 hA 0 0,ins 84 T 0 0,ins 21 U 0 no]) wx HH rfl rfl (by show _+3<=_;omega) hs).mono ?_;rintro e w2 ⟨rfl,v2,h2,f2⟩;have LR:=aT h2;have OH:=aT (HF.trans f2);have A:=aT (f2.blk J hNM nu jD);have hs2:=aO hs f2.2.1;clear h2 f2 c0 c1 c2 c3 c4 c5 c6 c7 c8;have d0:=A.cell 0;have d1:=A.cell 1;have d2:=A.cell 2;have d3:=A.cell 3;have d4:=A.cell 4;have d5:=A.cell 5;have d6:=A.cell 6;have d7:=A.cell 7;have d8:=A.cell 8;simp only[U4,ak,aL,aF] at d0 d1 d2 d3 d4 d5 d6 d7 d8
  go_wp2_with (refine Great.wpList_buildSliceTo rfl 79 Wk 3 _ rfl _ rfl _ rfl underlying79 #[.int .i64 0,.int .u16 32,.int .u32 D,.int .i64 0,.int .i64 0,.int .i64 0,.int .u16 84,.int .u32 C,.int .i64 0,.int .i64 0,.int .i64 0,.int .u16 21,.int .u32 I,.int .i64 yes,.int .i64 no] jK ?_)
  refine(Y0 (xs:=[ins 32 D 0 0,ins 84 C 0 0,ins 21 I yes no]) w2 LR rfl rfl (by show(g.l++_).length+3<=_;rw[ay];show _+3+_<=_;omega) hs2).mono ?_;rintro e w3 ⟨rfl,v3,h3,f3⟩;rw[GC] at h3;have Y:=aT h3;have Z:=aT (OH.trans f3);clear h3 f3;go_wp2_with fail;go_end0;exact⟨rfl,v3,Y,Z⟩
 |false=>
  go_wp2_with (refine Great.wpList_buildSliceTo rfl 79 Wk 3 _ rfl _ rfl _ rfl underlying79 #[.int .i64 0,.int .u16 32,.int .u32 D,.int .i64 0,.int .i64 0,.int .i64 0,.int .u16 84,.int .u32 C,.int .i64 0,.int .i64 0,.int .i64 0,.int .u16 21,.int .u32 I,.int .i64 yes,.int .i64 no] jK ?_)
  refine(Y0 (xs:=[ins 32 D 0 0,ins 84 C 0 0,ins 21 I yes no]) wx HH rfl rfl (by show _+3<=_;omega) hs).mono ?_;rintro e w3 ⟨rfl,v3,h3,f3⟩;have Y:=aT h3;have Z:=aT (HF.trans f3);clear h3 f3;go_wp2_with fail;go_end0;exact⟨rfl,v3,Y,Z⟩
theorem BU {v:Value}{g:G}(C hA A D I J:Nat)(wide:Bool)(yes no:Int)(w:World)(h:Zl LO M Bm w v g)(hl:g.l.length+4<=1000000)(Z:LO<=w.heap.size):
 Calls prog 310 #[.pointer (some ⟨M,0,none⟩),.agg (U4 C hA A D I J wide yes no)] w (VN LO M Bm g w (R2 hA C D A wide no yes)):=by
 have T:Hid (Z7 (w.alloc (.cells (U4 C hA A D I J wide no yes) 391)) w.heap.size 391 (U4 C hA A D I J wide no yes)):=Z7.new w _ _;have Y:=aT (h.al (.cells (U4 C hA A D I J wide no yes) 391));have OH:=aT (Yh.alloc (LO:=LO) (M:=M) (Bm:=Bm) (a:=w) (.cells (U4 C hA A D I J wide no yes) 391) Z);have hs:LO<=(w.alloc (.cells (U4 C hA A D I J wide no yes) 391)).heap.size:=by rw[ah];omega
 clear h;unfold VN;unfold U4 at*;go_enter func310,ntmps310;go_upto_region 2 with fail;generalize hwx:w.alloc (.cells #[.int .u32 C,.int .u32 hA,.int .u32 A,.int .u32 D,.int .u32 I,.int .u32 J,.bool wide,.int .i64 no,.int .i64 yes] 391)=wx at*;clear hwx;obtain⟨c0,c1,c2,c3,c4,c5,c6,c7,c8⟩:=T.q9;go_wp2_with fail;refine(Et C hA A D I J wide no yes wx Y jO hs).mono ?_;rintro e w3 ⟨rfl,v3,h3,f3⟩;have U:=aT h3;have Es:=aT (OH.trans f3);clear h3 f3;go_wp2_with fail;go_end0;exact⟨rfl,v3,U,Es⟩
theorem NA {v:Value}{g:G}(C hA A D I J:Nat)(wide:Bool)(yes no:Int)(w:World)(h:Zl LO M Bm w v g)(hl:g.l.length+5<=1000000)(Z:LO<=w.heap.size):
 Calls prog 311 #[.pointer (some ⟨M,0,none⟩),.agg (U4 C hA A D I J wide yes no)] w (VN LO M Bm g w (Vu hA C D A wide no yes)):=by
 have T:Hid (Z7 (w.alloc (.cells (U4 C hA A D I J wide no yes) 391)) w.heap.size 391 (U4 C hA A D I J wide no yes)):=Z7.new w _ _;have Y:=aT (h.al (.cells (U4 C hA A D I J wide no yes) 391));have OH:=aT (Yh.alloc (LO:=LO) (M:=M) (Bm:=Bm) (a:=w) (.cells (U4 C hA A D I J wide no yes) 391) Z);have hs:LO<=(w.alloc (.cells (U4 C hA A D I J wide no yes) 391)).heap.size:=by rw[ah];omega
 clear h;unfold VN;unfold U4 at*;go_enter func311,ntmps311;go_upto_region 2 with fail;generalize hwx:w.alloc (.cells #[.int .u32 C,.int .u32 hA,.int .u32 A,.int .u32 D,.int .u32 I,.int .u32 J,.bool wide,.int .i64 no,.int .i64 yes] 391)=wx at*;clear hwx;obtain⟨c0,c1,c2,c3,c4,c5,c6,c7,c8⟩:=T.q9;go_wp2_with fail;refine(IW C hA A D I J wide no yes wx Y jO hs).mono ?_;rintro e w3 ⟨rfl,v3,h3,f3⟩;have U:=aT h3;have Es:=aT (OH.trans f3);clear h3 f3;go_wp2_with fail;go_end0;exact⟨rfl,v3,U,Es⟩
end Go.Proofs.YtclgigmgbebhgaaGreatDoor
namespace Go.Proofs.YtclgigmgbebhgaaGreatDoor
open Tryz
open Go Go.Proofs Go.RowKit Go.Maps Go.WideMaps Go.ChangeMaps
structure Nz(w0:World)(b:Nat)(w:World)(S:List (Value×Value)):Prop where
 map:ZB w b S
 grown:w0.grownBy w (some b)
theorem TG(w:World)(row:Option Nat):w.grownBy w row:=⟨rfl,rfl,rfl,aR _,λ_ _ _=>rfl⟩
theorem Zj{a b c:World}{row:Option Nat}(h:a.grownBy b row)(k:b.grownBy c row):a.grownBy c row:=
 ⟨k.os.trans h.os,k.tape.trans h.tape,k.output.trans h.output,aO h.size k.size,λi hi A=>(k.block i (adf hi h.size) A).trans (h.block i hi A)⟩
theorem Nz.made(w:World):Nz w w.heap.size (w.alloc (.map #[] 0)) []:=⟨ZB.made w,aea w _ _⟩
section
variable {P:Program} {ops:Array Oper} {rest:List Oper} {o:Oper} {a:Act} {w:World} {Q:Exit->Act->World->Prop}
theorem YU(Y:o.guard=none)(C:o.dst=none)(t:TypeId)(m x y:Operand)(D:o.op=Op.insert t m x y)(k e:TypeId)(K:Keyed P k)(ht:P.underlying t=some (.map k e))(w0:World)(b:Nat)(S:List (Value×Value))(I:Nz w0 b w S)
 (hm:a.eval m=.map (some b)) (A v:Value) (hx:a.eval x=A) (hy:a.eval y=v) (hS:∀p∈S,∃l,keyOf P k p.1=some l) (hk:∃l,keyOf P k A=some l) (hn:∀p∈S,p.1≠A)
 (J:∀w',Nz w0 b w' (S++[(A,v)])->wpList P ops Q rest a w'):wpList P ops Q (o::rest) a w:=by
 refine wpList_plain Y λK' hK'=> ?_
 obtain⟨w',U,Z,T⟩:=Vq ht K I.map hS hk hn v;unfold Oper.wp;simp[execOp,D,hm,hx,hy,U,Result.andThen];refine hK' _ _ ?_;rw[C];exact(J w' ⟨Z,Zj I.grown T⟩)
end
def af6(q:IntKind)(p:Value×Value):Bool:=match p.1 with | .int q' n=>q' == q&&(Lit.int q n).wf|_=>false
def lV(k:Int)(p:Value×Value):Bool:=match p.1 with | .int _ n=> !(n == k)|_=>false
theorem RV{P:Program}{t:TypeId}{q:IntKind}(hk:P.underlying t=some (.int q)){S:List (Value×Value)}(h:S.all (af6 q)=true):∀p∈S,∃l,keyOf P t p.1=some l:=by
 intro p hp;have A:=apa.1 h p hp;obtain⟨x,y⟩:=p;unfold af6 at A;dsimp only at A ⊢;split at A
 ·rename_i C n;rw[agc] at A;obtain rfl:C=q:=by simpa using A.1
  exact⟨_,keyOf_int_mk hk A.2⟩
 ·cases A
theorem KZ{S:List (Value×Value)}{q:IntKind}{k:Int}(h:S.all (lV k)=true):∀p∈S,p.1≠.int q k:=by
 intro p hp e;have A:=apa.1 h p hp;obtain⟨x,y⟩:=p;dsimp only at e;subst e;simp[lV] at A
end Go.Proofs.YtclgigmgbebhgaaGreatDoor
namespace Go.Proofs.YtclgigmgbebhgaaGreatDoor
open Tryz
open Go Go.Proofs
def Yf:Nat:=18446744073709551616
def U8:Nat:=4294967296
def xw(o m v x:Nat):Bool:=if o=1 then x == v else if o=2 then x != v else if o=3 then decide (x<v) else if o=4 then decide (x<=v) else if o=5 then decide (v<x) else if o=6 then decide (v<=x) else(x &&& m) == v
inductive Yx where
 |asks (c:Z5)
 |always
 |never
def Ym(c:Z5)(v:Nat):Yx:=if v=0 then .never else if v=1 then .asks ⟨c.a,1,0,0⟩ else .asks ⟨c.a,3,0,v⟩
def XC(c:Z5)(v:Nat):Yx:=if v=0 then .always else if v=Yf-1 then .asks ⟨c.a,1,0,v⟩ else .asks ⟨c.a,6,0,v⟩
def WH(c:Z5):Yx:=if (c.v &&& c.m)≠c.v then .never else if c.m=0 then .always else if c.m=Yf-1 then .asks ⟨c.a,1,0,c.v⟩ else .asks c
def Xn(c:Z5):Yx:=
 if c.o=1\/c.o=2 then .asks c
 else if c.o=3 then Ym c c.v
 else if c.o=4 then(if c.v=Yf-1 then .always else Ym c (c.v+1))
 else if c.o=5 then(if c.v=Yf-1 then .never else XC c (c.v+1))
 else if c.o=6 then XC c c.v
 else WH c
def Z5.right(c:Z5):Prop:=c.a<=5/\(1<=c.o/\c.o<=7)/\(c.o=7\/c.m=0)/\c.m<Yf/\c.v<Yf
def Yx.holds:Yx->Nat->Bool
 | .asks c,x=>xw c.o c.m c.v x
 | .always,_=>true
 | .never,_=>false
def Z5.nf(c:Z5):Prop:=c.a<=5/\(c.o=1\/c.o=2\/c.o=3\/c.o=6\/c.o=7)/\(c.o=7\/c.m=0)/\c.m<Yf/\c.v<Yf
def Yx.nf:Yx->Nat->Prop
 | .asks c,a=>c.nf/\c.a=a
 | .always,_=>True
 | .never,_=>True
theorem zq{o m v x:Nat}(h:o=1\/o=2\/o=3\/o=6\/o=7):xw o m v x=opH o m v x:=by
 rcases h with rfl|rfl|rfl|rfl|rfl<;>rfl
theorem Er{c:Z5}(ha:c.a<=5){v:Nat}(hv:v<Yf):(Ym c v).nf c.a/\∀x,x<Yf->(Ym c v).holds x=decide (x<v):=by
 unfold Ym;split;·rename_i h;exact⟨trivial,λx _=>by rw[h];rfl⟩
 ·split;·rename_i h;refine⟨⟨⟨ha,.inl rfl,.inr rfl,by show(0:Nat)<Yf;decide,by show(0:Nat)<Yf;decide⟩,rfl⟩,λx _=> ?_⟩;show(x == 0)=decide (x<v);rw[h,aoc,ahd,aed];omega
  ·exact⟨⟨⟨ha,.inr (.inr (.inl rfl)),.inr rfl,by show(0:Nat)<Yf;decide,hv⟩,rfl⟩,λx _=>rfl⟩
theorem zo{c:Z5}(ha:c.a<=5){v:Nat}(hv:v<Yf):(XC c v).nf c.a/\∀x,x<Yf->(XC c v).holds x=decide (v<=x):=by
 unfold XC;split;·rename_i h;exact⟨trivial,λx _=>by rw[h];simp[Yx.holds]⟩
 ·split;·rename_i h;refine⟨⟨⟨ha,.inl rfl,.inr rfl,by show(0:Nat)<Yf;decide,hv⟩,rfl⟩,λx hx=> ?_⟩;show(x == v)=decide (v<=x);rw[aoc];simp;omega
  ·exact⟨⟨⟨ha,.inr (.inr (.inr (.inl rfl))),.inr rfl,by show(0:Nat)<Yf;decide,hv⟩,rfl⟩,λx _=>rfl⟩
theorem lU{x:Nat}(hx:x<Yf):x &&& (Yf-1)=x:=by
 have:=Nat.and_two_pow_sub_one_eq_mod x 64;rw[show(2:Nat) ^ 64=Yf from jD] at this;rw[this,alf hx]
theorem lT{c:Z5}(h:c.right)(ho:c.o=7):(WH c).nf c.a/\∀x,x<Yf->(WH c).holds x=((x &&& c.m) == c.v):=by
 obtain⟨ha,_,_,hm,hv⟩:=h;unfold WH;split
 ·rename_i hn;refine⟨trivial,λx _=> ?_⟩;show false=_
  symm
  rw[ae];intro e;apply hn;rw[<-e,Nat.and_assoc,Nat.and_self]
 ·rename_i hn;have hn:(c.v &&& c.m)=c.v:=Classical.not_not.1 hn;split;·rename_i C;refine⟨trivial,λx _=> ?_⟩;rw[C,Nat.and_zero] at hn ⊢;rw[<-hn];rfl
  ·split;·rename_i A;refine⟨⟨⟨ha,.inl rfl,.inr rfl,by show(0:Nat)<Yf;decide,hv⟩,rfl⟩,λx hx=> ?_⟩;show(x == c.v)=_;rw[A,lU hx]
   ·refine⟨⟨⟨ha,.inr (.inr (.inr (.inr ho))),.inl ho,hm,hv⟩,rfl⟩,λx _=> ?_⟩;show xw c.o c.m c.v x=_;rw[ho];rfl
theorem GA{c:Z5}(h:c.right):(Xn c).nf c.a/\∀x,x<Yf->(Xn c).holds x=xw c.o c.m c.v x:=by
 obtain⟨ha,ho,D,hm,hv⟩:=id h;unfold Xn;have A:c.o=1\/c.o=2\/c.o=3\/c.o=4\/c.o=5\/c.o=6\/c.o=7:=jO;rcases A with e|e|e|e|e|e|e
 ·rw[aG (.inl e)];exact⟨⟨⟨ha,.inl e,D,hm,hv⟩,rfl⟩,λx _=>rfl⟩
 ·rw[aG (.inr e)];exact⟨⟨⟨ha,.inr (.inl e),D,hm,hv⟩,rfl⟩,λx _=>rfl⟩
 ·rw[aN jO,aG e,e];exact Er ha hv
 ·rw[aN jO,aN jO,aG e,e];split;·rename_i C;refine⟨trivial,λx hx=> ?_⟩;show true=decide (x<=c.v);rw[C];simp;omega
  ·rename_i C;obtain⟨J,I⟩:=Er (c:=c) ha (v:=c.v+1) (by unfold Yf at*;omega);refine⟨J,λx hx=> ?_⟩;rw[I x hx];show decide (x<c.v+1)=decide (x<=c.v);rw[aoc];simp;omega
 ·rw[aN jO,aN jO,aN jO,aG e,e];split
  ·rename_i C;refine⟨trivial,λx hx=> ?_⟩;show false=decide (c.v<x);rw[C]
   symm
   rw[ase];omega
  ·rename_i C;obtain⟨J,I⟩:=zo (c:=c) ha (v:=c.v+1) (by unfold Yf at*;omega);refine⟨J,λx hx=> ?_⟩;rw[I x hx];rfl
 ·rw[aN jO,aN jO,aN jO,aN jO,aG e,e];exact zo ha hv
 ·rw[aN jO,aN jO,aN jO,aN jO,aN jO,e];exact lT h e
def Zk(c:Z5):Yx:=
 if U8-1<c.v then(if c.o=2\/c.o=3 then .always else .never)
 else if c.o≠7 then .asks c
 else if c.m%U8=0 then .always
 else .asks ⟨c.a,c.o,c.m%U8,c.v⟩
theorem Gz{x m:Nat}(hx:x<U8):x &&& m=x &&& (m%U8):=by
 have A:(x &&& m)%U8=x%U8 &&& m%U8:=by have:=Nat.and_mod_two_pow (a:=x) (b:=m) (n:=32);simpa [U8] using this
 have C:x &&& m<=x:=Nat.and_le_left;rw[alf hx,alf (aAb C hx)] at A;exact A
def Z5.kept(c:Z5):Prop:=c.o=7->(c.v &&& c.m)=c.v
theorem Ny{c:Z5}(h:c.nf)(hk:c.kept):(∀x,x<U8->(Zk c).holds x=xw c.o c.m c.v x)/\(match Zk c with | .asks n=>n.nf/\n.a=c.a/\n.v<U8/\n.m<U8|_=>True):=by
 obtain⟨ha,ho,T,hm,hv⟩:=id h;unfold Zk;split
 ·rename_i Z;split
  ·rename_i I;refine⟨λx hx=> ?_,trivial⟩;show true=xw c.o c.m c.v x;rcases I with e|e<;>rw[e]
   ·show true=(x != c.v)
    symm
    rw[aze];omega
   ·show true=decide (x<c.v)
    symm
    rw[aed];omega
  ·rename_i I;refine⟨λx hx=> ?_,trivial⟩;show false=xw c.o c.m c.v x;rcases ho with e|e|e|e|e
   ·rw[e];show false=(x == c.v)
    symm
    rw[ae];omega
   ·exact absurd (.inl e) I
   ·exact absurd (.inr e) I
   ·rw[e];show false=decide (c.v<=x)
    symm
    rw[ase];omega
   ·rw[e];show false=((x &&& c.m) == c.v)
    symm
    rw[ae];have:x &&& c.m<=x:=Nat.and_le_left;omega
 ·rename_i hs;split;·rename_i A;have J:c.m=0:=T.resolve_left A;exact⟨λx _=>rfl,h,rfl,by unfold U8 at*;omega,by rw[J];decide⟩
  ·rename_i A;have A:c.o=7:=Classical.not_not.1 A;split
   ·rename_i Y;refine⟨λx hx=> ?_,trivial⟩;show true=xw c.o c.m c.v x;have C:=hk A;have U:c.v<U8:=by unfold U8 at*;omega
    rw[Gz U,Y,Nat.and_zero] at C;rw[A];show true=((x &&& c.m) == c.v);rw[Gz hx,Y,Nat.and_zero,<-C];rfl
   ·have D:c.m%U8<U8:=awa _ jD;refine⟨λx hx=> ?_,⟨ha,ho,.inl A,Nat.lt_trans D jD,hv⟩,rfl,by show c.v<U8;unfold U8 at*;omega,D⟩;show xw c.o (c.m%U8) c.v x=_;rw[A];show((x &&& c.m%U8) == c.v)=((x &&& c.m) == c.v);rw[<-Gz hx]
end Go.Proofs.YtclgigmgbebhgaaGreatDoor
