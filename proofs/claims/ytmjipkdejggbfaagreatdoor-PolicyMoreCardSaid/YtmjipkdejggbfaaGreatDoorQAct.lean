/- act: its kinds' rows; whether an action may be; its code. -/
import Derived.Test.YtmjipkdejggbfaaGreatDoorProg
import Derived.WalkLawsBesides
import Derived.WalkSpells
import Derived.Lib.Hide
import Derived.Laws.EntriesVeiled
import Derived.Deep.RegionHeld3
import Derived.BigQuiet
import Derived.Deep.QuietTactic
import Derived.Deep.LoopGhost
import Derived.Shelf.SlicesQ.IndexFunc
import Derived.Shelf.Strconv.Itoa3
import Derived.Lib.ItoaLen
import Derived.Lib.SmallJoins
import Derived.Lib.QuietBelow
import Derived.Deep.Cut
import Derived.Lib.Atoi
import Derived.Lib.SlTrimSet
import Derived.Shelf.Strconv.Atoi
import Derived.Test.YtmjipkdejggbfaaGreatDoorQBase
namespace Go.Proofs.YtmjipkdejggbfaaGreatDoor.ActP
open Go Go.Proofs Go.RowKit

def actWord (k : Int) : ByteArray := if k = 1 then ⟨#[107, 105, 108, 108]⟩ else if k = 2 then ⟨#[107, 105, 108, 108, 95, 116, 104, 114, 101, 97, 100]⟩ else if k = 3 then ⟨#[116, 114, 97, 112]⟩ else if k = 4 then ⟨#[101, 114, 114, 110, 111]⟩ else if k = 5 then ⟨#[110, 111, 116, 105, 102, 121]⟩ else if k = 6 then ⟨#[116, 114, 97, 99, 101]⟩ else if k = 7 then ⟨#[108, 111, 103]⟩ else if k = 8 then ⟨#[97, 108, 108, 111, 119]⟩ else ⟨#[]⟩
def actCode (k : Int) : Int := if k = 1 then 2147483648 else if k = 2 then 0 else if k = 3 then 196608 else if k = 4 then 327680 else if k = 5 then 2143289344 else if k = 6 then 2146435072 else if k = 7 then 2147221504 else if k = 8 then 2147418112 else 0
/-- How great a kind's number may be; none: it has none. -/
def actMost (k : Int) : Option Int := if k = 4 then some 4095 else if k = 6 then some 65535 else none
def actGreatest (k : Int) : Int := if k = 4 then 4095 else if k = 6 then 65535 else 0
def actRight (k n : Int) : Bool := decide (1 ≤ k ∧ k ≤ 8 ∧ 0 ≤ n ∧ n ≤ actGreatest k)

/-- The value of a row's bound. -/
def MostAt (W : World) (m : Option Int) (v : Value) : Prop :=
  match m with
  | none => v = .nilFunc
  | some n => ∃ B, v = .func (.func 111) #[] #[.pointer (some ⟨B, 0, none⟩)] ∧ Blk W B 3 #[.int .i64 (n + 1)]

def actCells (s : Nat) : Array Value := #[.string ⟨#[107, 105, 108, 108]⟩, .int .u32 2147483648, .nilFunc, .string ⟨#[107, 105, 108, 108, 95, 116, 104, 114, 101, 97, 100]⟩, .int .u32 0, .nilFunc, .string ⟨#[116, 114, 97, 112]⟩, .int .u32 196608, .nilFunc, .string ⟨#[101, 114, 114, 110, 111]⟩, .int .u32 327680, .func (.func 111) #[] #[.pointer (some ⟨s, 0, none⟩)], .string ⟨#[110, 111, 116, 105, 102, 121]⟩, .int .u32 2143289344, .nilFunc, .string ⟨#[116, 114, 97, 99, 101]⟩, .int .u32 2146435072, .func (.func 111) #[] #[.pointer (some ⟨s + 1, 0, none⟩)], .string ⟨#[108, 111, 103]⟩, .int .u32 2147221504, .nilFunc, .string ⟨#[97, 108, 108, 111, 119]⟩, .int .u32 2147418112, .nilFunc]

theorem below_any (n : Int) (w : World) : Calls Tryz.prog 85 #[.int .i64 n] w fun e w' => e = .returned (.func (.func 111) #[] #[.pointer (some ⟨w.heap.size, 0, none⟩)]) ∧ w.alloc (.cells #[.int .i64 n] 3) = w' := by
  go_enter Tryz.func85, Tryz.ntmps85
  go_wp2
  go_ret
  exact ⟨rfl, rfl⟩

theorem below1_any (B : Nat) (n : Int) (w : World) (hB : Blk w B 3 #[.int .i64 (n + 1)]) (h0 : 0 ≤ n) (h1 : n ≤ 100000) :
    Calls Tryz.prog 111 #[.pointer (some ⟨B, 0, none⟩)] w fun e w' => e = .returned (.int .i64 n) ∧ w = w' := by
  have hc := hB.cell 0
  simp only [List.getElem?_toArray, List.getElem?_cons_zero] at hc
  go_enter Tryz.func111, Tryz.ntmps111
  go_wp2
  go_ret
  exact ⟨retI (by omega), rfl⟩

set_option maxRecDepth 100000 in
set_option maxHeartbeats 1000000 in
theorem rows_any (w : World) : Calls Tryz.prog 72 #[] w fun e w' => e = .returned (.slice (some ⟨w.heap.size + 1 + 1, 0, none⟩) 8 8) ∧
    ((w.alloc (.cells #[.int .i64 4096] 3)).alloc (.cells #[.int .i64 65536] 3)).alloc (.cells (actCells w.heap.size) 112) = w' := by
  go_enter Tryz.func72, Tryz.ntmps72
  go_wp2_with (go_at_call 85; refine (below_any _ _).mono ?_; rintro e w' ⟨rfl, rfl⟩)
  go_ret
  exact ⟨rfl, rfl⟩

/-- What act.of answers of a kind that there is. -/
def OfPost (k : Int) (w : World) (e : Ending) (w' : World) : Prop :=
  ∃ mv, e = .returned (.tuple #[.agg #[.string (actWord k), .int .u32 (actCode k), mv], .bool true]) ∧ MostAt w' (actMost k) mv ∧ Below w.heap.size w w'

set_option maxRecDepth 100000 in
set_option maxHeartbeats 1000000 in
theorem of_1 (w : World) : Calls Tryz.prog 53 #[.int .i64 1] w (OfPost 1 w) := by
  have a0 : (actCells (w.heap.size + 1))[0]? = some (.string ⟨#[107, 105, 108, 108]⟩) := rfl
  have a1 : (actCells (w.heap.size + 1))[1]? = some (.int .u32 2147483648) := rfl
  have a2 : (actCells (w.heap.size + 1))[2]? = some (.nilFunc) := rfl
  go_enter Tryz.func53, Tryz.ntmps53
  go_wp2_with (go_at_call 72; refine (rows_any _).mono ?_; rintro e w' ⟨rfl, rfl⟩)
  refine bodyPost_ret (v := .tuple #[.agg #[.string ⟨#[107, 105, 108, 108]⟩, .int .u32 2147483648, .nilFunc], .bool true]) (by simp [results, Tryz.results53, go_sem]) rfl ⟨.nilFunc, rfl, rfl, ((((Below.refl _ w).alloc (Nat.le_refl _) _).alloc (by simp) _).alloc (by simp; omega) _).alloc (by simp; omega) _⟩

set_option maxRecDepth 100000 in
set_option maxHeartbeats 1000000 in
theorem of_2 (w : World) : Calls Tryz.prog 53 #[.int .i64 2] w (OfPost 2 w) := by
  have a0 : (actCells (w.heap.size + 1))[3]? = some (.string ⟨#[107, 105, 108, 108, 95, 116, 104, 114, 101, 97, 100]⟩) := rfl
  have a1 : (actCells (w.heap.size + 1))[4]? = some (.int .u32 0) := rfl
  have a2 : (actCells (w.heap.size + 1))[5]? = some (.nilFunc) := rfl
  go_enter Tryz.func53, Tryz.ntmps53
  go_wp2_with (go_at_call 72; refine (rows_any _).mono ?_; rintro e w' ⟨rfl, rfl⟩)
  refine bodyPost_ret (v := .tuple #[.agg #[.string ⟨#[107, 105, 108, 108, 95, 116, 104, 114, 101, 97, 100]⟩, .int .u32 0, .nilFunc], .bool true]) (by simp [results, Tryz.results53, go_sem]) rfl ⟨.nilFunc, rfl, rfl, ((((Below.refl _ w).alloc (Nat.le_refl _) _).alloc (by simp) _).alloc (by simp; omega) _).alloc (by simp; omega) _⟩

set_option maxRecDepth 100000 in
set_option maxHeartbeats 1000000 in
theorem of_3 (w : World) : Calls Tryz.prog 53 #[.int .i64 3] w (OfPost 3 w) := by
  have a0 : (actCells (w.heap.size + 1))[6]? = some (.string ⟨#[116, 114, 97, 112]⟩) := rfl
  have a1 : (actCells (w.heap.size + 1))[7]? = some (.int .u32 196608) := rfl
  have a2 : (actCells (w.heap.size + 1))[8]? = some (.nilFunc) := rfl
  go_enter Tryz.func53, Tryz.ntmps53
  go_wp2_with (go_at_call 72; refine (rows_any _).mono ?_; rintro e w' ⟨rfl, rfl⟩)
  refine bodyPost_ret (v := .tuple #[.agg #[.string ⟨#[116, 114, 97, 112]⟩, .int .u32 196608, .nilFunc], .bool true]) (by simp [results, Tryz.results53, go_sem]) rfl ⟨.nilFunc, rfl, rfl, ((((Below.refl _ w).alloc (Nat.le_refl _) _).alloc (by simp) _).alloc (by simp; omega) _).alloc (by simp; omega) _⟩

set_option maxRecDepth 100000 in
set_option maxHeartbeats 1000000 in
theorem of_4 (w : World) : Calls Tryz.prog 53 #[.int .i64 4] w (OfPost 4 w) := by
  have a0 : (actCells (w.heap.size + 1))[9]? = some (.string ⟨#[101, 114, 114, 110, 111]⟩) := rfl
  have a1 : (actCells (w.heap.size + 1))[10]? = some (.int .u32 327680) := rfl
  have a2 : (actCells (w.heap.size + 1))[11]? = some (.func (.func 111) #[] #[.pointer (some ⟨w.heap.size + 1, 0, none⟩)]) := rfl
  go_enter Tryz.func53, Tryz.ntmps53
  go_wp2_with (go_at_call 72; refine (rows_any _).mono ?_; rintro e w' ⟨rfl, rfl⟩)
  refine bodyPost_ret (v := .tuple #[.agg #[.string ⟨#[101, 114, 114, 110, 111]⟩, .int .u32 327680, .func (.func 111) #[] #[.pointer (some ⟨w.heap.size + 1, 0, none⟩)]], .bool true]) (by simp [results, Tryz.results53, go_sem]) rfl ⟨.func (.func 111) #[] #[.pointer (some ⟨w.heap.size + 1, 0, none⟩)], rfl, ⟨w.heap.size + 1, rfl, by have := ((Blk.new (w.alloc (.cells #[.string ⟨#[101, 114, 114, 110, 111]⟩, .int .u32 327680, .func (.func 111) #[] #[.pointer (some ⟨w.heap.size + 1, 0, none⟩)]] 112)) 3 #[.int .i64 4096]).alloc (.cells #[.int .i64 65536] 3)).alloc (.cells (actCells (w.heap.size + 1)) 112); simp only [World.size_alloc] at this; exact this⟩, ((((Below.refl _ w).alloc (Nat.le_refl _) _).alloc (by simp) _).alloc (by simp; omega) _).alloc (by simp; omega) _⟩

set_option maxRecDepth 100000 in
set_option maxHeartbeats 1000000 in
theorem of_5 (w : World) : Calls Tryz.prog 53 #[.int .i64 5] w (OfPost 5 w) := by
  have a0 : (actCells (w.heap.size + 1))[12]? = some (.string ⟨#[110, 111, 116, 105, 102, 121]⟩) := rfl
  have a1 : (actCells (w.heap.size + 1))[13]? = some (.int .u32 2143289344) := rfl
  have a2 : (actCells (w.heap.size + 1))[14]? = some (.nilFunc) := rfl
  go_enter Tryz.func53, Tryz.ntmps53
  go_wp2_with (go_at_call 72; refine (rows_any _).mono ?_; rintro e w' ⟨rfl, rfl⟩)
  refine bodyPost_ret (v := .tuple #[.agg #[.string ⟨#[110, 111, 116, 105, 102, 121]⟩, .int .u32 2143289344, .nilFunc], .bool true]) (by simp [results, Tryz.results53, go_sem]) rfl ⟨.nilFunc, rfl, rfl, ((((Below.refl _ w).alloc (Nat.le_refl _) _).alloc (by simp) _).alloc (by simp; omega) _).alloc (by simp; omega) _⟩

set_option maxRecDepth 100000 in
set_option maxHeartbeats 1000000 in
theorem of_6 (w : World) : Calls Tryz.prog 53 #[.int .i64 6] w (OfPost 6 w) := by
  have a0 : (actCells (w.heap.size + 1))[15]? = some (.string ⟨#[116, 114, 97, 99, 101]⟩) := rfl
  have a1 : (actCells (w.heap.size + 1))[16]? = some (.int .u32 2146435072) := rfl
  have a2 : (actCells (w.heap.size + 1))[17]? = some (.func (.func 111) #[] #[.pointer (some ⟨w.heap.size + 1 + 1, 0, none⟩)]) := rfl
  go_enter Tryz.func53, Tryz.ntmps53
  go_wp2_with (go_at_call 72; refine (rows_any _).mono ?_; rintro e w' ⟨rfl, rfl⟩)
  refine bodyPost_ret (v := .tuple #[.agg #[.string ⟨#[116, 114, 97, 99, 101]⟩, .int .u32 2146435072, .func (.func 111) #[] #[.pointer (some ⟨w.heap.size + 1 + 1, 0, none⟩)]], .bool true]) (by simp [results, Tryz.results53, go_sem]) rfl ⟨.func (.func 111) #[] #[.pointer (some ⟨w.heap.size + 1 + 1, 0, none⟩)], rfl, ⟨w.heap.size + 1 + 1, rfl, by have := (Blk.new ((w.alloc (.cells #[.string ⟨#[116, 114, 97, 99, 101]⟩, .int .u32 2146435072, .func (.func 111) #[] #[.pointer (some ⟨w.heap.size + 1 + 1, 0, none⟩)]] 112)).alloc (.cells #[.int .i64 4096] 3)) 3 #[.int .i64 65536]).alloc (.cells (actCells (w.heap.size + 1)) 112); simp only [World.size_alloc] at this; exact this⟩, ((((Below.refl _ w).alloc (Nat.le_refl _) _).alloc (by simp) _).alloc (by simp; omega) _).alloc (by simp; omega) _⟩

set_option maxRecDepth 100000 in
set_option maxHeartbeats 1000000 in
theorem of_7 (w : World) : Calls Tryz.prog 53 #[.int .i64 7] w (OfPost 7 w) := by
  have a0 : (actCells (w.heap.size + 1))[18]? = some (.string ⟨#[108, 111, 103]⟩) := rfl
  have a1 : (actCells (w.heap.size + 1))[19]? = some (.int .u32 2147221504) := rfl
  have a2 : (actCells (w.heap.size + 1))[20]? = some (.nilFunc) := rfl
  go_enter Tryz.func53, Tryz.ntmps53
  go_wp2_with (go_at_call 72; refine (rows_any _).mono ?_; rintro e w' ⟨rfl, rfl⟩)
  refine bodyPost_ret (v := .tuple #[.agg #[.string ⟨#[108, 111, 103]⟩, .int .u32 2147221504, .nilFunc], .bool true]) (by simp [results, Tryz.results53, go_sem]) rfl ⟨.nilFunc, rfl, rfl, ((((Below.refl _ w).alloc (Nat.le_refl _) _).alloc (by simp) _).alloc (by simp; omega) _).alloc (by simp; omega) _⟩

set_option maxRecDepth 100000 in
set_option maxHeartbeats 1000000 in
theorem of_8 (w : World) : Calls Tryz.prog 53 #[.int .i64 8] w (OfPost 8 w) := by
  have a0 : (actCells (w.heap.size + 1))[21]? = some (.string ⟨#[97, 108, 108, 111, 119]⟩) := rfl
  have a1 : (actCells (w.heap.size + 1))[22]? = some (.int .u32 2147418112) := rfl
  have a2 : (actCells (w.heap.size + 1))[23]? = some (.nilFunc) := rfl
  go_enter Tryz.func53, Tryz.ntmps53
  go_wp2_with (go_at_call 72; refine (rows_any _).mono ?_; rintro e w' ⟨rfl, rfl⟩)
  refine bodyPost_ret (v := .tuple #[.agg #[.string ⟨#[97, 108, 108, 111, 119]⟩, .int .u32 2147418112, .nilFunc], .bool true]) (by simp [results, Tryz.results53, go_sem]) rfl ⟨.nilFunc, rfl, rfl, ((((Below.refl _ w).alloc (Nat.le_refl _) _).alloc (by simp) _).alloc (by simp; omega) _).alloc (by simp; omega) _⟩
end Go.Proofs.YtmjipkdejggbfaaGreatDoor.ActP
namespace Go.Proofs.YtmjipkdejggbfaaGreatDoor.ActP
open Go Go.Proofs Go.RowKit

theorem greatest_none (s : ByteArray) (c : Int) (w : World) : Calls Tryz.prog 56 #[.agg #[.string s, .int .u32 c, .nilFunc]] w fun e w' => e = .returned (.int .i64 0) ∧ Below w.heap.size w w' := by
  have hq := fun W => run_eql_nilFunc (P := Tryz.prog) W 89 Tryz.underlying89
  go_enter Tryz.func56, Tryz.ntmps56
  go_wp2
  go_ret
  exact ⟨rfl, (Below.refl _ w).alloc (Nat.le_refl _) _⟩

set_option maxHeartbeats 1000000 in
theorem greatest_some (s : ByteArray) (c n : Int) (B : Nat) (w : World) (hB : Blk w B 3 #[.int .i64 (n + 1)]) (h0 : 0 ≤ n) (h1 : n ≤ 100000) :
    Calls Tryz.prog 56 #[.agg #[.string s, .int .u32 c, .func (.func 111) #[] #[.pointer (some ⟨B, 0, none⟩)]]] w fun e w' => e = .returned (.int .i64 n) ∧ Below w.heap.size w w' := by
  have hB1 := hB.alloc (.cells #[.string s, .int .u32 c, .func (.func 111) #[] #[.pointer (some ⟨B, 0, none⟩)]] 112)
  have hc := below1_any B n _ hB1 h0 h1
  have Hc := Lib.hid hc
  clear hc hB1 hB
  have hq := fun W fn a c => run_eql_func_nil (P := Tryz.prog) W 89 fn a c Tryz.underlying89
  go_enter Tryz.func56, Tryz.ntmps56
  go_wp2_with (go_at_call 111; refine (Hc.out).mono ?_; rintro e w' ⟨rfl, rfl⟩)
  go_ret
  exact ⟨rfl, (Below.refl _ w).alloc (Nat.le_refl _) _⟩

theorem greatest_any (s : ByteArray) (c k : Int) (mv : Value) (w : World) (hm : MostAt w (actMost k) mv) :
    Calls Tryz.prog 56 #[.agg #[.string s, .int .u32 c, mv]] w fun e w' => e = .returned (.int .i64 (actGreatest k)) ∧ Below w.heap.size w w' := by
  unfold actMost at hm
  unfold actGreatest
  split at hm
  · rw [if_pos ‹_›]; obtain ⟨B, rfl, hB⟩ := hm; exact greatest_some s c 4095 B w hB (by omega) (by omega)
  · split at hm
    · rw [if_neg ‹_›, if_pos ‹_›]; obtain ⟨B, rfl, hB⟩ := hm; exact greatest_some s c 65535 B w hB (by omega) (by omega)
    · rw [if_neg ‹_›, if_neg ‹_›]; cases hm; exact greatest_none s c w

theorem of_any (k : Int) (h1 : 1 ≤ k) (h8 : k ≤ 8) (w : World) : Calls Tryz.prog 53 #[.int .i64 k] w (OfPost k w) := by
  have h : k = 1 ∨ k = 2 ∨ k = 3 ∨ k = 4 ∨ k = 5 ∨ k = 6 ∨ k = 7 ∨ k = 8 := by omega
  rcases h with rfl | rfl | rfl | rfl | rfl | rfl | rfl | rfl
  · exact of_1 w
  · exact of_2 w
  · exact of_3 w
  · exact of_4 w
  · exact of_5 w
  · exact of_6 w
  · exact of_7 w
  · exact of_8 w

set_option maxHeartbeats 1000000 in
theorem of_none (k : Int) (h : k < 1 ∨ 8 < k) (w : World) : Calls Tryz.prog 53 #[.int .i64 k] w fun e w' => e = .returned (.tuple #[.agg #[.string ⟨#[]⟩, .int .u32 0, .nilFunc], .bool false]) ∧ Below w.heap.size w w' := by
  rcases h with h | h
  all_goals
    go_enter Tryz.func53, Tryz.ntmps53
    go_wp2_with (go_at_call 72; refine (rows_any _).mono ?_; rintro e w' ⟨rfl, rfl⟩)
    refine bodyPost_ret (v := .tuple #[.agg #[.string ⟨#[]⟩, .int .u32 0, .nilFunc], .bool false]) (by simp [results, Tryz.results53, go_sem]) rfl ⟨rfl, ?_⟩
    exact ((((Below.refl _ w).alloc (Nat.le_refl _) _).alloc (by simp) _).alloc (by simp; omega) _).alloc (by simp; omega) _

theorem of_plain (k : Int) (h1 : 1 ≤ k) (h8 : k ≤ 8) (h4 : k ≠ 4) (h6 : k ≠ 6) (w : World) :
    Calls Tryz.prog 53 #[.int .i64 k] w fun e w' => e = .returned (.tuple #[.agg #[.string (actWord k), .int .u32 (actCode k), .nilFunc], .bool true]) ∧ Below w.heap.size w w' :=
  (of_any k h1 h8 w).mono fun e w' ⟨mv, he, hm, hb⟩ => by
    unfold actMost at hm; rw [if_neg h4, if_neg h6] at hm; cases hm; exact ⟨he, hb⟩
theorem of_num (k : Int) (hk : k = 4 ∨ k = 6) (w : World) :
    Calls Tryz.prog 53 #[.int .i64 k] w fun e w' => ∃ B, e = .returned (.tuple #[.agg #[.string (actWord k), .int .u32 (actCode k), .func (.func 111) #[] #[.pointer (some ⟨B, 0, none⟩)]], .bool true]) ∧ Blk w' B 3 #[.int .i64 (actGreatest k + 1)] ∧ Below w.heap.size w w' :=
  (of_any k (by omega) (by omega) w).mono fun e w' ⟨mv, he, hm, hb⟩ => by
    rcases hk with rfl | rfl
    · obtain ⟨B, rfl, hB⟩ := hm; exact ⟨B, he, hB, hb⟩
    · obtain ⟨B, rfl, hB⟩ := hm; exact ⟨B, he, hB, hb⟩

set_option maxRecDepth 100000 in
set_option maxHeartbeats 2000000 in
theorem right_none (k n : Int) (h : k < 1 ∨ 8 < k) (w : World) : Calls Tryz.prog 32 #[.agg #[.int .i64 k, .int .i64 n]] w fun e w' => e = .returned (.bool false) ∧ Below w.heap.size w w' := by
  go_enter Tryz.func32, Tryz.ntmps32
  go_wp2_with (go_at_call 53; refine (of_none k h _).mono ?_; rintro e w1 ⟨rfl, hb1⟩)
  go_quiet (fail)
  go_wp2
  go_ret
  have hB1 : Below w.heap.size w w1 := ((Below.refl _ w).alloc (Nat.le_refl _) _).trans (hb1.mono (by simp))
  exact ⟨rfl, below_drewN (hB1.alloc hB1.size _) _⟩

set_option maxRecDepth 100000 in
set_option maxHeartbeats 2000000 in
theorem right_plain_neg (k n : Int) (h1 : 1 ≤ k) (h8 : k ≤ 8) (h4 : k ≠ 4) (h6 : k ≠ 6) (hn : n < 0) (w : World) : Calls Tryz.prog 32 #[.agg #[.int .i64 k, .int .i64 n]] w fun e w' => e = .returned (.bool false) ∧ Below w.heap.size w w' := by
  have hd : decide (0 ≤ n) = false := by simpa using hn
  go_enter Tryz.func32, Tryz.ntmps32
  go_wp2_with (go_at_call 53; refine (of_plain k h1 h8 h4 h6 _).mono ?_; rintro e w1 ⟨rfl, hb1⟩)
  have hA1 := (((Blk.new w 23 #[.int .i64 k, .int .i64 n]).below hb1 (by simp)).alloc (.cells #[.string (actWord k), .int .u32 (actCode k), .nilFunc] 112)).cell 1
  simp only [List.getElem?_toArray, List.getElem?_cons_zero, List.getElem?_cons_succ] at hA1
  go_quiet (fail)
  go_wp2
  go_ret
  have hB1 : Below w.heap.size w w1 := ((Below.refl _ w).alloc (Nat.le_refl _) _).trans (hb1.mono (by simp))
  exact ⟨rfl, below_drewN (hB1.alloc hB1.size _) _⟩

set_option maxRecDepth 100000 in
set_option maxHeartbeats 2000000 in
theorem right_plain (k n : Int) (h1 : 1 ≤ k) (h8 : k ≤ 8) (h4 : k ≠ 4) (h6 : k ≠ 6) (hn : 0 ≤ n) (w : World) : Calls Tryz.prog 32 #[.agg #[.int .i64 k, .int .i64 n]] w fun e w' => e = .returned (.bool (decide (n ≤ 0))) ∧ Below w.heap.size w w' := by
  have hd : decide (0 ≤ n) = true := by simpa using hn
  go_enter Tryz.func32, Tryz.ntmps32
  go_wp2_with (go_at_call 53; refine (of_plain k h1 h8 h4 h6 _).mono ?_; rintro e w1 ⟨rfl, hb1⟩)
  have hsz := hb1.size
  simp at hsz
  have hA1 := (((Blk.new w 23 #[.int .i64 k, .int .i64 n]).below hb1 (by simp)).alloc (.cells #[.string (actWord k), .int .u32 (actCode k), .nilFunc] 112)).cell 1
  simp only [List.getElem?_toArray, List.getElem?_cons_zero, List.getElem?_cons_succ] at hA1
  go_region_held3 (fun w' => w'.cell? ⟨w.heap.size, 1, none⟩ = some (.int .i64 n) ∧ w'.cell? ⟨w1.heap.size, 0, none⟩ = some (.string (actWord k)) ∧ w'.cell? ⟨w1.heap.size, 1, none⟩ = some (.int .u32 (actCode k)) ∧ w'.cell? ⟨w1.heap.size, 2, none⟩ = some .nilFunc) (first | go_keep | exact ⟨cell_later hb2 (by first | assumption | simp), cell_later hb2 (by first | assumption | simp), cell_later hb2 (by first | assumption | simp), cell_later hb2 (by first | assumption | simp)⟩) (first | (go_at_call 56; refine (greatest_none _ _ _).mono ?_; rintro e w2 ⟨rfl, hb2⟩))
  go_wp2
  go_ret
  have hB1 : Below w.heap.size w w1 := ((Below.refl _ w).alloc (Nat.le_refl _) _).trans (hb1.mono (by simp))
  exact ⟨rfl, (hB1.alloc hB1.size _).drew.trans (hb2.mono (by simp; omega))⟩

set_option maxRecDepth 100000 in
set_option maxHeartbeats 2000000 in
theorem right_num_neg (k n : Int) (hk : k = 4 ∨ k = 6) (hn : n < 0) (w : World) : Calls Tryz.prog 32 #[.agg #[.int .i64 k, .int .i64 n]] w fun e w' => e = .returned (.bool false) ∧ Below w.heap.size w w' := by
  have hd : decide (0 ≤ n) = false := by simpa using hn
  have Hk := Lib.hid hk
  clear hk
  go_enter Tryz.func32, Tryz.ntmps32
  go_wp2_with (go_at_call 53; refine (of_num k Hk.out _).mono ?_; rintro e w1 ⟨B, rfl, hB, hb1⟩)
  have hA1 := (((Blk.new w 23 #[.int .i64 k, .int .i64 n]).below hb1 (by simp)).alloc (.cells #[.string (actWord k), .int .u32 (actCode k), .func (.func 111) #[] #[.pointer (some ⟨B, 0, none⟩)]] 112)).cell 1
  simp only [List.getElem?_toArray, List.getElem?_cons_zero, List.getElem?_cons_succ] at hA1
  go_quiet (fail)
  go_wp2
  go_ret
  have hB1 : Below w.heap.size w w1 := ((Below.refl _ w).alloc (Nat.le_refl _) _).trans (hb1.mono (by simp))
  exact ⟨rfl, below_drewN (hB1.alloc hB1.size _) _⟩

set_option maxRecDepth 100000 in
set_option maxHeartbeats 2000000 in
theorem right_num (k n : Int) (hk : k = 4 ∨ k = 6) (hn : 0 ≤ n) (w : World) : Calls Tryz.prog 32 #[.agg #[.int .i64 k, .int .i64 n]] w fun e w' => e = .returned (.bool (decide (n ≤ actGreatest k))) ∧ Below w.heap.size w w' := by
  have hd : decide (0 ≤ n) = true := by simpa using hn
  have g0 : 0 ≤ actGreatest k := by rcases hk with rfl | rfl <;> decide
  have g1 : actGreatest k ≤ 100000 := by rcases hk with rfl | rfl <;> decide
  generalize hg : actGreatest k = g at g0 g1
  have Hg := Lib.hid hg
  have Hk := Lib.hid hk
  clear hk hg
  go_enter Tryz.func32, Tryz.ntmps32
  go_wp2_with (go_at_call 53; refine (of_num k Hk.out _).mono ?_; rintro e w1 ⟨B, rfl, hB, hb1⟩)
  rw [Hg.out] at hB
  have hA1 := (((Blk.new w 23 #[.int .i64 k, .int .i64 n]).below hb1 (by simp)).alloc (.cells #[.string (actWord k), .int .u32 (actCode k), .func (.func 111) #[] #[.pointer (some ⟨B, 0, none⟩)]] 112)).cell 1
  simp only [List.getElem?_toArray, List.getElem?_cons_zero, List.getElem?_cons_succ] at hA1
  have hsz := hb1.size
  simp at hsz
  have hBB := hB.alloc (.cells #[.string (actWord k), .int .u32 (actCode k), .func (.func 111) #[] #[.pointer (some ⟨B, 0, none⟩)]] 112)
  have HB := Lib.hid hBB
  clear hBB hB
  go_region_held3 (fun w' => w'.cell? ⟨w.heap.size, 1, none⟩ = some (.int .i64 n) ∧ w'.cell? ⟨w1.heap.size, 0, none⟩ = some (.string (actWord k)) ∧ w'.cell? ⟨w1.heap.size, 1, none⟩ = some (.int .u32 (actCode k)) ∧ w'.cell? ⟨w1.heap.size, 2, none⟩ = some (.func (.func 111) #[] #[.pointer (some ⟨B, 0, none⟩)])) (first | go_keep | exact ⟨cell_later hb2 (by first | assumption | simp), cell_later hb2 (by first | assumption | simp), cell_later hb2 (by first | assumption | simp), cell_later hb2 (by first | assumption | simp)⟩) (first | (go_at_call 56; refine (greatest_some _ _ g B _ (by exact HB.out) g0 g1).mono ?_; rintro e w2 ⟨rfl, hb2⟩))
  go_wp2
  go_ret
  have hB1 : Below w.heap.size w w1 := ((Below.refl _ w).alloc (Nat.le_refl _) _).trans (hb1.mono (by simp))
  exact ⟨rfl, (hB1.alloc hB1.size _).drew.trans (hb2.mono (by simp; omega))⟩

theorem right_any (k n : Int) (w : World) : Calls Tryz.prog 32 #[.agg #[.int .i64 k, .int .i64 n]] w fun e w' => e = .returned (.bool (actRight k n)) ∧ Below w.heap.size w w' := by
  unfold actRight
  by_cases hk : 1 ≤ k ∧ k ≤ 8
  · obtain ⟨h1, h8⟩ := hk
    by_cases h46 : k = 4 ∨ k = 6
    · by_cases hn : 0 ≤ n
      · refine (right_num k n h46 hn w).mono fun e w' ⟨he, hb⟩ => ⟨he.trans (retB ?_), hb⟩
        simp [h1, h8, hn]
      · refine (right_num_neg k n h46 (by omega) w).mono fun e w' ⟨he, hb⟩ => ⟨he.trans (retB ?_), hb⟩
        simp [hn]
    · have e0 : actGreatest k = 0 := by unfold actGreatest; rw [if_neg (fun h => h46 (.inl h)), if_neg (fun h => h46 (.inr h))]
      by_cases hn : 0 ≤ n
      · refine (right_plain k n h1 h8 (fun h => h46 (.inl h)) (fun h => h46 (.inr h)) hn w).mono fun e w' ⟨he, hb⟩ => ⟨he.trans (retB ?_), hb⟩
        simp [h1, h8, hn, e0]
      · refine (right_plain_neg k n h1 h8 (fun h => h46 (.inl h)) (fun h => h46 (.inr h)) (by omega) w).mono fun e w' ⟨he, hb⟩ => ⟨he.trans (retB ?_), hb⟩
        simp [hn]
  · refine (right_none k n (by omega) w).mono fun e w' ⟨he, hb⟩ => ⟨he.trans (retB ?_), hb⟩
    simp; omega

theorem code_bounds (k n : Int) (hr : actRight k n = true) : 0 ≤ actCode k + n ∧ actCode k + n < 4294967296 ∧ 0 ≤ n ∧ n ≤ 65535 ∧ 1 ≤ k ∧ k ≤ 8 ∧ 0 ≤ actCode k ∧ actCode k ≤ 2147483648 := by
  unfold actRight at hr
  simp only [decide_eq_true_eq] at hr
  obtain ⟨h1, h8, h0, hg⟩ := hr
  have h : k = 1 ∨ k = 2 ∨ k = 3 ∨ k = 4 ∨ k = 5 ∨ k = 6 ∨ k = 7 ∨ k = 8 := by omega
  rcases h with rfl | rfl | rfl | rfl | rfl | rfl | rfl | rfl <;> simp [actGreatest, actCode] at * <;> omega

end Go.Proofs.YtmjipkdejggbfaaGreatDoor.ActP
namespace Go.Proofs.YtmjipkdejggbfaaGreatDoor.ActP
open Go Go.Proofs Go.RowKit

theorem most_any (k : Int) (w : World) : Calls Tryz.prog 49 #[.int .i64 k] w fun e w' => e = .returned (.int .i64 (actGreatest k)) ∧ w' = w := by
  by_cases h4 : k = 4
  · subst h4
    go_enter Tryz.func49, Tryz.ntmps49
    go_wp2
    go_ret
    exact ⟨rfl, rfl⟩
  · have h4' : (k == 4) = false := by simpa using h4
    by_cases h6 : k = 6
    · subst h6
      go_enter Tryz.func49, Tryz.ntmps49
      go_wp2
      go_ret
      exact ⟨rfl, rfl⟩
    · have h6' : (k == 6) = false := by simpa using h6
      have hg : actGreatest k = 0 := by unfold actGreatest; rw [if_neg h4, if_neg h6]
      rw [hg]
      go_enter Tryz.func49, Tryz.ntmps49
      go_wp2
      go_ret
      exact ⟨rfl, rfl⟩

set_option maxRecDepth 100000 in
set_option maxHeartbeats 1000000 in
theorem word_any (k : Int) (h0 : 1 ≤ k) (h8 : k ≤ 8) (w : World) : Calls Tryz.prog 47 #[.int .i64 k] w fun e w' => e = .returned (.string (actWord k)) ∧ Below w.heap.size w w' := by
  have h : k = 1 ∨ k = 2 ∨ k = 3 ∨ k = 4 ∨ k = 5 ∨ k = 6 ∨ k = 7 ∨ k = 8 := by omega
  rcases h with rfl | rfl | rfl | rfl | rfl | rfl | rfl | rfl
  all_goals
    go_enter Tryz.func47, Tryz.ntmps47
    go_wp2
    go_ret
    exact ⟨rfl, (Below.refl _ w).alloc (Nat.le_refl _) _⟩

end Go.Proofs.YtmjipkdejggbfaaGreatDoor.ActP
namespace Go.Proofs.YtmjipkdejggbfaaGreatDoor.ActP
open Go Go.Proofs Go.RowKit

/-- The rows lie in block g, their bounds in blocks s and s + 1. -/
def ActRows (W : World) (g : Nat) : Prop := ∃ s, Blk W g 112 (actCells s) ∧ Blk W s 3 #[.int .i64 4096] ∧ Blk W (s + 1) 3 #[.int .i64 65536]
theorem ActRows.lt {W : World} {g : Nat} (h : ActRows W g) : g < W.heap.size := by obtain ⟨s, h, _⟩ := h; exact h.lt
theorem ActRows.below {W W' : World} {g : Nat} (h : ActRows W g) (hb : Below W.heap.size W W') : ActRows W' g := by
  obtain ⟨s, h1, h2, h3⟩ := h
  exact ⟨s, h1.below hb h1.lt, h2.below hb h2.lt, h3.below hb h3.lt⟩
theorem ActRows.cell {W : World} {g : Nat} (h : ActRows W g) (j : Nat) (hj : j < 8) :
    ∃ mv, W.cell? ⟨g, j * 3, none⟩ = some (.string (actWord (j + 1))) ∧ W.cell? ⟨g, j * 3 + 1, none⟩ = some (.int .u32 (actCode (j + 1))) ∧ W.cell? ⟨g, j * 3 + 2, none⟩ = some mv ∧ MostAt W (actMost (j + 1)) mv := by
  obtain ⟨s, h1, h2, h3⟩ := h
  match j, hj with
  | 0, _ => exact ⟨_, (h1.cell 0).trans rfl, (h1.cell 1).trans rfl, (h1.cell 2).trans rfl, rfl⟩
  | 1, _ => exact ⟨_, (h1.cell 3).trans rfl, (h1.cell 4).trans rfl, (h1.cell 5).trans rfl, rfl⟩
  | 2, _ => exact ⟨_, (h1.cell 6).trans rfl, (h1.cell 7).trans rfl, (h1.cell 8).trans rfl, rfl⟩
  | 3, _ => exact ⟨_, (h1.cell 9).trans rfl, (h1.cell 10).trans rfl, (h1.cell 11).trans rfl, ⟨_, rfl, h2⟩⟩
  | 4, _ => exact ⟨_, (h1.cell 12).trans rfl, (h1.cell 13).trans rfl, (h1.cell 14).trans rfl, rfl⟩
  | 5, _ => exact ⟨_, (h1.cell 15).trans rfl, (h1.cell 16).trans rfl, (h1.cell 17).trans rfl, ⟨_, rfl, h3⟩⟩
  | 6, _ => exact ⟨_, (h1.cell 18).trans rfl, (h1.cell 19).trans rfl, (h1.cell 20).trans rfl, rfl⟩
  | 7, _ => exact ⟨_, (h1.cell 21).trans rfl, (h1.cell 22).trans rfl, (h1.cell 23).trans rfl, rfl⟩

/-- The first kind that meets p, less one; -1: none. -/
def firstN (p : Nat → Bool) : Int := if p 0 = true then 0 else if p 1 = true then 1 else if p 2 = true then 2 else if p 3 = true then 3 else if p 4 = true then 4 else if p 5 = true then 5 else if p 6 = true then 6 else if p 7 = true then 7 else -1
theorem firstN_hit (p : Nat → Bool) (k : Nat) (hk : k < 8) (h : ∀ j, j < k → p j = false) (hp : p k = true) : firstN p = k := by
  match k, hk, h, hp with
  | 0, _, h, hp => simp [firstN, hp]
  | 1, _, h, hp => simp [firstN, hp, h 0]
  | 2, _, h, hp => simp [firstN, hp, h 0, h 1]
  | 3, _, h, hp => simp [firstN, hp, h 0, h 1, h 2]
  | 4, _, h, hp => simp [firstN, hp, h 0, h 1, h 2, h 3]
  | 5, _, h, hp => simp [firstN, hp, h 0, h 1, h 2, h 3, h 4]
  | 6, _, h, hp => simp [firstN, hp, h 0, h 1, h 2, h 3, h 4, h 5]
  | 7, _, h, hp => simp [firstN, hp, h 0, h 1, h 2, h 3, h 4, h 5, h 6]
theorem firstN_miss (p : Nat → Bool) (h : ∀ j, j < 8 → p j = false) : firstN p = -1 := by
  simp [firstN, h 0, h 1, h 2, h 3, h 4, h 5, h 6, h 7]
theorem firstN_cases (p : Nat → Bool) : (firstN p = -1 ∧ ∀ j, j < 8 → p j = false) ∨ ∃ k : Nat, k < 8 ∧ firstN p = k ∧ p k = true ∧ ∀ j, j < k → p j = false := by
  by_cases h : ∀ j, j < 8 → p j = false
  · exact .inl ⟨firstN_miss p h, h⟩
  · right
    have go : ∀ n, n ≤ 8 → (∀ j, j < n → p j = false) ∨ ∃ k : Nat, k < 8 ∧ firstN p = k ∧ p k = true ∧ ∀ j, j < k → p j = false := by
      intro n
      induction n with
      | zero => exact fun _ => .inl (fun j hj => absurd hj (Nat.not_lt_zero _))
      | succ n ih =>
        intro hn
        rcases ih (by omega) with hl | hr
        · by_cases e : p n = true
          · exact .inr ⟨n, by omega, firstN_hit p n (by omega) hl e, e, hl⟩
          · refine .inl (fun j hj => ?_)
            by_cases e' : j = n
            · subst e'; simpa using e
            · exact hl j (by omega)
        · exact .inr hr
    exact (go 8 (Nat.le_refl _)).resolve_left h

set_option maxRecDepth 100000 in
set_option maxHeartbeats 1000000 in
theorem indexFunc_act (p : Nat → Bool) (f : Nat) (lb : Array Value) (eg : ∀ args w, (callFunc f args).run Tryz.prog w = .ok (.enter f args) w) (g : Nat) (w : World)
    (hp : ∀ (W : World) (j : Nat) (mv : Value), j < 8 → Below w.heap.size w W → MostAt W (actMost (j + 1)) mv → Calls Tryz.prog f (#[.agg #[.string (actWord (j + 1)), .int .u32 (actCode (j + 1)), mv]] ++ lb) W fun e w' => e = .returned (.bool (p j)) ∧ Below W.heap.size W w')
    (hr : ActRows w g) :
    Calls Tryz.prog 103 #[.slice (some ⟨g, 0, none⟩) 8 8, .func (.func f) #[] lb] w fun e w' => e = .returned (.int .i64 (firstN p)) ∧ Below w.heap.size w w' := by
  have Hr := Lib.hid hr
  have Hp := Lib.hid hp
  clear hr hp
  go_enter Tryz.func103, Tryz.ntmps103
  go_wp2
  go_loopg [5, 8] 8 (fun gg _ s8 wr => ∃ kk : Nat, kk ≤ 8 ∧ 8 - kk ≤ gg ∧ s8 = .int .i64 kk ∧ Hid (Below w.heap.size w wr) ∧ Hid (∀ j, j < kk → p j = false))
  case atStart => exact ⟨0, Nat.zero_le _, by omega, rfl, Below.refl _ w, fun j hj => absurd hj (Nat.not_lt_zero _)⟩
  case round =>
    obtain ⟨kk, hkk, hg, rfl, BW, A⟩ := hrel
    by_cases hlt : kk < 8
    · have hltz : (kk : Int) < 8 := by omega
      have hltz0 : (0 : Int) ≤ (kk : Int) := by omega
      obtain ⟨mv, c0, c1, c2, hm⟩ := (Hr.out.below BW.out).cell kk hlt
      have hcall := Hp.out wr kk mv hlt BW.out hm
      generalize actWord (kk + 1) = nm at c0 hcall
      generalize actCode (kk + 1) = cd at c1 hcall
      clear hm
      cases hq : p kk with
      | true =>
        rw [hq] at hcall
        have Hcall := Lib.hid hcall
        have Hq := Lib.hid hq
        clear hcall hq
        go_wp2_with fail
        refine Hcall.out.mono ?_
        rintro e w' ⟨rfl, hb'⟩
        go_wp2
        go_ret
        refine ⟨retI ?_, BW.out.trans (hb'.mono BW.out.size)⟩
        rw [firstN_hit p kk hlt A.out Hq.out]
      | false =>
        rw [hq] at hcall
        have Hcall := Lib.hid hcall
        have Hq := Lib.hid hq
        clear hcall hq
        go_wp2_with fail
        refine Hcall.out.mono ?_
        rintro e w' ⟨rfl, hb'⟩
        go_wp2
        go_roundg (8 - (kk + 1))
        case measure => omega
        case rel =>
          refine ⟨kk + 1, by omega, by omega, by go_num, BW.out.trans (hb'.mono BW.out.size), (show Hid _ from fun j hj => ?_)⟩
          by_cases e : j = kk
          · subst e
            exact Hq.out
          · exact A.out j (by omega)
    · obtain rfl : kk = 8 := by omega
      go_wp2
      go_ret
      refine ⟨retI ?_, BW.out⟩
      rw [firstN_miss p (fun j hj => A.out j hj)]

/-- Is c a code of kind k? -/
def fromP (c k : Int) : Prop := actCode k ≤ c ∧ c ≤ actCode k + actGreatest k
instance (c k : Int) : Decidable (fromP c k) := by unfold fromP; infer_instance
def fromB (c : Int) (j : Nat) : Bool := decide (fromP c (j + 1))
/-- The kind of a code; 0: none. -/
def fromK (c : Int) : Int := firstN (fromB c) + 1
/-- The number of a code's action. -/
def fromN (c : Int) : Int := if fromK c = 0 then 0 else c - actCode (fromK c)

theorem code_range (k : Int) (h1 : 1 ≤ k) (h8 : k ≤ 8) : 0 ≤ actCode k ∧ actCode k ≤ 2147483648 ∧ 0 ≤ actGreatest k ∧ actGreatest k ≤ 65535 := by
  have h : k = 1 ∨ k = 2 ∨ k = 3 ∨ k = 4 ∨ k = 5 ∨ k = 6 ∨ k = 7 ∨ k = 8 := by omega
  rcases h with rfl | rfl | rfl | rfl | rfl | rfl | rfl | rfl <;> decide

theorem cellLater {w wx : World} {a : Addr} {v : Value} (hb : Below w.heap.size w wx) (h : w.cell? a = some v) : wx.cell? a = some v := (hb.cell (World.block_lt_of_cell? _ _ h)).trans h

end Go.Proofs.YtmjipkdejggbfaaGreatDoor.ActP
namespace Go.Proofs.YtmjipkdejggbfaaGreatDoor.ActP
open Go Go.Proofs Go.RowKit

theorem rows_ok (w : World) : Calls Tryz.prog 72 #[] w fun e w' => ∃ g, e = .returned (.slice (some ⟨g, 0, none⟩) 8 8) ∧ ActRows w' g ∧ Below w.heap.size w w' := by
  refine (rows_any w).mono ?_
  rintro e w' ⟨rfl, rfl⟩
  refine ⟨_, rfl, ⟨w.heap.size, ?_, ?_, ?_⟩, (((Below.refl _ w).alloc (Nat.le_refl _) _).alloc (by simp) _).alloc (by simp; omega) _⟩
  · have := Blk.new ((w.alloc (.cells #[.int .i64 4096] 3)).alloc (.cells #[.int .i64 65536] 3)) 112 (actCells w.heap.size)
    simpa using this
  · exact ((Blk.new w 3 #[.int .i64 4096]).alloc _).alloc _
  · have := Blk.new (w.alloc (.cells #[.int .i64 4096] 3)) 3 #[.int .i64 65536]
    simp only [World.size_alloc] at this
    exact this.alloc _

/-- What act.From answers. -/
def fromV (c : Int) : Value := .tuple #[.agg #[.int .i64 (fromK c), .int .i64 (fromN c)], .int .i64 (if fromK c = 0 then 5 else 0)]

end Go.Proofs.YtmjipkdejggbfaaGreatDoor.ActP
namespace Go.Proofs.YtmjipkdejggbfaaGreatDoor.ActP
open Go Go.Proofs Go.RowKit

theorem fromK_at {c : Int} {k : Nat} (hk : k < 8) (h : ∀ j, j < k → fromB c j = false) (hp : fromB c k = true) : fromK c = k + 1 ∧ fromN c = c - actCode (k + 1) := by
  have e : fromK c = k + 1 := by unfold fromK; rw [firstN_hit _ k hk h hp]
  refine ⟨e, ?_⟩
  unfold fromN
  rw [e, if_neg (by omega)]
theorem fromK_none {c : Int} (h : ∀ j, j < 8 → fromB c j = false) : fromK c = 0 ∧ fromN c = 0 := by
  have e : fromK c = 0 := by unfold fromK; rw [firstN_miss _ h]; rfl
  refine ⟨e, ?_⟩
  unfold fromN
  rw [e, if_pos rfl]

theorem blkB {W W' : World} {B : Nat} {t : TypeId} {cs : Array Value} (h : Hid (Blk W B t cs)) (hb : Below W.heap.size W W') : Hid (Blk W' B t cs) := h.out.below hb h.out.lt
theorem belB {a W W' : World} (h : Hid (Below a.heap.size a W)) (hb : Below W.heap.size W W') : Hid (Below a.heap.size a W') := h.out.trans (hb.mono h.out.size)

end Go.Proofs.YtmjipkdejggbfaaGreatDoor.ActP
namespace Go.Proofs.YtmjipkdejggbfaaGreatDoor.ActP
open Go Go.Proofs Go.RowKit

def decS (n : Nat) : ByteArray := ⟨(Lib.decDigits n).toArray⟩
theorem dig_slice (r : Nat) (h : r < 10) : (⟨#[48, 49, 50, 51, 52, 53, 54, 55, 56, 57]⟩ : ByteArray).extract r (r + 1) = decS r := by
  match r, h with
  | 0, _ => decide +kernel
  | 1, _ => decide +kernel
  | 2, _ => decide +kernel
  | 3, _ => decide +kernel
  | 4, _ => decide +kernel
  | 5, _ => decide +kernel
  | 6, _ => decide +kernel
  | 7, _ => decide +kernel
  | 8, _ => decide +kernel
  | 9, _ => decide +kernel
theorem decS_size (n : Nat) (h : n < 18446744073709551616) : (decS n).size ≤ 20 := by
  have h1 := Lib.nDigits_le20 n h
  rw [← Lib.decDigits_length] at h1
  exact h1
theorem decS_step {n : Nat} (h : ¬ n < 10) : decS n = decS (n / 10) ++ decS (n % 10) := by
  unfold decS
  rw [Lib.decDigits, dif_neg h, Lib.decDigits_one (i := n % 10) (by omega)]
  apply ByteArray.ext
  simp

end Go.Proofs.YtmjipkdejggbfaaGreatDoor.ActP
namespace Go.Proofs.YtmjipkdejggbfaaGreatDoor.ActP
open Go Go.Proofs Go.RowKit

/-- The library's table lies as it should. -/
def Pow10 (W : World) : Prop := Lib.TabIs Tryz.prog W "internal/strconv.uint64pow10" .u64 Lib.pow10Tab
theorem Pow10.below {W W' : World} (h : Pow10 W) (hb : Below W.heap.size W W') : Pow10 W' := by
  cases hg : Tryz.prog.globalNamed "internal/strconv.uint64pow10" with
  | none => unfold Pow10 Lib.TabIs World.var? at h; rw [hg] at h; cases h
  | some g => exact Go.Joins.tab_stays hg h hb (Nat.le_refl _)
theorem bel_grow (w : World) (k : Nat) (os : Array Obj) : Below w.heap.size w (Go.Sort.grow (w.drewN k) os) := by
  refine ⟨rfl, rfl, rfl, by simp [Go.Sort.grow], fun b hb => ?_⟩
  show (w.heap ++ os)[b]? = _
  rw [Array.getElem?_append_left hb]
theorem itoa_any (n : Nat) (hn : n ≤ 1000000) (w : World) (hp : Pow10 w) : Calls Tryz.prog 54 #[.int .i64 (n : Int)] w fun e w' => e = .returned (.string (decS n)) ∧ Below w.heap.size w w' := by
  refine (Any.strconv_Itoa Tryz.laysm171 (n : Int) (by omega) (by omega) w hp).mono ?_
  rintro e w' ⟨rfl, k, os, rfl⟩
  refine ⟨?_, bel_grow w k os⟩
  have : Lib.itoa (n : Int) = Lib.decDigits n := by
    unfold Lib.itoa
    rw [if_neg (by omega)]
    rfl
  rw [this]
  rfl

/-- A right action's text. -/
def actText (k : Int) (n : Nat) : ByteArray := if k = 4 ∨ k = 6 then actWord k ++ ⟨#[32]⟩ ++ decS n else actWord k
theorem word_size (k : Int) : (actWord k).size ≤ 11 := by
  unfold actWord
  repeat' split
  all_goals decide

set_option maxRecDepth 100000 in
set_option maxHeartbeats 1000000 in
theorem text_wrong (k n : Int) (hr : actRight k n = false) (w : World) : Calls Tryz.prog 28 #[.agg #[.int .i64 k, .int .i64 n]] w fun e w' => e = .returned (.string ⟨#[]⟩) ∧ Below w.heap.size w w' := by
  have hc := right_any k n
  rw [hr] at hc
  have Hc := Lib.hid hc
  clear hc hr
  go_enter Tryz.func28, Tryz.ntmps28
  go_wp2_with (go_at_call 32; refine (Hc.out _).mono ?_; rintro e w1 ⟨rfl, hb1⟩)
  go_ret
  exact ⟨rfl, ((Below.refl _ w).alloc (Nat.le_refl _) _).trans (hb1.mono (by simp))⟩

set_option maxRecDepth 100000 in
set_option maxHeartbeats 1000000 in
theorem text_plain (k n : Int) (hr : actRight k n = true) (h4 : k ≠ 4) (h6 : k ≠ 6) (w : World) : Calls Tryz.prog 28 #[.agg #[.int .i64 k, .int .i64 n]] w fun e w' => e = .returned (.string (actWord k)) ∧ Below w.heap.size w w' := by
  have hc := right_any k n
  obtain ⟨_, _, _, _, k1, k8, _, _⟩ := code_bounds k n hr
  rw [hr] at hc
  have Hc := Lib.hid hc
  have hq := fun W => run_eql_nilFunc (P := Tryz.prog) W 89 Tryz.underlying89
  have hA := Blk.new w 23 #[.int .i64 k, .int .i64 n]
  have HA := Lib.hid hA
  have HB := Lib.hid ((Below.refl w.heap.size w).alloc (Nat.le_refl _) (.cells #[.int .i64 k, .int .i64 n] 23))
  clear hc hr hA
  go_enter Tryz.func28, Tryz.ntmps28
  go_wp2_with fail
  refine (Hc.out _).mono ?_
  rintro e w1 ⟨rfl, hb1⟩
  have HA1 := Lib.hid (HA.out.below hb1 HA.out.lt)
  have HB1 := Lib.hid (HB.out.trans (hb1.mono HB.out.size))
  have a0 := HA1.out.cell 0
  simp only [List.getElem?_toArray, List.getElem?_cons_zero] at a0
  clear hb1 HA HB Hc
  go_wp2_with fail
  refine (of_plain k k1 k8 h4 h6 _).mono ?_
  rintro e w2 ⟨rfl, hb2⟩
  have hR := Blk.new w2 112 #[.string (actWord k), .int .u32 (actCode k), .nilFunc]
  have r0 := hR.cell 0
  have r2 := hR.cell 2
  simp only [List.getElem?_toArray, List.getElem?_cons_zero, List.getElem?_cons_succ] at r0 r2
  have HB2 := Lib.hid ((HB1.out.trans (hb2.mono HB1.out.size)).alloc (Nat.le_trans HB1.out.size hb2.size) (.cells #[.string (actWord k), .int .u32 (actCode k), .nilFunc] 112))
  clear hR hb2 a0 HA1 HB1
  go_wp2
  go_ret
  exact ⟨rfl, HB2.out⟩

set_option maxRecDepth 100000 in
set_option maxHeartbeats 1000000 in
theorem text_num (k : Int) (n : Nat) (hr : actRight k n = true) (hk : k = 4 ∨ k = 6) (w : World) (hp : Pow10 w) : Calls Tryz.prog 28 #[.agg #[.int .i64 k, .int .i64 (n : Int)]] w fun e w' => e = .returned (.string (actWord k ++ ⟨#[32]⟩ ++ decS n)) ∧ Below w.heap.size w w' := by
  have hc := right_any k n
  obtain ⟨_, _, _, n1, k1, k8, _, _⟩ := code_bounds k n hr
  have hn : n ≤ 1000000 := by omega
  rw [hr] at hc
  have Hc := Lib.hid hc
  have hq := fun W fn a c => run_eql_func_nil (P := Tryz.prog) W 89 fn a c Tryz.underlying89
  have hA := Blk.new w 23 #[.int .i64 k, .int .i64 (n : Int)]
  have HA := Lib.hid hA
  have HB := Lib.hid ((Below.refl w.heap.size w).alloc (Nat.le_refl _) (.cells #[.int .i64 k, .int .i64 (n : Int)] 23))
  have HP := Lib.hid hp
  have HK := Lib.hid hk
  have hs1 : ¬ 9223372036854775807 < (actWord k).size + 1 := by have := word_size k; omega
  have hs2 : ¬ 9223372036854775807 < (actWord k).size + 1 + (decS n).size := by have := word_size k; have := decS_size n (by omega); omega
  clear hc hr hA hp hk
  go_enter Tryz.func28, Tryz.ntmps28
  go_wp2_with fail
  refine (Hc.out _).mono ?_
  rintro e w1 ⟨rfl, hb1⟩
  have HA1 := Lib.hid (HA.out.below hb1 HA.out.lt)
  have HB1 := Lib.hid (HB.out.trans (hb1.mono HB.out.size))
  have a0 := HA1.out.cell 0
  simp only [List.getElem?_toArray, List.getElem?_cons_zero] at a0
  clear hb1 HA HB Hc
  go_wp2_with fail
  refine (of_num k HK.out _).mono ?_
  rintro e w2 ⟨B, rfl, _, hb2⟩
  have hR := Blk.new w2 112 #[.string (actWord k), .int .u32 (actCode k), .func (.func 111) #[] #[.pointer (some ⟨B, 0, none⟩)]]
  have r0 := hR.cell 0
  have r2 := hR.cell 2
  have hA2 := (HA1.out.below hb2 HA1.out.lt).alloc (.cells #[.string (actWord k), .int .u32 (actCode k), .func (.func 111) #[] #[.pointer (some ⟨B, 0, none⟩)]] 112)
  have a1 := hA2.cell 1
  simp only [List.getElem?_toArray, List.getElem?_cons_zero, List.getElem?_cons_succ] at r0 r2 a1
  have HB2 := Lib.hid ((HB1.out.trans (hb2.mono HB1.out.size)).alloc (Nat.le_trans HB1.out.size hb2.size) (.cells #[.string (actWord k), .int .u32 (actCode k), .func (.func 111) #[] #[.pointer (some ⟨B, 0, none⟩)]] 112))
  have HP2 := Lib.hid (HP.out.below HB2.out)
  have HI := Lib.hid (fun W hW => itoa_any n hn W hW)
  clear hR hb2 a0 HA1 HB1 hA2
  go_upto_region 6 with fail
  generalize hsp : actWord k = wd at *
  go_region_held3 (fun w' => w'.cell? ⟨w2.heap.size, 0, none⟩ = some (.string wd) ∧ w'.cell? ⟨w.heap.size, 1, none⟩ = some (.int .i64 (n : Int))) (first | exact ⟨r0, a1⟩ | exact ⟨(hb3.cell (World.block_lt_of_cell? _ _ r0)).trans r0, (hb3.cell (World.block_lt_of_cell? _ _ a1)).trans a1⟩ | go_keep) (first | (go_at_call 54; refine (HI.out _ (HP2.out.below ((Below.refl _ _).drew))).mono ?_; rintro e w3 ⟨rfl, hb3⟩))
  go_wp2
  go_ret
  exact ⟨by rw [hsp]; rfl, HB2.out.drew.trans (hb3.mono HB2.out.size)⟩

theorem text_right (k : Int) (n : Nat) (hr : actRight k n = true) (w : World) (hp : Pow10 w) : Calls Tryz.prog 28 #[.agg #[.int .i64 k, .int .i64 (n : Int)]] w fun e w' => e = .returned (.string (actText k n)) ∧ Below w.heap.size w w' := by
  unfold actText
  by_cases hk : k = 4 ∨ k = 6
  · rw [if_pos hk]; exact text_num k n hr hk w hp
  · rw [if_neg hk]; exact text_plain k n hr (fun h => hk (.inl h)) (fun h => hk (.inr h)) w

theorem keep2 {w W wx : World} {p q : Addr} {u v : Value} (h : W.cell? p = some u ∧ W.cell? q = some v ∧ Below w.heap.size w W) (hb : Below W.heap.size W wx) : wx.cell? p = some u ∧ wx.cell? q = some v ∧ Below w.heap.size w wx :=
  ⟨(hb.cell (World.block_lt_of_cell? _ _ h.1)).trans h.1, (hb.cell (World.block_lt_of_cell? _ _ h.2.1)).trans h.2.1, h.2.2.trans (hb.mono h.2.2.size)⟩

end Go.Proofs.YtmjipkdejggbfaaGreatDoor.ActP
namespace Go.Proofs.YtmjipkdejggbfaaGreatDoor.ActP
open Go Go.Proofs Go.RowKit

/-- The number that plain digits spell; none: they are none. -/
def refNum (s : ByteArray) : Option Nat :=
  if s.size = 0 ∨ 9 < s.size ∨ (s.data.toList.head? = some 48 ∧ 1 < s.size) then none else Lib.decFrom 0 s.data.toList
theorem decFrom_bad : ∀ (l : List UInt8) (k acc : Nat) (b : UInt8), l[k]? = some b → Lib.digitVal b = none → Lib.decFrom acc l = none
  | [], k, _, b, h, _ => by simp at h
  | x :: r, 0, acc, b, h, hb => by
    simp only [List.getElem?_cons_zero, Option.some.injEq] at h
    subst h
    simp [Lib.decFrom, hb]
  | x :: r, k + 1, acc, b, h, hb => by
    simp only [List.getElem?_cons_succ] at h
    unfold Lib.decFrom
    split
    · exact decFrom_bad r k _ b h hb
    · rfl
def numV (s : ByteArray) : Value := .tuple #[.int .i64 (((refNum s).getD 0 : Nat) : Int), .bool (refNum s).isSome]
theorem byte_get (s : ByteArray) (j : Nat) (h : j < s.size) : s.data.toList[j]? = some (s[j]'h) := by
  have h' : j < s.data.toList.length := by rw [Array.length_toList]; exact h
  rw [List.getElem?_eq_getElem h']
  rfl

set_option maxRecDepth 100000 in
set_option maxHeartbeats 1000000 in
theorem refNumber_any (s : ByteArray) (w : World) : Calls Tryz.prog 48 #[.string s] w fun e w' => e = .returned (numV s) ∧ w = w' := by
  by_cases h0 : s.size = 0
  · have hv : numV s = .tuple #[.int .i64 0, .bool false] := by unfold numV refNum; rw [if_pos (.inl h0)]; rfl
    rw [hv]
    have hz : ((s.size : Int) == 0) = true := by simp [h0]
    clear hv
    go_enter Tryz.func48, Tryz.ntmps48
    go_wp2
    go_ret2
    exact ⟨rfl, rfl⟩
  have hz : ((s.size : Int) == 0) = false := by simpa using h0
  by_cases h9 : 9 < s.size
  · have hv : numV s = .tuple #[.int .i64 0, .bool false] := by unfold numV refNum; rw [if_pos (.inr (.inl h9))]; rfl
    rw [hv]
    have h9z : (9 : Int) < (s.size : Int) := by omega
    clear hv
    go_enter Tryz.func48, Tryz.ntmps48
    go_wp2
    go_ret2
    exact ⟨rfl, rfl⟩
  have h9z : ¬ (9 : Int) < (s.size : Int) := by omega
  have h00 : 0 < s.size := by omega
  have h00z : (0 : Int) < (s.size : Int) := by omega
  have hhd : s.data.toList.head? = some (s[0]'h00) := by rw [List.head?_eq_getElem?]; exact byte_get s 0 h00
  by_cases hc : (s[0]'h00) = 48 ∧ 1 < s.size
  · have hv : numV s = .tuple #[.int .i64 0, .bool false] := by unfold numV refNum; rw [if_pos (.inr (.inr ⟨by rw [hhd, hc.1], hc.2⟩))]; rfl
    rw [hv]
    have hb : ((((s[0]'h00).toNat : Nat) : Int) == 48) = true := by rw [hc.1]; rfl
    have h1z : (1 : Int) < (s.size : Int) := by omega
    clear hv hhd hc
    go_enter Tryz.func48, Tryz.ntmps48
    go_wp2
    go_ret2
    exact ⟨rfl, rfl⟩
  have hv : refNum s = Lib.decFrom 0 s.data.toList := by
    unfold refNum
    rw [if_neg]
    rintro (h | h | ⟨h, h'⟩)
    · exact h0 h
    · exact h9 h
    · rw [hhd] at h; exact hc ⟨Option.some.inj h, h'⟩
  have hloop : (((((s[0]'h00).toNat : Nat) : Int) == 48) = false ∧ ¬ (((s[0]'h00).toNat : Nat) : Int) = 48) ∨ (((((s[0]'h00).toNat : Nat) : Int) == 48) = true ∧ (((s[0]'h00).toNat : Nat) : Int) = 48 ∧ ¬ (1 : Int) < (s.size : Int)) := by
    by_cases hb : (s[0]'h00) = 48
    · right; exact ⟨by rw [hb]; rfl, by rw [hb]; rfl, fun h => hc ⟨hb, by omega⟩⟩
    · left
      have hn : ¬ (((s[0]'h00).toNat : Nat) : Int) = 48 := fun e => hb (UInt8.toNat_inj.1 (by simpa using Int.ofNat.inj e))
      exact ⟨by simpa using hn, hn⟩
  have HV := Lib.hid hv
  clear hv hhd hc h0
  rcases hloop with ⟨hb, hb2⟩ | ⟨hb, hb2, h1z⟩
  all_goals
    go_enter Tryz.func48, Tryz.ntmps48
    go_upto_region 5 with fail
    clear hb hb2
    go_loopg [4, 5] s.size (fun gg s4 s5 wr => w = wr ∧ ∃ kk n : Nat, kk ≤ s.size ∧ s.size - kk ≤ gg ∧ s5 = .int .i64 kk ∧ s4 = .int .i64 n ∧ n < 10 ^ kk ∧ Hid (Lib.decFrom 0 (s.data.toList.take kk) = some n))
    case atStart => exact ⟨rfl, 0, 0, Nat.zero_le _, by omega, rfl, rfl, by decide, rfl⟩
    case round =>
      obtain ⟨rfl, kk, n, hkk, hg, rfl, rfl, hpow, A⟩ := hrel
      have hp9 : (10 : Nat) ^ kk ≤ 10 ^ 9 := Nat.pow_le_pow_right (by decide) (by omega)
      have hn9 : n < 1000000000 := Nat.lt_of_lt_of_le hpow hp9
      by_cases hlt : kk < s.size
      · have hltz : (kk : Int) < (s.size : Int) := by omega
        have hltz0 : (0 : Int) ≤ (kk : Int) := by omega
        have hget := byte_get s kk hlt
        have hcb := (s[kk]'hlt).toNat_lt
        by_cases d0 : 48 ≤ (s[kk]'hlt).toNat
        · have d0z : ¬ (((s[kk]'hlt).toNat : Nat) : Int) < 48 := by omega
          by_cases d1 : (s[kk]'hlt).toNat ≤ 57
          · have d1z : ¬ (57 : Int) < (((s[kk]'hlt).toNat : Nat) : Int) := by omega
            have hdv : Lib.digitVal (s[kk]'hlt) = some ((s[kk]'hlt).toNat - 48) := by unfold Lib.digitVal; rw [if_pos ⟨d0, d1⟩]
            have hst := Lib.decFrom_take _ kk 0 n _ _ A.out hget hdv
            have HST := Lib.hid hst
            have w1 : IntKind.i64.wrap (10 * (n : Int)) = 10 * (n : Int) := IntWalk.i64_in _ (by omega)
            have w2 : IntKind.u8.wrap ((((s[kk]'hlt).toNat : Nat) : Int) - 48) = (((s[kk]'hlt).toNat : Nat) : Int) - 48 := by show (_ : Int) % 256 = _; omega
            have w3 : IntKind.i64.wrap ((((s[kk]'hlt).toNat : Nat) : Int) - 48) = (((s[kk]'hlt).toNat : Nat) : Int) - 48 := IntWalk.i64_in _ (by omega)
            have w4 : IntKind.i64.wrap (10 * (n : Int) + ((((s[kk]'hlt).toNat : Nat) : Int) - 48)) = 10 * (n : Int) + ((((s[kk]'hlt).toNat : Nat) : Int) - 48) := IntWalk.i64_in _ (by omega)
            clear hst hget hdv A
            go_wp2
            go_roundg (s.size - (kk + 1))
            case measure => omega
            case rel =>
              refine ⟨rfl, kk + 1, n * 10 + ((s[kk]'hlt).toNat - 48), by omega, by omega, by go_num, ?_, ?_, HST⟩
              · congr 1; push_cast; omega
              · rw [Nat.pow_succ]; omega
          · have d1z : (57 : Int) < (((s[kk]'hlt).toNat : Nat) : Int) := by omega
            have hbad := decFrom_bad s.data.toList kk 0 _ hget (by unfold Lib.digitVal; rw [if_neg (fun h => d1 h.2)])
            have HB : Hid (numV s = .tuple #[.int .i64 0, .bool false]) := by show numV s = _; unfold numV; rw [HV.out, hbad]; rfl
            clear hbad hget A
            go_wp2
            go_ret2
            exact ⟨congrArg Ending.returned HB.out.symm, rfl⟩
        · have d0z : (((s[kk]'hlt).toNat : Nat) : Int) < 48 := by omega
          have hbad := decFrom_bad s.data.toList kk 0 _ hget (by unfold Lib.digitVal; rw [if_neg (fun h => d0 h.1)])
          have HB : Hid (numV s = .tuple #[.int .i64 0, .bool false]) := by show numV s = _; unfold numV; rw [HV.out, hbad]; rfl
          clear hbad hget A
          go_wp2
          go_ret2
          exact ⟨congrArg Ending.returned HB.out.symm, rfl⟩
      · have hltz : ¬ (kk : Int) < (s.size : Int) := by omega
        have hall : Lib.decFrom 0 s.data.toList = some n := by
          have := A.out
          rw [List.take_of_length_le (by rw [Array.length_toList]; show s.size ≤ kk; omega)] at this
          exact this
        have HB : Hid (numV s = .tuple #[.int .i64 n, .bool true]) := by show numV s = _; unfold numV; rw [HV.out, hall]; rfl
        clear hall A
        go_wp2
        go_ret2
        exact ⟨congrArg Ending.returned HB.out.symm, rfl⟩
end Go.Proofs.YtmjipkdejggbfaaGreatDoor.ActP
namespace Go.Proofs.YtmjipkdejggbfaaGreatDoor.ActP
open Go Go.Proofs Go.RowKit Go.Shelf Go.Lib

theorem dropWhile_nil {p : UInt8 → Bool} : ∀ l : List UInt8, l.dropWhile p = [] ↔ ∀ b ∈ l, p b = true
  | [] => by simp
  | x :: r => by
    have ih := dropWhile_nil (p := p) r
    by_cases h : p x = true
    · simp [h, ih]
    · simp [h]
theorem dropWhile_sat {p : UInt8 → Bool} : ∀ l : List UInt8, (∀ b ∈ l.dropWhile p, p b = true) → ∀ b ∈ l, p b = true
  | [], _ => by simp
  | x :: r, h => by
    by_cases hx : p x = true
    · have ih := dropWhile_sat (p := p) r (by simpa [List.dropWhile_cons, hx] using h)
      intro b hb
      rcases List.mem_cons.1 hb with rfl | hb
      · exact hx
      · exact ih b hb
    · exact absurd (h x (by simp [hx])) hx
theorem trimS_nil (l cs : List UInt8) : trimS l cs = [] ↔ ∀ b ∈ l, cs.contains b = true := by
  unfold trimS trimLeftS
  rw [dropWhile_nil]
  constructor
  · intro h
    have h2 : ∀ b ∈ l.reverse.dropWhile (cs.contains ·), cs.contains b = true := fun b hb => h b (by unfold trimRightS; simpa using hb)
    have := dropWhile_sat l.reverse h2
    intro b hb
    exact this b (by simpa using hb)
  · intro h b hb
    unfold trimRightS at hb
    have := (List.dropWhile_sublist (l := l.reverse) (cs.contains ·)).subset (by simpa using hb : b ∈ _)
    exact h b (by simpa using this)


def digS : List UInt8 := [48, 49, 50, 51, 52, 53, 54, 55, 56, 57]
theorem dig_all : ∀ n, n < 256 → digS.contains (UInt8.ofNat n) = decide (48 ≤ n ∧ n ≤ 57) := by decide +kernel
theorem dig_ok (b : UInt8) : digS.contains b = true ↔ (digitVal b).isSome = true := by
  have h := dig_all b.toNat b.toNat_lt
  rw [UInt8.ofNat_toNat] at h
  rw [h]
  unfold digitVal
  split <;> simp [*]
theorem decFrom_all : ∀ (l : List UInt8) (acc : Nat), (∀ b ∈ l, digS.contains b = true) → (decFrom acc l).isSome = true
  | [], _, _ => rfl
  | b :: r, acc, h => by
    have hb := (dig_ok b).1 (h b (by simp))
    obtain ⟨d, hd⟩ := Option.isSome_iff_exists.1 hb
    unfold decFrom
    rw [hd]
    exact decFrom_all r _ (fun c hc => h c (by simp [hc]))
theorem decFrom_some {l : List UInt8} {acc : Nat} (h : (decFrom acc l).isSome = true) : ∀ b ∈ l, digS.contains b = true := by
  intro b hb
  obtain ⟨k, hk, rfl⟩ := List.mem_iff_getElem.1 hb
  rw [dig_ok]
  cases hv : digitVal l[k] with
  | some _ => rfl
  | none =>
    rw [decFrom_bad l k acc _ (List.getElem?_eq_getElem hk) hv] at h
    cases h

set_option maxRecDepth 100000 in
set_option maxHeartbeats 1000000 in
theorem plain_any (s : ByteArray) (hs : s.size ≤ 9223372036854775807) (w : World) : Calls Tryz.prog 105 #[.string s] w fun e w' => e = .returned (.bool (refNum s).isSome) ∧ Below w.heap.size w w' := by
  by_cases h0 : s.size = 0
  · have hv : (refNum s).isSome = false := by unfold refNum; rw [if_pos (.inl h0)]; rfl
    rw [hv]
    have he : s.toList = [] := by rw [ByteArray.toList_eq]; exact List.eq_nil_of_length_eq_zero (by rw [Array.length_toList]; exact h0)
    have hb : s.toList.isEmpty = true := by rw [he]; rfl
    clear hv he
    go_enter Tryz.func105, Tryz.ntmps105
    go_wp2
    go_ret
    exact ⟨rfl, Below.refl _ w⟩
  have hne : ¬ s.toList = [] := by
    rw [ByteArray.toList_eq]
    intro h
    have := congrArg List.length h
    rw [Array.length_toList] at this
    exact h0 this
  have hb : s.toList.isEmpty = false := by simpa using hne
  by_cases h9 : 9 < s.size
  · have hv : (refNum s).isSome = false := by unfold refNum; rw [if_pos (.inr (.inl h9))]; rfl
    rw [hv]
    have h9z : decide ((s.size : Int) ≤ 9) = false := decide_eq_false (by omega)
    clear hv hne
    go_enter Tryz.func105, Tryz.ntmps105
    go_wp2
    go_ret
    exact ⟨rfl, Below.refl _ w⟩
  have h9z : decide ((s.size : Int) ≤ 9) = true := decide_eq_true (by omega)
  have h00 : 0 < s.size := by omega
  have h00z : (0 : Int) < (s.size : Int) := by omega
  have hhd : s.data.toList.head? = some (s[0]'h00) := by rw [List.head?_eq_getElem?]; exact byte_get s 0 h00
  have hcon := fun W => Any.strings_Trim_laid Tryz.lays160 (by kernel_rfl) s ⟨digS.toArray⟩ W hs (by decide) (ascii_of_all (by decide))
  by_cases hall : ∀ b ∈ s.data.toList, digS.contains b = true
  case neg =>
    have hne2 : ¬ trimS s.data.toList digS = [] := fun h => hall ((trimS_nil _ _).1 h)
    have hcon' : ∀ W, ∃ r : ByteArray, r.toList.isEmpty = false ∧ Calls Tryz.prog 118 #[.string s, .string ⟨digS.toArray⟩] W fun e w' => e = .returned (.string r) ∧ Below W.heap.size W w' := fun W => ⟨_, by rw [ByteArray.toList_eq]; simpa using hne2, hcon W⟩
    obtain ⟨r, hr, hc⟩ := hcon' w
    have hr2 : ¬ r.toList = [] := by simpa using hr
    have Hc := Lib.hid hc
    have hv : (refNum s).isSome = false := by
      cases hq : (refNum s).isSome with
      | false => rfl
      | true =>
        unfold refNum at hq
        split at hq
        · cases hq
        · exact absurd (decFrom_some hq) hall
    rw [hv]
    clear hcon hcon' hc hne2 hall hv hhd hne
    go_enter Tryz.func105, Tryz.ntmps105
    go_wp2_with (go_at_call 118; refine Hc.out.mono ?_; rintro e w1 ⟨rfl, hb1⟩)
    go_ret
    exact ⟨rfl, hb1⟩
  have hc : Calls Tryz.prog 118 #[.string s, .string ⟨digS.toArray⟩] w fun e w' => e = .returned (.string ⟨#[]⟩) ∧ Below w.heap.size w w' := by
    have := hcon w
    rw [show (⟨digS.toArray⟩ : ByteArray).data.toList = digS from rfl, (trimS_nil _ _).2 hall] at this
    exact this
  have Hc := Lib.hid hc
  by_cases hz : s.toList = [48]
  · have hv : (refNum s).isSome = true := by
      unfold refNum
      rw [if_neg]
      · exact decFrom_all _ _ hall
      · rintro (h | h | ⟨_, h⟩)
        · exact h0 h
        · exact h9 h
        · have e := congrArg List.length hz
          rw [ByteArray.toList_eq, Array.length_toList] at e
          have e2 : s.size = 1 := e
          omega
    rw [hv]
    have hzb : (s.toList == [48]) = true := by simpa using hz
    clear hcon hc hall hv hhd hne hz
    go_enter Tryz.func105, Tryz.ntmps105
    go_wp2_with (go_at_call 118; refine Hc.out.mono ?_; rintro e w1 ⟨rfl, hb1⟩)
    go_ret
    exact ⟨rfl, hb1⟩
  · have hzb : (s.toList == [48]) = false := by simpa using hz
    have hone : s.size = 1 → ¬ (s[0]'h00) = 48 := by
      intro h1 h2
      apply hz
      rw [ByteArray.toList_eq]
      have hl : s.data.toList.length = 1 := by rw [Array.length_toList]; exact h1
      match hd : s.data.toList, hl with
      | [x], _ =>
        rw [hd] at hhd
        simp only [List.head?_cons, Option.some.injEq] at hhd
        rw [hhd, h2]
    by_cases h48 : (s[0]'h00) = 48
    · have hv : (refNum s).isSome = false := by
        unfold refNum
        rw [if_pos (.inr (.inr ⟨by rw [hhd, h48], by have := hone; by_cases e : s.size = 1; exact absurd h48 (hone e); omega⟩))]
        rfl
      rw [hv]
      have hq : ((((s[0]'h00).toNat : Nat) : Int) != 48) = false := by rw [h48]; rfl
      have hq2 : (((s[0]'h00).toNat : Nat) : Int) = 48 := by rw [h48]; rfl
      clear hcon hc hall hv hhd hne hz hone h48
      go_enter Tryz.func105, Tryz.ntmps105
      go_wp2_with (go_at_call 118; refine Hc.out.mono ?_; rintro e w1 ⟨rfl, hb1⟩)
      go_ret
      exact ⟨rfl, hb1⟩
    · have hv : (refNum s).isSome = true := by
        unfold refNum
        rw [if_neg]
        · exact decFrom_all _ _ hall
        · rintro (h | h | ⟨h, _⟩)
          · exact h0 h
          · exact h9 h
          · rw [hhd] at h; exact h48 (Option.some.inj h)
      rw [hv]
      have hq2 : ¬ (((s[0]'h00).toNat : Nat) : Int) = 48 := fun e => h48 (UInt8.toNat_inj.1 (by simpa using Int.ofNat.inj e))
      have hq : ((((s[0]'h00).toNat : Nat) : Int) != 48) = true := by simpa using hq2
      clear hcon hc hall hv hhd hne hz hone h48
      go_enter Tryz.func105, Tryz.ntmps105
      go_wp2_with (go_at_call 118; refine Hc.out.mono ?_; rintro e w1 ⟨rfl, hb1⟩)
      go_ret
      exact ⟨rfl, hb1⟩
end Go.Proofs.YtmjipkdejggbfaaGreatDoor.ActP
namespace Go.Proofs.YtmjipkdejggbfaaGreatDoor.ActP
open Go Go.Proofs Go.RowKit

theorem atoi_ref {s : ByteArray} {n : Nat} (h : refNum s = some n) : Lib.atoi s.data.toList = some (n : Int) ∧ s.size ≤ 9 := by
  unfold refNum at h
  split at h
  · cases h
  · rename_i hc
    have h0 : ¬ s.size = 0 := fun e => hc (.inl e)
    have h9 : ¬ 9 < s.size := fun e => hc (.inr (.inl e))
    refine ⟨?_, by omega⟩
    cases hd : s.data.toList with
    | nil =>
      have : s.data.toList.length = 0 := by rw [hd]; rfl
      rw [Array.length_toList] at this
      exact absurd this h0
    | cons b r =>
      rw [hd] at h
      have hb : (Lib.digitVal b).isSome = true := (dig_ok b).1 (decFrom_some (by rw [h]; rfl) b (by simp))
      have hr : 48 ≤ b.toNat := by
        unfold Lib.digitVal at hb
        split at hb
        · rename_i h'; exact h'.1
        · cases hb
      have n1 : (b == 45) = false := by
        rw [beq_eq_false_iff_ne]; intro e; rw [e] at hr; exact absurd hr (by decide)
      have n2 : (b == 43) = false := by
        rw [beq_eq_false_iff_ne]; intro e; rw [e] at hr; exact absurd hr (by decide)
      unfold Lib.atoi Lib.decNat
      simp only [n1, n2, List.isEmpty_cons]
      simp [h]
theorem atoi_any (s : ByteArray) (n : Nat) (h : refNum s = some n) (w : World) : Calls Tryz.prog 106 #[.string s] w fun e w' => e = .returned (.tuple #[.int .i64 (n : Int), .nilIface]) ∧ Below w.heap.size w w' := by
  obtain ⟨h1, h2⟩ := atoi_ref h
  refine (Any.strconv_Atoi Tryz.lays172 s (n : Int) (by omega) h1 w).mono ?_
  rintro e w' ⟨rfl, t, rfl⟩
  exact ⟨rfl, Go.Joins.below_bytesWorld _ w _ t (Nat.le_refl _)⟩

/-- Does word s name the kind behind number j? -/
def wordB (s : ByteArray) (j : Nat) : Bool := (actWord (j + 1)).toList == s.toList
set_option maxRecDepth 100000 in
set_option maxHeartbeats 1000000 in
theorem read1_any (s : ByteArray) (k : Int) (B b off n c : Nat) (mv : Value) (w : World) (hn : 0 < n) (hB : Blk w B 54 #[.slice (some ⟨b, off, none⟩) n c]) (h0 : w.cell? ⟨b, off, none⟩ = some (.string s)) :
    Calls Tryz.prog 104 #[.agg #[.string (actWord k), .int .u32 (actCode k), mv], .pointer (some ⟨B, 0, none⟩)] w fun e w' => e = .returned (.bool ((actWord k).toList == s.toList)) ∧ Below w.heap.size w w' := by
  have hbx := Blk.new w 112 #[.string (actWord k), .int .u32 (actCode k), mv]
  have x0 := hbx.cell 0
  have y0 := (hB.alloc (.cells #[.string (actWord k), .int .u32 (actCode k), mv] 112)).cell 0
  have hb0 := (Below.refl w.heap.size w).alloc (Nat.le_refl _) (.cells #[.string (actWord k), .int .u32 (actCode k), mv] 112)
  have z0 := cellLater hb0 h0
  simp only [List.getElem?_toArray, List.getElem?_cons_zero] at x0 y0
  have hnz : (0 : Int) < (n : Int) := by omega
  have HB0 := Lib.hid hb0
  clear hbx hB hb0 h0
  go_enter Tryz.func104, Tryz.ntmps104
  go_wp2
  go_quiet (fail)
  go_wp2
  go_ret
  exact ⟨rfl, below_drewN HB0.out _⟩
end Go.Proofs.YtmjipkdejggbfaaGreatDoor.ActP
namespace Go.Proofs.YtmjipkdejggbfaaGreatDoor.ActP
open Go Go.Proofs Go.RowKit

/-- Words in memory. -/
def WordsV (W : World) (sv : Value) (ws : List ByteArray) : Prop :=
  ∃ a c, sv = .slice a ws.length c ∧ (ws = [] ∨ ∃ b off, a = some ⟨b, off, none⟩ ∧ b < W.heap.size ∧ ∀ j (s : ByteArray), ws[j]? = some s → W.cell? ⟨b, off + j, none⟩ = some (.string s))
/-- What stands behind a word that takes a number. -/
def readRest (K : Int) : List ByteArray → Int × Int × Int × Int
  | [] => (0, 0, 0, 13)
  | t :: _ =>
    match refNum t with
    | none => (0, 0, 0, 13)
    | some n => if actGreatest K < (n : Int) then (0, 0, 0, 16) else (K, (n : Int), 2, 0)
/-- What Read answers: a kind, a number, how many words, an error's number. -/
def readAns : List ByteArray → Int × Int × Int × Int
  | [] => (0, 0, 0, 4)
  | s :: r =>
    if firstN (wordB s) = -1 then (0, 0, 0, 14)
    else if ¬ (firstN (wordB s) + 1 = 4 ∨ firstN (wordB s) + 1 = 6) then (firstN (wordB s) + 1, 0, 1, 0)
    else readRest (firstN (wordB s) + 1) r
def readV (x : Int × Int × Int × Int) : Value := .tuple #[.agg #[.int .i64 x.1, .int .i64 x.2.1], .int .i64 x.2.2.1, .int .i64 x.2.2.2]

set_option maxRecDepth 100000 in
set_option maxHeartbeats 2000000 in
theorem read_any (sv : Value) (ws : List ByteArray) (hbig : ws.length ≤ 1000000) (hsz : ∀ s ∈ ws, s.size ≤ 1000000) (w : World) (hW : WordsV w sv ws) :
    Calls Tryz.prog 81 #[sv] w fun e w' => e = .returned (readV (readAns ws)) ∧ Below w.heap.size w w' := by
  obtain ⟨ad, c, rfl, hx⟩ := hW
  have bC := (Blk.new w 54 #[.slice ad ws.length c]).alloc (.cells #[.int .i64 0, .int .i64 0] 23)
  have bZ := Blk.new (w.alloc (.cells #[.slice ad ws.length c] 54)) 23 #[.int .i64 0, .int .i64 0]
  have hb1 := ((Below.refl w.heap.size w).alloc (Nat.le_refl _) (.cells #[.slice ad ws.length c] 54)).alloc (by simp) (.cells #[.int .i64 0, .int .i64 0] 23)
  simp only [World.size_alloc] at bZ
  have HC := Lib.hid bC
  have HZ := Lib.hid bZ
  have HB := Lib.hid hb1
  clear bC bZ hb1
  cases ws with
  | nil =>
    clear hx HZ
    have c0 := HC.out.cell 0
    simp only [List.getElem?_toArray, List.getElem?_cons_zero] at c0
    go_enter Tryz.func81, Tryz.ntmps81
    go_wp2
    refine bodyPost_ret (v := .tuple #[.agg #[.int .i64 0, .int .i64 0], .int .i64 0, .int .i64 4]) (by simp [results, Tryz.results81, go_sem]) rfl ⟨rfl, ?_⟩
    exact HB.out
  | cons s r =>
    obtain ⟨b, off, rfl, hlt, hcells⟩ := hx.resolve_left (fun h => by cases h)
    have HCE := Lib.hid hcells
    obtain ⟨n, hn⟩ : ∃ n, (s :: r).length = n := ⟨_, rfl⟩
    have hn0 : 0 < n := by rw [← hn]; simp
    rw [hn] at HC hbig ⊢
    have hn0z : ¬ (n : Int) = 0 := by omega
    have hn0b : ((n : Int) == 0) = false := by simpa using hn0z
    have HN := Lib.hid hn
    have HLT := Lib.hid hlt
    have hbw : Hid (Below w.heap.size w ((w.alloc (.cells #[.slice (some ⟨b, off, none⟩) n c] 54)).alloc (.cells #[.int .i64 0, .int .i64 0] 23))) := ((Below.refl w.heap.size w).alloc (Nat.le_refl _) _).alloc (by simp) _
    clear HB hx hcells hlt
    have c0 := HC.out.cell 0
    simp only [List.getElem?_toArray, List.getElem?_cons_zero] at c0
    clear hn
    have HZ' : Hid (Blk ((w.alloc (.cells #[.slice (some ⟨b, off, none⟩) n c] 54)).alloc (.cells #[.int .i64 0, .int .i64 0] 23)) (w.heap.size + 1) 23 #[.int .i64 0, .int .i64 0]) := by
      have := Blk.new (w.alloc (.cells #[.slice (some ⟨b, off, none⟩) n c] 54)) 23 #[.int .i64 0, .int .i64 0]
      simp only [World.size_alloc] at this
      exact this
    clear HZ
    go_enter Tryz.func81, Tryz.ntmps81
    go_wp2_with fail
    refine (rows_ok _).mono ?_
    rintro e w2 ⟨g, rfl, hr, hb2⟩
    have HC2 := blkB HC hb2
    have HZ2 := blkB HZ' hb2
    have HB2 := Lib.hid (hbw.out.trans (hb2.mono hbw.out.size))
    have HS : Hid (∀ W, Below w2.heap.size w2 W → ∀ j t, (s :: r)[j]? = some t → W.cell? ⟨b, off + j, none⟩ = some (.string t)) := fun W hW j t ht =>
      cellLater hW (cellLater (w := _) (HB2.out.mono (Nat.le_refl _)) (HCE.out j t ht))
    have hidx := indexFunc_act (wordB s) 104 #[.pointer (some ⟨w.heap.size, 0, none⟩)] (enters_of Tryz.func104 (by kernel_rfl) rfl) g w2
      (fun W j mv hj hB hm => read1_any s (j + 1) w.heap.size b off n c mv W hn0 (HC2.out.below hB HC2.out.lt) (HS.out W hB 0 s rfl)) hr
    clear hr hb2 HC HZ' hbw c0 HCE
    rcases firstN_cases (wordB s) with ⟨hF, _⟩ | ⟨k, hk, hF, _, _⟩
    · have hV : readV (readAns (s :: r)) = .tuple #[.agg #[.int .i64 0, .int .i64 0], .int .i64 0, .int .i64 14] := by
        unfold readAns
        dsimp only
        rw [if_pos hF]
        rfl
      rw [hF] at hidx
      have HV := Lib.hid hV
      have Hidx := Lib.hid hidx
      have Hof := Lib.hid (fun W => of_none 0 (by omega) W)
      clear hidx hF hV
      go_wp2_with fail
      refine Hidx.out.mono ?_
      rintro e w3 ⟨rfl, hb3⟩
      go_wp2_with fail
      refine (Hof.out _).mono ?_
      rintro e w4 ⟨rfl, hb4⟩
      have HB4 := Lib.hid ((belB (belB HB2 hb3) hb4).out.alloc (belB (belB HB2 hb3) hb4).out.size (.cells #[.string ⟨#[]⟩, .int .u32 0, .nilFunc] 112))
      have HZ4 := Lib.hid ((blkB (blkB HZ2 hb3) hb4).out.alloc (.cells #[.string ⟨#[]⟩, .int .u32 0, .nilFunc] 112))
      have z0 := HZ4.out.frozen 0
      have z1 := HZ4.out.frozen 1
      have y0 := HZ4.out.cell 0
      have y1 := HZ4.out.cell 1
      simp only [List.getElem?_toArray, List.getElem?_cons_zero, List.getElem?_cons_succ] at y0 y1
      clear hb3 hb4 Hidx Hof HZ2 HB2
      go_wp2
      have bF := ((HZ4.out.set 0 (.int .i64 0)).set 1 (.int .i64 0))
      have e0 := bF.cell 0
      have e1 := bF.cell 1
      simp at e0 e1
      refine bodyPost_ret (v := .tuple #[.agg #[.int .i64 0, .int .i64 0], .int .i64 0, .int .i64 14]) (by simp [results, Tryz.results81, go_sem, e0, e1]) rfl ⟨congrArg Ending.returned HV.out.symm, ?_⟩
      exact (HB4.out.setCell (p := ⟨w.heap.size + 1, 0, none⟩) (by simp) _).setCell (p := ⟨w.heap.size + 1, 1, none⟩) (by simp) _
    · obtain ⟨K, hKe⟩ : ∃ K : Int, K = (k : Int) + 1 := ⟨_, rfl⟩
      have hK1 : 1 ≤ K := by omega
      have hK8 : K ≤ 8 := by omega
      have hKw : IntKind.i64.wrap (1 + (k : Int)) = K := by rw [IntWalk.i64_in _ (by omega)]; omega
      have hne : ¬ firstN (wordB s) = -1 := by rw [hF]; omega
      have hfK : firstN (wordB s) + 1 = K := by rw [hF]; exact hKe.symm
      have HFK := Lib.hid hfK
      have HNE := Lib.hid hne
      rw [hF] at hidx
      have Hidx := Lib.hid hidx
      clear hidx hF hfK hne hKe
      by_cases h46 : K = 4 ∨ K = 6
      case neg =>
        have hV : readV (readAns (s :: r)) = .tuple #[.agg #[.int .i64 K, .int .i64 0], .int .i64 1, .int .i64 0] := by
          unfold readAns
          dsimp only
          rw [if_neg HNE.out, HFK.out, if_pos h46]
          rfl
        have HV := Lib.hid hV
        have Hof := Lib.hid (fun W => of_plain K hK1 hK8 (fun h => h46 (.inl h)) (fun h => h46 (.inr h)) W)
        have hq := fun W => run_eql_nilFunc (P := Tryz.prog) W 89 Tryz.underlying89
        clear hV h46
        go_wp2_with fail
        refine Hidx.out.mono ?_
        rintro e w3 ⟨rfl, hb3⟩
        go_wp2_with fail
        refine (Hof.out _).mono ?_
        rintro e w4 ⟨rfl, hb4⟩
        have HB4 := Lib.hid ((belB (belB HB2 hb3) hb4).out.alloc (belB (belB HB2 hb3) hb4).out.size (.cells #[.string (actWord K), .int .u32 (actCode K), .nilFunc] 112))
        have HZ4 := Lib.hid ((blkB (blkB HZ2 hb3) hb4).out.alloc (.cells #[.string (actWord K), .int .u32 (actCode K), .nilFunc] 112))
        have hR4 := Blk.new w4 112 #[.string (actWord K), .int .u32 (actCode K), .nilFunc]
        have r2 := hR4.cell 2
        simp only [List.getElem?_toArray, List.getElem?_cons_zero, List.getElem?_cons_succ] at r2
        have z0 := HZ4.out.frozen 0
        have z1 := HZ4.out.frozen 1
        have y0 := HZ4.out.cell 0
        have y1 := HZ4.out.cell 1
        simp only [List.getElem?_toArray, List.getElem?_cons_zero, List.getElem?_cons_succ] at y0 y1
        clear hb3 hb4 Hidx Hof HZ2 HB2 hR4
        go_wp2
        have bF := ((HZ4.out.set 0 (.int .i64 K)).set 1 (.int .i64 0))
        have e0 := bF.cell 0
        have e1 := bF.cell 1
        simp at e0 e1
        refine bodyPost_ret (v := .tuple #[.agg #[.int .i64 K, .int .i64 0], .int .i64 1, .int .i64 0]) (by simp [results, Tryz.results81, go_sem, e0, e1]) rfl ⟨congrArg Ending.returned HV.out.symm, ?_⟩
        exact (HB4.out.setCell (p := ⟨w.heap.size + 1, 0, none⟩) (by simp) _).setCell (p := ⟨w.heap.size + 1, 1, none⟩) (by simp) _
      case pos =>
        have hq := fun W fn a c => run_eql_func_nil (P := Tryz.prog) W 89 fn a c Tryz.underlying89
        have hV0 : readAns (s :: r) = readRest K r := by
          unfold readAns
          dsimp only
          rw [if_neg HNE.out, HFK.out, if_neg (fun h => h h46)]
        have HV0 := Lib.hid hV0
        have g0 : 0 ≤ actGreatest K ∧ actGreatest K ≤ 100000 := by rcases h46 with rfl | rfl <;> decide
        have Hof := Lib.hid (fun W => of_num K h46 W)
        clear hV0 h46
        go_wp2_with fail
        refine Hidx.out.mono ?_
        rintro e w3 ⟨rfl, hb3⟩
        go_wp2_with fail
        refine (Hof.out _).mono ?_
        rintro e w4 ⟨B, rfl, hBB, hb4⟩
        have HB5 := Lib.hid ((belB (belB HB2 hb3) hb4).out.alloc (belB (belB HB2 hb3) hb4).out.size (.cells #[.string (actWord K), .int .u32 (actCode K), .func (.func 111) #[] #[.pointer (some ⟨B, 0, none⟩)]] 112))
        have HZ5 := Lib.hid ((blkB (blkB HZ2 hb3) hb4).out.alloc (.cells #[.string (actWord K), .int .u32 (actCode K), .func (.func 111) #[] #[.pointer (some ⟨B, 0, none⟩)]] 112))
        have HC5 := Lib.hid ((blkB (blkB HC2 hb3) hb4).out.alloc (.cells #[.string (actWord K), .int .u32 (actCode K), .func (.func 111) #[] #[.pointer (some ⟨B, 0, none⟩)]] 112))
        have HG5 := Lib.hid (hBB.alloc (.cells #[.string (actWord K), .int .u32 (actCode K), .func (.func 111) #[] #[.pointer (some ⟨B, 0, none⟩)]] 112))
        have HR5 := Lib.hid (Blk.new w4 112 #[.string (actWord K), .int .u32 (actCode K), .func (.func 111) #[] #[.pointer (some ⟨B, 0, none⟩)]])
        have HS5 : Hid (∀ W, Below (w4.alloc (.cells #[.string (actWord K), .int .u32 (actCode K), .func (.func 111) #[] #[.pointer (some ⟨B, 0, none⟩)]] 112)).heap.size (w4.alloc (.cells #[.string (actWord K), .int .u32 (actCode K), .func (.func 111) #[] #[.pointer (some ⟨B, 0, none⟩)]] 112)) W → ∀ j t, (s :: r)[j]? = some t → W.cell? ⟨b, off + j, none⟩ = some (.string t)) := fun W hW j t ht =>
          cellLater hW (HS.out _ (((hb3.trans (hb4.mono hb3.size))).alloc (Nat.le_trans hb3.size hb4.size) _) j t ht)
        clear hb3 hb4 Hidx Hof HZ2 HB2 HC2 hBB HS
        go_upto_region 7 with fail
        generalize w4.alloc (.cells #[.string (actWord K), .int .u32 (actCode K), .func (.func 111) #[] #[.pointer (some ⟨B, 0, none⟩)]] 112) = W5 at *
        generalize w4.heap.size = BR at *
        have c0 := HC5.out.cell 0
        have r2 := HR5.out.cell 2
        simp only [List.getElem?_toArray, List.getElem?_cons_zero, List.getElem?_cons_succ] at c0 r2
        cases r with
        | nil =>
          have hn1 : (n : Int) < 2 := by have := HN.out; simp at this; omega
          have HV : Hid (readV (readAns [s]) = .tuple #[.agg #[.int .i64 0, .int .i64 0], .int .i64 0, .int .i64 13]) := by show readV (readAns [s]) = _; rw [HV0.out]; rfl
          have z0 := HZ5.out.frozen 0
          have z1 := HZ5.out.frozen 1
          have y0 := HZ5.out.cell 0
          have y1 := HZ5.out.cell 1
          simp only [List.getElem?_toArray, List.getElem?_cons_zero, List.getElem?_cons_succ] at y0 y1
          go_wp2
          have bF := ((HZ5.out.set 0 (.int .i64 0)).set 1 (.int .i64 0))
          have e0 := bF.cell 0
          have e1 := bF.cell 1
          simp at e0 e1
          refine bodyPost_ret (v := .tuple #[.agg #[.int .i64 0, .int .i64 0], .int .i64 0, .int .i64 13]) (by simp [results, Tryz.results81, go_sem, e0, e1]) rfl ⟨congrArg Ending.returned HV.out.symm, ?_⟩
          exact (HB5.out.setCell (p := ⟨w.heap.size + 1, 0, none⟩) (by simp) _).setCell (p := ⟨w.heap.size + 1, 1, none⟩) (by simp) _
        | cons t r' =>
          have hn1 : ¬ (n : Int) < 2 := by have := HN.out; simp at this; omega
          have hn2 : (1 : Int) < (n : Int) := by omega
          have t0 := HS5.out W5 (Below.refl _ W5) 1 t rfl
          cases hm : refNum t with
          | none =>
            have HV : Hid (readV (readAns (s :: t :: r')) = .tuple #[.agg #[.int .i64 0, .int .i64 0], .int .i64 0, .int .i64 13]) := by show readV (readAns (s :: t :: r')) = _; rw [HV0.out]; unfold readRest; dsimp only; rw [hm]; rfl
            have Hpl := Lib.hid (fun W => plain_any t (by have := hsz t (by simp); omega) W)
            rw [hm] at Hpl
            clear hm
            go_wp2_with fail
            refine (Hpl.out _).mono ?_
            rintro e w6 ⟨rfl, hb6⟩
            have HZ6 := blkB HZ5 hb6
            have HB6 := belB HB5 hb6
            have z0 := HZ6.out.frozen 0
            have z1 := HZ6.out.frozen 1
            have y0 := HZ6.out.cell 0
            have y1 := HZ6.out.cell 1
            simp only [List.getElem?_toArray, List.getElem?_cons_zero, List.getElem?_cons_succ] at y0 y1
            clear t0 c0 r2 hb6
            go_wp2
            have bF := ((HZ6.out.set 0 (.int .i64 0)).set 1 (.int .i64 0))
            have e0 := bF.cell 0
            have e1 := bF.cell 1
            simp at e0 e1
            refine bodyPost_ret (v := .tuple #[.agg #[.int .i64 0, .int .i64 0], .int .i64 0, .int .i64 13]) (by simp [results, Tryz.results81, go_sem, e0, e1]) rfl ⟨congrArg Ending.returned HV.out.symm, ?_⟩
            exact (HB6.out.setCell (p := ⟨w.heap.size + 1, 0, none⟩) (by simp) _).setCell (p := ⟨w.heap.size + 1, 1, none⟩) (by simp) _
          | some m =>
            have Hpl := Lib.hid (fun W => plain_any t (by have := hsz t (by simp); omega) W)
            rw [hm] at Hpl
            have Hat := Lib.hid (fun W => atoi_any t m hm W)
            have HM := Lib.hid hm
            clear hm
            go_wp2_with fail
            refine (Hpl.out _).mono ?_
            rintro e w6 ⟨rfl, hb6⟩
            have HZ6 := blkB HZ5 hb6
            have HB6 := belB HB5 hb6
            have HC6 := blkB HC5 hb6
            have HR6 := blkB HR5 hb6
            have HG6 := blkB HG5 hb6
            have t6 := HS5.out w6 hb6 1 t rfl
            have c6 := HC6.out.cell 0
            simp only [List.getElem?_toArray, List.getElem?_cons_zero] at c6
            clear t0 c0 r2 hb6 Hpl HZ5 HB5 HC5 HR5 HG5
            go_wp2_with fail
            refine (Hat.out _).mono ?_
            rintro e w7 ⟨rfl, hb7⟩
            have HZ7 := blkB HZ6 hb7
            have HB7 := belB HB6 hb7
            have HR7 := blkB HR6 hb7
            have HG7 := blkB HG6 hb7
            have p0 := HR7.out.cell 0
            have p1 := HR7.out.cell 1
            have p2 := HR7.out.cell 2
            simp only [List.getElem?_toArray, List.getElem?_cons_zero, List.getElem?_cons_succ] at p0 p1 p2
            have Hgr := Lib.hid (greatest_some (actWord K) (actCode K) (actGreatest K) B w7 HG7.out g0.1 g0.2)
            clear t6 c6 hb7 Hat HZ6 HB6 HR6 HG6 HG7
            go_wp2_with fail
            refine Hgr.out.mono ?_
            rintro e w8 ⟨rfl, hb8⟩
            have HZ8 := blkB HZ7 hb8
            have HB8 := belB HB7 hb8
            have z0 := HZ8.out.frozen 0
            have z1 := HZ8.out.frozen 1
            have y0 := HZ8.out.cell 0
            have y1 := HZ8.out.cell 1
            simp only [List.getElem?_toArray, List.getElem?_cons_zero, List.getElem?_cons_succ] at y0 y1
            clear p0 p1 p2 hb8 Hgr HZ7 HB7 HR7
            by_cases hgt : actGreatest K < (m : Int)
            · have HV : Hid (readV (readAns (s :: t :: r')) = .tuple #[.agg #[.int .i64 0, .int .i64 0], .int .i64 0, .int .i64 16]) := by show readV (readAns (s :: t :: r')) = _; rw [HV0.out]; unfold readRest; dsimp only; rw [HM.out]; dsimp only; rw [if_pos hgt]; rfl
              go_wp2
              have bF := ((HZ8.out.set 0 (.int .i64 0)).set 1 (.int .i64 0))
              have e0 := bF.cell 0
              have e1 := bF.cell 1
              simp at e0 e1
              refine bodyPost_ret (v := .tuple #[.agg #[.int .i64 0, .int .i64 0], .int .i64 0, .int .i64 16]) (by simp [results, Tryz.results81, go_sem, e0, e1]) rfl ⟨congrArg Ending.returned HV.out.symm, ?_⟩
              exact (HB8.out.setCell (p := ⟨w.heap.size + 1, 0, none⟩) (by simp) _).setCell (p := ⟨w.heap.size + 1, 1, none⟩) (by simp) _
            · have HV : Hid (readV (readAns (s :: t :: r')) = .tuple #[.agg #[.int .i64 K, .int .i64 (m : Int)], .int .i64 2, .int .i64 0]) := by show readV (readAns (s :: t :: r')) = _; rw [HV0.out]; unfold readRest; dsimp only; rw [HM.out]; dsimp only; rw [if_neg hgt]; rfl
              go_wp2
              have bF := ((HZ8.out.set 0 (.int .i64 K)).set 1 (.int .i64 (m : Int)))
              have e0 := bF.cell 0
              have e1 := bF.cell 1
              simp at e0 e1
              refine bodyPost_ret (v := .tuple #[.agg #[.int .i64 K, .int .i64 (m : Int)], .int .i64 2, .int .i64 0]) (by simp [results, Tryz.results81, go_sem, e0, e1]) rfl ⟨congrArg Ending.returned HV.out.symm, ?_⟩
              exact (HB8.out.setCell (p := ⟨w.heap.size + 1, 0, none⟩) (by simp) _).setCell (p := ⟨w.heap.size + 1, 1, none⟩) (by simp) _
end Go.Proofs.YtmjipkdejggbfaaGreatDoor.ActP
namespace Go.Proofs.YtmjipkdejggbfaaGreatDoor.ActP
open Go Go.Proofs Go.RowKit

theorem keep1 {a W wx : World} {p : Addr} {u : Value} (h : W.cell? p = some u ∧ Below a.heap.size a W) (hb : Below W.heap.size W wx) : wx.cell? p = some u ∧ Below a.heap.size a wx :=
  ⟨cellLater hb h.1, h.2.trans (hb.mono h.2.size)⟩

set_option maxRecDepth 100000 in
set_option maxHeartbeats 2000000 in
theorem refRead_any (sv : Value) (ws : List ByteArray) (hbig : ws.length ≤ 1000000) (w : World) (hW : WordsV w sv ws) :
    Calls Tryz.prog 21 #[sv] w fun e w' => e = .returned (readV (readAns ws)) ∧ Below w.heap.size w w' := by
  obtain ⟨ad, c, rfl, hx⟩ := hW
  have bZ := Blk.new w 30 #[.int .i64 0, .int .i64 0]
  have hb1 := (Below.refl w.heap.size w).alloc (Nat.le_refl _) (.cells #[.int .i64 0, .int .i64 0] 30)
  have HZ := Lib.hid bZ
  have HB := Lib.hid hb1
  clear bZ hb1
  cases ws with
  | nil =>
    clear hx HZ
    go_enter Tryz.func21, Tryz.ntmps21
    go_wp2
    refine bodyPost_ret (v := .tuple #[.agg #[.int .i64 0, .int .i64 0], .int .i64 0, .int .i64 4]) (by simp [results, Tryz.results21, go_sem]) rfl ⟨rfl, ?_⟩
    exact HB.out
  | cons s r =>
    obtain ⟨b, off, rfl, hlt, hcells⟩ := hx.resolve_left (fun h => by cases h)
    have HS : Hid (∀ W, Below w.heap.size w W → ∀ j t, (s :: r)[j]? = some t → W.cell? ⟨b, off + j, none⟩ = some (.string t)) := fun W hW j t ht => cellLater hW (hcells j t ht)
    obtain ⟨n, hn⟩ : ∃ n, (s :: r).length = n := ⟨_, rfl⟩
    have hn0 : 0 < n := by rw [← hn]; simp
    rw [hn] at hbig ⊢
    have hn0z : ¬ (n : Int) = 0 := by omega
    have hn0b : ((n : Int) == 0) = false := by simpa using hn0z
    have hn0p : (0 : Int) < (n : Int) := by omega
    have HN := Lib.hid hn
    clear hx hcells hlt hn
    go_enter Tryz.func21, Tryz.ntmps21
    go_upto_region 4 with fail
    go_loopg [5] 8 (fun gg s5 wr => ∃ kk : Nat, kk ≤ 8 ∧ 8 - kk ≤ gg ∧ s5 = .int .i64 ((kk : Int) + 1) ∧ Hid (Below w.heap.size w wr) ∧ Hid (Blk wr w.heap.size 30 #[.int .i64 0, .int .i64 0]) ∧ Hid (∀ j, j < kk → wordB s j = false))
    case atStart => exact ⟨0, Nat.zero_le _, by omega, rfl, HB, HZ, fun j hj => absurd hj (Nat.not_lt_zero _)⟩
    case round =>
      obtain ⟨kk, hkk, hg, rfl, BW, ZW, A⟩ := hrel
      obtain ⟨K, hK⟩ : ∃ K : Int, (kk : Int) + 1 = K := ⟨_, rfl⟩
      rw [hK]
      have HK := Lib.hid hK
      clear HB HZ
      by_cases hlt : kk < 8
      · have hK1 : 1 ≤ K := by omega
        have hK8 : K ≤ 8 := by omega
        have Hw := Lib.hid (fun W => word_any K hK1 hK8 W)
        have q0 := HS.out wr BW.out 0 s rfl
        simp only [Nat.add_zero] at q0
        have w3 : IntKind.i64.wrap (K + 1) = K + 1 := IntWalk.i64_in _ (by omega)
        have hwd : wordB s kk = ((actWord K).toList == s.toList) := by unfold wordB; rw [hK]
        have HWD := Lib.hid hwd
        clear hwd hK
        cases hq : ((actWord K).toList == s.toList) with
        | false =>
          have hq2 : ((actWord K).toList != s.toList) = true := by simp [bne, hq]
          have HF : Hid (wordB s kk = false) := HWD.out.trans hq
          go_upto_region 6 with fail
          go_region_held3 (fun w' => w'.cell? ⟨b, off, none⟩ = some (.string s) ∧ Below wr.heap.size wr w') (first | exact ⟨q0, (Below.refl _ wr).drew⟩ | exact keep1 (by assumption) hbx | go_keep) (first | (go_at_call 47; refine (Hw.out _).mono ?_; rintro e wx ⟨rfl, hbx⟩))
          have hbw : Below wr.heap.size wr wx := (show wx.cell? ⟨b, off, none⟩ = some (.string s) ∧ Below wr.heap.size wr wx by assumption).2
          have ZX := blkB ZW hbw
          have BX := belB BW hbw
          clear q0
          go_wp2
          go_roundg (8 - (kk + 1))
          case measure => omega
          case rel =>
            refine ⟨kk + 1, by omega, by omega, by rw [← HK.out]; go_num, BX, ZX, (show Hid _ from fun j hj => ?_)⟩
            by_cases e : j = kk
            · subst e; exact HF.out
            · exact A.out j (by omega)
        | true =>
          have hq2 : ((actWord K).toList != s.toList) = false := by simp [bne, hq]
          have hF : firstN (wordB s) = (kk : Int) := firstN_hit _ kk hlt A.out (HWD.out.trans hq)
          have HFK : Hid (firstN (wordB s) + 1 = K) := by show _ + 1 = K; rw [hF]; exact HK.out
          have HNE : Hid (¬ firstN (wordB s) = -1) := by show ¬ _ = _; rw [hF]; omega
          clear hF
          by_cases h46 : K = 4 ∨ K = 6
          case neg =>
            have hk4 : (K != 4) = true := by simpa using fun h => h46 (.inl h)
            have hk6 : (K != 6) = true := by simpa using fun h => h46 (.inr h)
            have HV : Hid (readV (readAns (s :: r)) = .tuple #[.agg #[.int .i64 K, .int .i64 0], .int .i64 1, .int .i64 0]) := by
              show readV (readAns (s :: r)) = _
              unfold readAns
              dsimp only
              rw [if_neg HNE.out, HFK.out, if_pos h46]
              rfl
            clear h46
            go_upto_region 6 with fail
            go_region_held3 (fun w' => w'.cell? ⟨b, off, none⟩ = some (.string s) ∧ Below wr.heap.size wr w') (first | exact ⟨q0, (Below.refl _ wr).drew⟩ | exact keep1 (by assumption) hbx | go_keep) (first | (go_at_call 47; refine (Hw.out _).mono ?_; rintro e wx ⟨rfl, hbx⟩))
            have hbw : Below wr.heap.size wr wx := (show wx.cell? ⟨b, off, none⟩ = some (.string s) ∧ Below wr.heap.size wr wx by assumption).2
            have ZX := blkB ZW hbw
            have BX := belB BW hbw
            have z0 := ZX.out.frozen 0
            have z1 := ZX.out.frozen 1
            have y0 := ZX.out.cell 0
            have y1 := ZX.out.cell 1
            simp only [List.getElem?_toArray, List.getElem?_cons_zero, List.getElem?_cons_succ] at y0 y1
            clear q0
            go_wp2
            have bF := ((ZX.out.set 0 (.int .i64 K)).set 1 (.int .i64 0))
            have e0 := bF.cell 0
            have e1 := bF.cell 1
            simp at e0 e1
            refine bodyPost_ret (v := .tuple #[.agg #[.int .i64 K, .int .i64 0], .int .i64 1, .int .i64 0]) (by simp [results, Tryz.results21, go_sem, e0, e1]) rfl ⟨congrArg Ending.returned HV.out.symm, ?_⟩
            exact (BX.out.setCell (p := ⟨w.heap.size, 0, none⟩) (Nat.le_refl _) _).setCell (p := ⟨w.heap.size, 1, none⟩) (Nat.le_refl _) _
          case pos =>
            have HV0 : Hid (readAns (s :: r) = readRest K r) := by
              show readAns (s :: r) = _
              unfold readAns
              dsimp only
              rw [if_neg HNE.out, HFK.out, if_neg (fun h => h h46)]
            have hk : (K != 4) = false ∨ ((K != 4) = true ∧ (K != 6) = false) := by rcases h46 with rfl | rfl <;> simp
            clear h46
            cases r with
            | nil =>
              have hn1 : (n : Int) < 2 := by have := HN.out; simp at this; omega
              have HV : Hid (readV (readAns [s]) = .tuple #[.agg #[.int .i64 0, .int .i64 0], .int .i64 0, .int .i64 13]) := by show readV (readAns [s]) = _; rw [HV0.out]; rfl
              rcases hk with hk4 | ⟨hk4, hk6⟩
              all_goals
                go_upto_region 6 with fail
                go_region_held3 (fun w' => w'.cell? ⟨b, off, none⟩ = some (.string s) ∧ Below wr.heap.size wr w') (first | exact ⟨q0, (Below.refl _ wr).drew⟩ | exact keep1 (by assumption) hbx | go_keep) (first | (go_at_call 47; refine (Hw.out _).mono ?_; rintro e wx ⟨rfl, hbx⟩))
                have hbw : Below wr.heap.size wr wx := (show wx.cell? ⟨b, off, none⟩ = some (.string s) ∧ Below wr.heap.size wr wx by assumption).2
                have ZX := blkB ZW hbw
                have BX := belB BW hbw
                have z0 := ZX.out.frozen 0
                have z1 := ZX.out.frozen 1
                have y0 := ZX.out.cell 0
                have y1 := ZX.out.cell 1
                simp only [List.getElem?_toArray, List.getElem?_cons_zero, List.getElem?_cons_succ] at y0 y1
                clear q0
                go_wp2
                have bF := ((ZX.out.set 0 (.int .i64 0)).set 1 (.int .i64 0))
                have e0 := bF.cell 0
                have e1 := bF.cell 1
                simp at e0 e1
                refine bodyPost_ret (v := .tuple #[.agg #[.int .i64 0, .int .i64 0], .int .i64 0, .int .i64 13]) (by simp [results, Tryz.results21, go_sem, e0, e1]) rfl ⟨congrArg Ending.returned HV.out.symm, ?_⟩
                exact (BX.out.setCell (p := ⟨w.heap.size, 0, none⟩) (Nat.le_refl _) _).setCell (p := ⟨w.heap.size, 1, none⟩) (Nat.le_refl _) _
            | cons t r' =>
              have hn1 : ¬ (n : Int) < 2 := by have := HN.out; simp at this; omega
              have hn2 : (1 : Int) < (n : Int) := by omega
              have hnum := fun W => refNumber_any t W
              have hmost := fun W => most_any K W
              unfold numV at hnum
              have Hnum := Lib.hid hnum
              have Hmost := Lib.hid hmost
              clear hnum hmost
              cases hm : refNum t with
              | none =>
                rw [hm] at Hnum
                have HV : Hid (readV (readAns (s :: t :: r')) = .tuple #[.agg #[.int .i64 0, .int .i64 0], .int .i64 0, .int .i64 13]) := by show readV (readAns (s :: t :: r')) = _; rw [HV0.out]; unfold readRest; dsimp only; rw [hm]; rfl
                clear hm
                rcases hk with hk4 | ⟨hk4, hk6⟩
                all_goals
                  go_upto_region 6 with fail
                  go_region_held3 (fun w' => w'.cell? ⟨b, off, none⟩ = some (.string s) ∧ Below wr.heap.size wr w') (first | exact ⟨q0, (Below.refl _ wr).drew⟩ | exact keep1 (by assumption) hbx | go_keep) (first | (go_at_call 47; refine (Hw.out _).mono ?_; rintro e wx ⟨rfl, hbx⟩))
                  have hbw : Below wr.heap.size wr wx := (show wx.cell? ⟨b, off, none⟩ = some (.string s) ∧ Below wr.heap.size wr wx by assumption).2
                  have ZX := blkB ZW hbw
                  have BX := belB BW hbw
                  have z0 := ZX.out.frozen 0
                  have z1 := ZX.out.frozen 1
                  have y0 := ZX.out.cell 0
                  have y1 := ZX.out.cell 1
                  simp only [List.getElem?_toArray, List.getElem?_cons_zero, List.getElem?_cons_succ] at y0 y1
                  have t0 := HS.out wx BX.out 1 t rfl
                  clear q0
                  go_wp2_with (go_at_call 48; refine (Hnum.out _).mono ?_; rintro e wn ⟨rfl, rfl⟩)
                  have bF := ((ZX.out.set 0 (.int .i64 0)).set 1 (.int .i64 0))
                  have e0 := bF.cell 0
                  have e1 := bF.cell 1
                  simp at e0 e1
                  refine bodyPost_ret (v := .tuple #[.agg #[.int .i64 0, .int .i64 0], .int .i64 0, .int .i64 13]) (by simp [results, Tryz.results21, go_sem, e0, e1]) rfl ⟨congrArg Ending.returned HV.out.symm, ?_⟩
                  exact (BX.out.setCell (p := ⟨w.heap.size, 0, none⟩) (Nat.le_refl _) _).setCell (p := ⟨w.heap.size, 1, none⟩) (Nat.le_refl _) _
              | some m =>
                rw [hm] at Hnum
                have HM := Lib.hid hm
                clear hm
                by_cases hgt : actGreatest K < (m : Int)
                · have HV : Hid (readV (readAns (s :: t :: r')) = .tuple #[.agg #[.int .i64 0, .int .i64 0], .int .i64 0, .int .i64 16]) := by show readV (readAns (s :: t :: r')) = _; rw [HV0.out]; unfold readRest; dsimp only; rw [HM.out]; dsimp only; rw [if_pos hgt]; rfl
                  rcases hk with hk4 | ⟨hk4, hk6⟩
                  all_goals
                    go_upto_region 6 with fail
                    go_region_held3 (fun w' => w'.cell? ⟨b, off, none⟩ = some (.string s) ∧ Below wr.heap.size wr w') (first | exact ⟨q0, (Below.refl _ wr).drew⟩ | exact keep1 (by assumption) hbx | go_keep) (first | (go_at_call 47; refine (Hw.out _).mono ?_; rintro e wx ⟨rfl, hbx⟩))
                    have hbw : Below wr.heap.size wr wx := (show wx.cell? ⟨b, off, none⟩ = some (.string s) ∧ Below wr.heap.size wr wx by assumption).2
                    have ZX := blkB ZW hbw
                    have BX := belB BW hbw
                    have z0 := ZX.out.frozen 0
                    have z1 := ZX.out.frozen 1
                    have y0 := ZX.out.cell 0
                    have y1 := ZX.out.cell 1
                    simp only [List.getElem?_toArray, List.getElem?_cons_zero, List.getElem?_cons_succ] at y0 y1
                    have t0 := HS.out wx BX.out 1 t rfl
                    clear q0
                    go_wp2_with (first | (go_at_call 48; refine (Hnum.out _).mono ?_; rintro e wn ⟨rfl, rfl⟩) | (go_at_call 49; refine (Hmost.out _).mono ?_; rintro e wn ⟨rfl, rfl⟩))
                    have bF := ((ZX.out.set 0 (.int .i64 0)).set 1 (.int .i64 0))
                    have e0 := bF.cell 0
                    have e1 := bF.cell 1
                    simp at e0 e1
                    refine bodyPost_ret (v := .tuple #[.agg #[.int .i64 0, .int .i64 0], .int .i64 0, .int .i64 16]) (by simp [results, Tryz.results21, go_sem, e0, e1]) rfl ⟨congrArg Ending.returned HV.out.symm, ?_⟩
                    exact (BX.out.setCell (p := ⟨w.heap.size, 0, none⟩) (Nat.le_refl _) _).setCell (p := ⟨w.heap.size, 1, none⟩) (Nat.le_refl _) _
                · have HV : Hid (readV (readAns (s :: t :: r')) = .tuple #[.agg #[.int .i64 K, .int .i64 (m : Int)], .int .i64 2, .int .i64 0]) := by show readV (readAns (s :: t :: r')) = _; rw [HV0.out]; unfold readRest; dsimp only; rw [HM.out]; dsimp only; rw [if_neg hgt]; rfl
                  rcases hk with hk4 | ⟨hk4, hk6⟩
                  all_goals
                    go_upto_region 6 with fail
                    go_region_held3 (fun w' => w'.cell? ⟨b, off, none⟩ = some (.string s) ∧ Below wr.heap.size wr w') (first | exact ⟨q0, (Below.refl _ wr).drew⟩ | exact keep1 (by assumption) hbx | go_keep) (first | (go_at_call 47; refine (Hw.out _).mono ?_; rintro e wx ⟨rfl, hbx⟩))
                    have hbw : Below wr.heap.size wr wx := (show wx.cell? ⟨b, off, none⟩ = some (.string s) ∧ Below wr.heap.size wr wx by assumption).2
                    have ZX := blkB ZW hbw
                    have BX := belB BW hbw
                    have z0 := ZX.out.frozen 0
                    have z1 := ZX.out.frozen 1
                    have y0 := ZX.out.cell 0
                    have y1 := ZX.out.cell 1
                    simp only [List.getElem?_toArray, List.getElem?_cons_zero, List.getElem?_cons_succ] at y0 y1
                    have t0 := HS.out wx BX.out 1 t rfl
                    clear q0
                    go_wp2_with (first | (go_at_call 48; refine (Hnum.out _).mono ?_; rintro e wn ⟨rfl, rfl⟩) | (go_at_call 49; refine (Hmost.out _).mono ?_; rintro e wn ⟨rfl, rfl⟩))
                    have bF := ((ZX.out.set 0 (.int .i64 K)).set 1 (.int .i64 (m : Int)))
                    have e0 := bF.cell 0
                    have e1 := bF.cell 1
                    simp at e0 e1
                    refine bodyPost_ret (v := .tuple #[.agg #[.int .i64 K, .int .i64 (m : Int)], .int .i64 2, .int .i64 0]) (by simp [results, Tryz.results21, go_sem, e0, e1]) rfl ⟨congrArg Ending.returned HV.out.symm, ?_⟩
                    exact (BX.out.setCell (p := ⟨w.heap.size, 0, none⟩) (Nat.le_refl _) _).setCell (p := ⟨w.heap.size, 1, none⟩) (Nat.le_refl _) _
      · obtain rfl : kk = 8 := by omega
        obtain rfl : K = 9 := by omega
        have HV : Hid (readV (readAns (s :: r)) = .tuple #[.agg #[.int .i64 0, .int .i64 0], .int .i64 0, .int .i64 14]) := by
          show readV (readAns (s :: r)) = _
          unfold readAns
          dsimp only
          rw [if_pos (firstN_miss _ A.out)]
          rfl
        clear hK
        have z0 := ZW.out.frozen 0
        have z1 := ZW.out.frozen 1
        have y0 := ZW.out.cell 0
        have y1 := ZW.out.cell 1
        simp only [List.getElem?_toArray, List.getElem?_cons_zero, List.getElem?_cons_succ] at y0 y1
        go_wp2
        have bF := ((ZW.out.set 0 (.int .i64 0)).set 1 (.int .i64 0))
        have e0 := bF.cell 0
        have e1 := bF.cell 1
        simp at e0 e1
        refine bodyPost_ret (v := .tuple #[.agg #[.int .i64 0, .int .i64 0], .int .i64 0, .int .i64 14]) (by simp [results, Tryz.results21, go_sem, e0, e1]) rfl ⟨congrArg Ending.returned HV.out.symm, ?_⟩
        exact (BW.out.setCell (p := ⟨w.heap.size, 0, none⟩) (Nat.le_refl _) _).setCell (p := ⟨w.heap.size, 1, none⟩) (Nat.le_refl _) _
end Go.Proofs.YtmjipkdejggbfaaGreatDoor.ActP
namespace Go.Proofs.YtmjipkdejggbfaaGreatDoor.ActP
open Go Go.Proofs Go.RowKit

theorem from_right {k n : Int} (hr : actRight k n = true) : fromK (actCode k + n) = k ∧ fromN (actCode k + n) = n := by
  unfold actRight at hr
  simp only [decide_eq_true_eq] at hr
  obtain ⟨h1, h8, h0, hg⟩ := hr
  obtain ⟨j, hj, hj8⟩ : ∃ j : Nat, k = (j : Int) + 1 ∧ j < 8 := ⟨(k - 1).toNat, by omega, by omega⟩
  subst hj
  have hp : fromB (actCode (j + 1) + n) j = true := decide_eq_true ⟨by omega, by omega⟩
  have hm : ∀ i, i < j → fromB (actCode (j + 1) + n) i = false := by
    intro i hi
    refine decide_eq_false ?_
    rintro ⟨h2, h3⟩
    have hj' : j = 0 ∨ j = 1 ∨ j = 2 ∨ j = 3 ∨ j = 4 ∨ j = 5 ∨ j = 6 ∨ j = 7 := by omega
    have hi' : i = 0 ∨ i = 1 ∨ i = 2 ∨ i = 3 ∨ i = 4 ∨ i = 5 ∨ i = 6 := by omega
    rcases hj' with rfl | rfl | rfl | rfl | rfl | rfl | rfl | rfl <;> rcases hi' with rfl | rfl | rfl | rfl | rfl | rfl | rfl <;> simp [actCode, actGreatest] at h2 h3 hg <;> omega
  have e : fromK (actCode (j + 1) + n) = (j : Int) + 1 := by unfold fromK; rw [firstN_hit _ j hj8 hm hp]
  refine ⟨e, ?_⟩
  unfold fromN
  rw [e, if_neg (by omega)]
  omega
theorem code_apart {k n k' n' : Int} (hr : actRight k n = true) (hr' : actRight k' n' = true) (h : actCode k + n = actCode k' + n') : k = k' ∧ n = n' := by
  have h1 := from_right hr
  have h2 := from_right hr'
  rw [h] at h1
  exact ⟨h1.1.symm.trans h2.1, h1.2.symm.trans h2.2⟩

def dval (l : List UInt8) : Nat := l.foldl (fun a b => 10 * a + (b.toNat - 48)) 0
theorem dval_dec (n : Nat) : dval (Lib.decDigits n) = n := by
  induction n using Nat.strongRecOn with
  | _ n ih =>
    by_cases h : n < 10
    · rw [Lib.decDigits_one h]
      simp [dval]
      omega
    · rw [Lib.decDigits, dif_neg h]
      unfold dval
      rw [List.foldl_append]
      have := ih (n / 10) (by omega)
      unfold dval at this
      rw [this]
      simp
      omega
theorem decS_inj {n m : Nat} (h : decS n = decS m) : n = m := by
  have h1 : Lib.decDigits n = Lib.decDigits m := by
    have := congrArg (fun b : ByteArray => b.data.toList) h
    simpa [decS] using this
  rw [← dval_dec n, ← dval_dec m, h1]

theorem text_list (k : Int) (n : Nat) : (actText k n).data.toList = (actWord k).data.toList ++ (if k = 4 ∨ k = 6 then 32 :: Lib.decDigits n else []) := by
  unfold actText
  split
  · simp [decS, ByteArray.data_append]
  · simp
theorem text_apart {k k' : Int} {n n' : Nat} (hr : actRight k n = true) (hr' : actRight k' n' = true) (h : actText k n = actText k' n') : k = k' ∧ n = n' := by
  unfold actRight at hr hr'
  simp only [decide_eq_true_eq] at hr hr'
  obtain ⟨h1, h8, _, hg⟩ := hr
  obtain ⟨h1', h8', _, hg'⟩ := hr'
  have e := congrArg (fun b : ByteArray => b.data.toList) h
  simp only [text_list] at e
  have hk : k = 1 ∨ k = 2 ∨ k = 3 ∨ k = 4 ∨ k = 5 ∨ k = 6 ∨ k = 7 ∨ k = 8 := by omega
  have hk' : k' = 1 ∨ k' = 2 ∨ k' = 3 ∨ k' = 4 ∨ k' = 5 ∨ k' = 6 ∨ k' = 7 ∨ k' = 8 := by omega
  have hd : ∀ {a b : Nat}, Lib.decDigits a = Lib.decDigits b → a = b := fun {a b} hh => by rw [← dval_dec a, ← dval_dec b, hh]
  clear h
  rcases hk with rfl | rfl | rfl | rfl | rfl | rfl | rfl | rfl <;> rcases hk' with rfl | rfl | rfl | rfl | rfl | rfl | rfl | rfl <;> simp [actWord, actGreatest] at e hg hg' <;> first | exact ⟨rfl, by omega⟩ | exact ⟨rfl, hd e⟩
end Go.Proofs.YtmjipkdejggbfaaGreatDoor.ActP
namespace Go.Proofs.YtmjipkdejggbfaaGreatDoor.ActP
open Go Go.Proofs Go.RowKit

theorem nDigits_le : ∀ (k n : Nat), n < 10 ^ (k + 1) → Lib.nDigits n ≤ k + 1
  | 0, n, h => by rw [Lib.nDigits_small (by simpa using h)]; omega
  | k + 1, n, h => by
    by_cases h10 : n < 10
    · rw [Lib.nDigits_small h10]; omega
    · rw [Lib.nDigits_big h10]
      have := nDigits_le k (n / 10) (by rw [Nat.pow_succ] at h; omega)
      omega
theorem decFrom_app : ∀ (l : List UInt8) (acc m d : Nat) (b : UInt8), Lib.decFrom acc l = some m → Lib.digitVal b = some d → Lib.decFrom acc (l ++ [b]) = some (m * 10 + d)
  | [], acc, m, d, b, h, hb => by
    simp only [Lib.decFrom, Option.some.injEq] at h
    subst h
    simp [Lib.decFrom, hb]
  | x :: r, acc, m, d, b, h, hb => by
    rw [List.cons_append]
    unfold Lib.decFrom at h ⊢
    split at h
    · exact decFrom_app r _ m d b h hb
    · cases h
theorem digit_val (d : Nat) (h : d < 10) : Lib.digitVal (UInt8.ofNat (48 + d)) = some d := by
  have hn : (UInt8.ofNat (48 + d)).toNat = 48 + d := by simp; omega
  unfold Lib.digitVal
  rw [hn, if_pos ⟨by omega, by omega⟩]
  congr 1
  omega
theorem decFrom_dec (n : Nat) : Lib.decFrom 0 (Lib.decDigits n) = some n := by
  induction n using Nat.strongRecOn with
  | _ n ih =>
    by_cases h : n < 10
    · rw [Lib.decDigits_one h]
      have := digit_val n h
      show (match Lib.digitVal (UInt8.ofNat (48 + n)) with | some d => Lib.decFrom (0 * 10 + d) [] | none => none) = some n
      rw [this]
      simp [Lib.decFrom]
    · rw [Lib.decDigits, dif_neg h, decFrom_app _ 0 (n / 10) (n % 10) _ (ih (n / 10) (by omega)) (digit_val _ (by omega))]
      congr 1
      omega
theorem dec_head (n : Nat) : 0 < n → (Lib.decDigits n).head? ≠ some 48 := by
  induction n using Nat.strongRecOn with
  | _ n ih =>
    intro h0
    by_cases h : n < 10
    · rw [Lib.decDigits_one h]
      intro e
      simp only [List.head?_cons, Option.some.injEq] at e
      have := congrArg UInt8.toNat e
      simp at this
      omega
    · rw [Lib.decDigits, dif_neg h]
      have hi := ih (n / 10) (by omega) (by omega)
      cases hd : Lib.decDigits (n / 10) with
      | nil =>
        have h1 := Lib.decDigits_length (n / 10)
        have h2 := Lib.nDigits_pos (n / 10)
        rw [hd] at h1
        simp at h1
        omega
      | cons x xs =>
        rw [hd] at hi
        simpa using hi
theorem refNum_dec (n : Nat) (hn : n ≤ 1000000) : refNum (decS n) = some n := by
  have hs : (decS n).size = Lib.nDigits n := by rw [← Lib.decDigits_length]; rfl
  have hd : (decS n).data.toList = Lib.decDigits n := by simp [decS]
  unfold refNum
  rw [if_neg, hd, decFrom_dec]
  rintro (h | h | ⟨h, h'⟩)
  · have := Lib.nDigits_pos n; omega
  · have := nDigits_le 6 n (by omega); omega
  · rw [hd] at h
    by_cases h0 : n = 0
    · subst h0
      rw [hs] at h'
      exact absurd h' (by rw [Lib.nDigits_small (by omega)]; omega)
    · exact dec_head n (by omega) h

/-- The words of a right action's text. -/
def wordsOf (k : Int) (n : Nat) : List ByteArray := if k = 4 ∨ k = 6 then [actWord k, decS n] else [actWord k]
theorem firstN_word (k : Int) (h1 : 1 ≤ k) (h8 : k ≤ 8) : firstN (wordB (actWord k)) + 1 = k := by
  have h : k = 1 ∨ k = 2 ∨ k = 3 ∨ k = 4 ∨ k = 5 ∨ k = 6 ∨ k = 7 ∨ k = 8 := by omega
  rcases h with rfl | rfl | rfl | rfl | rfl | rfl | rfl | rfl <;> simp [firstN, wordB, actWord, ByteArray.toList_eq]
theorem read_words (k : Int) (n : Nat) (hr : actRight k n = true) (t : ByteArray) : readAns (wordsOf k n ++ [t]) = (k, (n : Int), ((wordsOf k n).length : Int), 0) := by
  obtain ⟨_, _, n0, n1, k1, k8, _, _⟩ := code_bounds k n hr
  have hf := firstN_word k k1 k8
  unfold actRight at hr
  simp only [decide_eq_true_eq] at hr
  obtain ⟨_, _, _, hg⟩ := hr
  unfold wordsOf
  by_cases hk : k = 4 ∨ k = 6
  · rw [if_pos hk]
    show readAns (actWord k :: decS n :: [t]) = _
    unfold readAns
    dsimp only
    rw [if_neg (by omega), hf, if_neg (fun h => h hk)]
    unfold readRest
    dsimp only
    rw [refNum_dec n (by omega)]
    dsimp only
    rw [if_neg (by omega)]
    rfl
  · rw [if_neg hk]
    show readAns (actWord k :: [t]) = _
    unfold readAns
    dsimp only
    rw [if_neg (by omega), hf, if_pos hk]
    have : actGreatest k = 0 := by
      unfold actGreatest
      rw [if_neg (fun h => hk (.inl h)), if_neg (fun h => hk (.inr h))]
    obtain rfl : n = 0 := by omega
    rfl
end Go.Proofs.YtmjipkdejggbfaaGreatDoor.ActP
