/- act: its kinds' rows; whether an action may be; its code. -/
import Derived.Test.YtkgmbogmeppmcaaDoorIn
import Derived.Test.YtkgmbogmeppmcaaDoorBlk
import Derived.Test.YtkgmbogmeppmcaaDoorProg
import Derived.WalkLawsBesides
import Derived.WalkSpells
import Derived.Lib.Hide
import Derived.Laws.EntriesVeiled
import Derived.Deep.RegionHeld3
import Derived.BigQuiet
import Derived.Deep.QuietTactic
namespace Go.Proofs.YtkgmbogmeppmcaaDoor
open Go Go.Proofs Go.RowKit

def actWord (k : Int) : ByteArray := if k = 1 then ⟨#[107, 105, 108, 108]⟩ else if k = 2 then ⟨#[107, 105, 108, 108, 95, 116, 104, 114, 101, 97, 100]⟩ else if k = 3 then ⟨#[116, 114, 97, 112]⟩ else if k = 4 then ⟨#[101, 114, 114, 110, 111]⟩ else if k = 5 then ⟨#[110, 111, 116, 105, 102, 121]⟩ else if k = 6 then ⟨#[116, 114, 97, 99, 101]⟩ else if k = 7 then ⟨#[108, 111, 103]⟩ else if k = 8 then ⟨#[97, 108, 108, 111, 119]⟩ else ⟨#[]⟩
def actCode (k : Int) : Int := if k = 1 then 2147483648 else if k = 2 then 0 else if k = 3 then 196608 else if k = 4 then 327680 else if k = 5 then 2143289344 else if k = 6 then 2146435072 else if k = 7 then 2147221504 else if k = 8 then 2147418112 else 0
/-- How great a kind's number may be; none: it has none. -/
def actMost (k : Int) : Option Int := if k = 4 then some 4095 else if k = 6 then some 65535 else none
def actGreatest (k : Int) : Int := if k = 4 then 4095 else if k = 6 then 65535 else 0
def actRight (k n : Int) : Bool := decide (1 ≤ k ∧ k ≤ 8 ∧ 0 ≤ n ∧ n ≤ actGreatest k)

/-- The value of a row's bound. -/
def MostAt (W : World) (m : Option Int) (v : Value) : Prop :=
  match m with
  | none => v = .nilFunc
  | some n => ∃ B, v = .func (.func 61) #[] #[.pointer (some ⟨B, 0, none⟩)] ∧ Blk W B 3 #[.int .i64 (n + 1)]

def actCells (s : Nat) : Array Value := #[.string ⟨#[107, 105, 108, 108]⟩, .int .u32 2147483648, .nilFunc, .string ⟨#[107, 105, 108, 108, 95, 116, 104, 114, 101, 97, 100]⟩, .int .u32 0, .nilFunc, .string ⟨#[116, 114, 97, 112]⟩, .int .u32 196608, .nilFunc, .string ⟨#[101, 114, 114, 110, 111]⟩, .int .u32 327680, .func (.func 61) #[] #[.pointer (some ⟨s, 0, none⟩)], .string ⟨#[110, 111, 116, 105, 102, 121]⟩, .int .u32 2143289344, .nilFunc, .string ⟨#[116, 114, 97, 99, 101]⟩, .int .u32 2146435072, .func (.func 61) #[] #[.pointer (some ⟨s + 1, 0, none⟩)], .string ⟨#[108, 111, 103]⟩, .int .u32 2147221504, .nilFunc, .string ⟨#[97, 108, 108, 111, 119]⟩, .int .u32 2147418112, .nilFunc]

theorem below_any (n : Int) (w : World) : Calls Tryd.prog 51 #[.int .i64 n] w fun e w' => e = .returned (.func (.func 61) #[] #[.pointer (some ⟨w.heap.size, 0, none⟩)]) ∧ w.alloc (.cells #[.int .i64 n] 3) = w' := by
  go_enter Tryd.func51, Tryd.ntmps51
  go_wp2
  go_ret
  exact ⟨rfl, rfl⟩

theorem below1_any (B : Nat) (n : Int) (w : World) (hB : Blk w B 3 #[.int .i64 (n + 1)]) (h0 : 0 ≤ n) (h1 : n ≤ 100000) :
    Calls Tryd.prog 61 #[.pointer (some ⟨B, 0, none⟩)] w fun e w' => e = .returned (.int .i64 n) ∧ w = w' := by
  have hc := hB.cell 0
  simp only [List.getElem?_toArray, List.getElem?_cons_zero] at hc
  go_enter Tryd.func61, Tryd.ntmps61
  go_wp2
  go_ret
  exact ⟨retI (by omega), rfl⟩

set_option maxRecDepth 100000 in
set_option maxHeartbeats 1000000 in
theorem rows_any (w : World) : Calls Tryd.prog 31 #[] w fun e w' => e = .returned (.slice (some ⟨w.heap.size + 1 + 1, 0, none⟩) 8 8) ∧
    ((w.alloc (.cells #[.int .i64 4096] 3)).alloc (.cells #[.int .i64 65536] 3)).alloc (.cells (actCells w.heap.size) 64) = w' := by
  go_enter Tryd.func31, Tryd.ntmps31
  go_wp2_with (go_at_call 51; refine (below_any _ _).mono ?_; rintro e w' ⟨rfl, rfl⟩)
  go_ret
  exact ⟨rfl, rfl⟩

/-- What act.of answers of a kind that there is. -/
def OfPost (k : Int) (w : World) (e : Ending) (w' : World) : Prop :=
  ∃ mv, e = .returned (.tuple #[.agg #[.string (actWord k), .int .u32 (actCode k), mv], .bool true]) ∧ MostAt w' (actMost k) mv ∧ Below w.heap.size w w'

set_option maxRecDepth 100000 in
set_option maxHeartbeats 1000000 in
theorem of_1 (w : World) : Calls Tryd.prog 29 #[.int .i64 1] w (OfPost 1 w) := by
  have a0 : (actCells (w.heap.size + 1))[0]? = some (.string ⟨#[107, 105, 108, 108]⟩) := rfl
  have a1 : (actCells (w.heap.size + 1))[1]? = some (.int .u32 2147483648) := rfl
  have a2 : (actCells (w.heap.size + 1))[2]? = some (.nilFunc) := rfl
  go_enter Tryd.func29, Tryd.ntmps29
  go_wp2_with (go_at_call 31; refine (rows_any _).mono ?_; rintro e w' ⟨rfl, rfl⟩)
  refine bodyPost_ret (v := .tuple #[.agg #[.string ⟨#[107, 105, 108, 108]⟩, .int .u32 2147483648, .nilFunc], .bool true]) (by simp [results, Tryd.results29, go_sem]) rfl ⟨.nilFunc, rfl, rfl, ((((Below.refl _ w).alloc (Nat.le_refl _) _).alloc (by simp) _).alloc (by simp; omega) _).alloc (by simp; omega) _⟩

set_option maxRecDepth 100000 in
set_option maxHeartbeats 1000000 in
theorem of_2 (w : World) : Calls Tryd.prog 29 #[.int .i64 2] w (OfPost 2 w) := by
  have a0 : (actCells (w.heap.size + 1))[3]? = some (.string ⟨#[107, 105, 108, 108, 95, 116, 104, 114, 101, 97, 100]⟩) := rfl
  have a1 : (actCells (w.heap.size + 1))[4]? = some (.int .u32 0) := rfl
  have a2 : (actCells (w.heap.size + 1))[5]? = some (.nilFunc) := rfl
  go_enter Tryd.func29, Tryd.ntmps29
  go_wp2_with (go_at_call 31; refine (rows_any _).mono ?_; rintro e w' ⟨rfl, rfl⟩)
  refine bodyPost_ret (v := .tuple #[.agg #[.string ⟨#[107, 105, 108, 108, 95, 116, 104, 114, 101, 97, 100]⟩, .int .u32 0, .nilFunc], .bool true]) (by simp [results, Tryd.results29, go_sem]) rfl ⟨.nilFunc, rfl, rfl, ((((Below.refl _ w).alloc (Nat.le_refl _) _).alloc (by simp) _).alloc (by simp; omega) _).alloc (by simp; omega) _⟩

set_option maxRecDepth 100000 in
set_option maxHeartbeats 1000000 in
theorem of_3 (w : World) : Calls Tryd.prog 29 #[.int .i64 3] w (OfPost 3 w) := by
  have a0 : (actCells (w.heap.size + 1))[6]? = some (.string ⟨#[116, 114, 97, 112]⟩) := rfl
  have a1 : (actCells (w.heap.size + 1))[7]? = some (.int .u32 196608) := rfl
  have a2 : (actCells (w.heap.size + 1))[8]? = some (.nilFunc) := rfl
  go_enter Tryd.func29, Tryd.ntmps29
  go_wp2_with (go_at_call 31; refine (rows_any _).mono ?_; rintro e w' ⟨rfl, rfl⟩)
  refine bodyPost_ret (v := .tuple #[.agg #[.string ⟨#[116, 114, 97, 112]⟩, .int .u32 196608, .nilFunc], .bool true]) (by simp [results, Tryd.results29, go_sem]) rfl ⟨.nilFunc, rfl, rfl, ((((Below.refl _ w).alloc (Nat.le_refl _) _).alloc (by simp) _).alloc (by simp; omega) _).alloc (by simp; omega) _⟩

set_option maxRecDepth 100000 in
set_option maxHeartbeats 1000000 in
theorem of_4 (w : World) : Calls Tryd.prog 29 #[.int .i64 4] w (OfPost 4 w) := by
  have a0 : (actCells (w.heap.size + 1))[9]? = some (.string ⟨#[101, 114, 114, 110, 111]⟩) := rfl
  have a1 : (actCells (w.heap.size + 1))[10]? = some (.int .u32 327680) := rfl
  have a2 : (actCells (w.heap.size + 1))[11]? = some (.func (.func 61) #[] #[.pointer (some ⟨w.heap.size + 1, 0, none⟩)]) := rfl
  go_enter Tryd.func29, Tryd.ntmps29
  go_wp2_with (go_at_call 31; refine (rows_any _).mono ?_; rintro e w' ⟨rfl, rfl⟩)
  refine bodyPost_ret (v := .tuple #[.agg #[.string ⟨#[101, 114, 114, 110, 111]⟩, .int .u32 327680, .func (.func 61) #[] #[.pointer (some ⟨w.heap.size + 1, 0, none⟩)]], .bool true]) (by simp [results, Tryd.results29, go_sem]) rfl ⟨.func (.func 61) #[] #[.pointer (some ⟨w.heap.size + 1, 0, none⟩)], rfl, ⟨w.heap.size + 1, rfl, by have := ((Blk.new (w.alloc (.cells #[.string ⟨#[101, 114, 114, 110, 111]⟩, .int .u32 327680, .func (.func 61) #[] #[.pointer (some ⟨w.heap.size + 1, 0, none⟩)]] 64)) 3 #[.int .i64 4096]).alloc (.cells #[.int .i64 65536] 3)).alloc (.cells (actCells (w.heap.size + 1)) 64); simp only [World.size_alloc] at this; exact this⟩, ((((Below.refl _ w).alloc (Nat.le_refl _) _).alloc (by simp) _).alloc (by simp; omega) _).alloc (by simp; omega) _⟩

set_option maxRecDepth 100000 in
set_option maxHeartbeats 1000000 in
theorem of_5 (w : World) : Calls Tryd.prog 29 #[.int .i64 5] w (OfPost 5 w) := by
  have a0 : (actCells (w.heap.size + 1))[12]? = some (.string ⟨#[110, 111, 116, 105, 102, 121]⟩) := rfl
  have a1 : (actCells (w.heap.size + 1))[13]? = some (.int .u32 2143289344) := rfl
  have a2 : (actCells (w.heap.size + 1))[14]? = some (.nilFunc) := rfl
  go_enter Tryd.func29, Tryd.ntmps29
  go_wp2_with (go_at_call 31; refine (rows_any _).mono ?_; rintro e w' ⟨rfl, rfl⟩)
  refine bodyPost_ret (v := .tuple #[.agg #[.string ⟨#[110, 111, 116, 105, 102, 121]⟩, .int .u32 2143289344, .nilFunc], .bool true]) (by simp [results, Tryd.results29, go_sem]) rfl ⟨.nilFunc, rfl, rfl, ((((Below.refl _ w).alloc (Nat.le_refl _) _).alloc (by simp) _).alloc (by simp; omega) _).alloc (by simp; omega) _⟩

set_option maxRecDepth 100000 in
set_option maxHeartbeats 1000000 in
theorem of_6 (w : World) : Calls Tryd.prog 29 #[.int .i64 6] w (OfPost 6 w) := by
  have a0 : (actCells (w.heap.size + 1))[15]? = some (.string ⟨#[116, 114, 97, 99, 101]⟩) := rfl
  have a1 : (actCells (w.heap.size + 1))[16]? = some (.int .u32 2146435072) := rfl
  have a2 : (actCells (w.heap.size + 1))[17]? = some (.func (.func 61) #[] #[.pointer (some ⟨w.heap.size + 1 + 1, 0, none⟩)]) := rfl
  go_enter Tryd.func29, Tryd.ntmps29
  go_wp2_with (go_at_call 31; refine (rows_any _).mono ?_; rintro e w' ⟨rfl, rfl⟩)
  refine bodyPost_ret (v := .tuple #[.agg #[.string ⟨#[116, 114, 97, 99, 101]⟩, .int .u32 2146435072, .func (.func 61) #[] #[.pointer (some ⟨w.heap.size + 1 + 1, 0, none⟩)]], .bool true]) (by simp [results, Tryd.results29, go_sem]) rfl ⟨.func (.func 61) #[] #[.pointer (some ⟨w.heap.size + 1 + 1, 0, none⟩)], rfl, ⟨w.heap.size + 1 + 1, rfl, by have := (Blk.new ((w.alloc (.cells #[.string ⟨#[116, 114, 97, 99, 101]⟩, .int .u32 2146435072, .func (.func 61) #[] #[.pointer (some ⟨w.heap.size + 1 + 1, 0, none⟩)]] 64)).alloc (.cells #[.int .i64 4096] 3)) 3 #[.int .i64 65536]).alloc (.cells (actCells (w.heap.size + 1)) 64); simp only [World.size_alloc] at this; exact this⟩, ((((Below.refl _ w).alloc (Nat.le_refl _) _).alloc (by simp) _).alloc (by simp; omega) _).alloc (by simp; omega) _⟩

set_option maxRecDepth 100000 in
set_option maxHeartbeats 1000000 in
theorem of_7 (w : World) : Calls Tryd.prog 29 #[.int .i64 7] w (OfPost 7 w) := by
  have a0 : (actCells (w.heap.size + 1))[18]? = some (.string ⟨#[108, 111, 103]⟩) := rfl
  have a1 : (actCells (w.heap.size + 1))[19]? = some (.int .u32 2147221504) := rfl
  have a2 : (actCells (w.heap.size + 1))[20]? = some (.nilFunc) := rfl
  go_enter Tryd.func29, Tryd.ntmps29
  go_wp2_with (go_at_call 31; refine (rows_any _).mono ?_; rintro e w' ⟨rfl, rfl⟩)
  refine bodyPost_ret (v := .tuple #[.agg #[.string ⟨#[108, 111, 103]⟩, .int .u32 2147221504, .nilFunc], .bool true]) (by simp [results, Tryd.results29, go_sem]) rfl ⟨.nilFunc, rfl, rfl, ((((Below.refl _ w).alloc (Nat.le_refl _) _).alloc (by simp) _).alloc (by simp; omega) _).alloc (by simp; omega) _⟩

set_option maxRecDepth 100000 in
set_option maxHeartbeats 1000000 in
theorem of_8 (w : World) : Calls Tryd.prog 29 #[.int .i64 8] w (OfPost 8 w) := by
  have a0 : (actCells (w.heap.size + 1))[21]? = some (.string ⟨#[97, 108, 108, 111, 119]⟩) := rfl
  have a1 : (actCells (w.heap.size + 1))[22]? = some (.int .u32 2147418112) := rfl
  have a2 : (actCells (w.heap.size + 1))[23]? = some (.nilFunc) := rfl
  go_enter Tryd.func29, Tryd.ntmps29
  go_wp2_with (go_at_call 31; refine (rows_any _).mono ?_; rintro e w' ⟨rfl, rfl⟩)
  refine bodyPost_ret (v := .tuple #[.agg #[.string ⟨#[97, 108, 108, 111, 119]⟩, .int .u32 2147418112, .nilFunc], .bool true]) (by simp [results, Tryd.results29, go_sem]) rfl ⟨.nilFunc, rfl, rfl, ((((Below.refl _ w).alloc (Nat.le_refl _) _).alloc (by simp) _).alloc (by simp; omega) _).alloc (by simp; omega) _⟩
end Go.Proofs.YtkgmbogmeppmcaaDoor
