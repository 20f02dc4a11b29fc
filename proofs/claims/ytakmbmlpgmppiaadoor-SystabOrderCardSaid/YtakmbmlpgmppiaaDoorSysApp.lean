/- Rows appended: what an append of rows asks. -/
import Derived.Test.YtakmbmlpgmppiaaDoorSysLess
import Derived.Deep.AppendLies
import Derived.Deep.RegionHeldLaw
import Derived.Lib.SlBytesRow
namespace Go.Proofs.YtakmbmlpgmppiaaDoor
open Go Go.Proofs Go.RowKit

/-- At a step of a region that draws: an append to a row of the call's own; what is appended may be nothing. -/
theorem step_append_at {P : Program} (w : World) {ops : Array Oper} {o : Oper} {a : Act} {K : Act → World → Prop} {Q : Exit → Act → World → Prop} {E : Prop} (hgd : o.guard = none) (s x : Operand) (t : TypeId)
    (ho : o.op = .call { callee := .builtin .append, args := #[s, x], argTypes := #[t, t] })
    (base : Nat) (e : TypeId) (i : TypeInfo) (z : Value) (size bytes : Nat) (ht : P.underlying t = some (.slice e)) (hi : P.info? e = some i) (hz : i.zero = some z)
    (hsize : i.size = size) (hby : i.bytes = bytes) (hzs : z.cells.size = size) (hsz : 0 < size)
    (v : Value) (n : Nat) (xs : List Value) (hs : a.eval s = v) (hown : w.ownsRow base e size v n xs)
    (ad : Addr) (m c : Nat) (news : List Value) (hx : a.eval x = .slice (some ad) m c) (hl : news.length = m * size) (hnews : ∀ j u, news[j]? = some u → w.cell? (ad.add j) = some u) (h1 : ∀ u ∈ news, u.oneCell' = true)
    (h63 : n + m ≤ maxLen) (hbytes : (n + m) * bytes ≤ 140737488355328) (hbase : base ≤ w.heap.size)
    (h : ∀ v' w', w'.ownsRow base e size v' (n + m) (xs ++ news) → w.grownBy w' v.ownBlock → K (a.put o.dst v') w') :
    if Region.wanted o (yielded ops a.tmps) = true then Oper.wp P o a w K Q else E := by
  have hw : Region.wanted o (yielded ops a.tmps) = true := by simp [Region.wanted, hgd]
  rw [if_pos hw]
  obtain ⟨v', w', hr, h2, h3, _, _⟩ := run_append_own_at (P := P) w base t o.type e i z size bytes ht hi hz hsize hby hzs hsz v n xs hown ad m c news hl hnews h1 h63 hbytes hbase
  unfold Oper.wp execOp
  simp only [ho, resolve, invoke, builtin, Sem.run_bind, Sem.run_pure, Result.andThen_ok, List.map_toArray, List.map_cons, List.map_nil, hs, hx, hr]
  exact h v' w' h2 h3

theorem own_none (W : World) (base : Nat) (e : TypeId) (size : Nat) (hb : base ≤ W.heap.size) : (W.alloc (.cells #[] e)).ownsRow base e size (.slice (some ⟨W.heap.size, 0, none⟩) 0 0) 0 [] :=
  ⟨by simp, .inr ⟨W.heap.size, 0, #[], rfl, hb, World.alloc_heap_new W _, Nat.le_refl _, Nat.zero_le _, by simp, by simp⟩⟩
theorem flat_at {W : World} {b off : Nat} {l : List SRow} (h : RowsAt W b off l) : ∀ j u, (flat l)[j]? = some u → W.cell? ((⟨b, off, none⟩ : Addr).add j) = some u := by
  intro j u hu
  have hj : j < l.length * 8 := by rw [← flat_len]; exact (List.getElem?_eq_some_iff.1 hu).1
  have e : j / 8 * 8 + j % 8 = j := by omega
  rw [← e, flat_get l (j / 8) (by omega) (j % 8) (by omega)] at hu
  have := h (j / 8) (by omega) (j % 8) u hu
  rw [Addr.add_lit]
  rw [Nat.add_assoc, e] at this
  exact this
theorem rows_take {W : World} {b off : Nat} {l : List SRow} (h : RowsAt W b off l) (k : Nat) (hk : k ≤ l.length) : RowsAt W b off (l.take k) := by
  intro j hj i v hv
  have hj' : j < k := by simp at hj; omega
  refine h j (by omega) i v ?_
  rw [← hv, getElem!_pos l j (by omega), getElem!_pos (l.take k) j hj]
  simp
theorem rows_drop {W : World} {b off : Nat} {l : List SRow} (h : RowsAt W b off l) (k : Nat) : RowsAt W b (off + k * 8) (l.drop k) := by
  intro j hj i v hv
  have hj' : k + j < l.length := by simp at hj; omega
  have := h (k + j) hj' i v (by
    rw [← hv, getElem!_pos l (k + j) hj', getElem!_pos (l.drop k) j hj]
    simp)
  rw [show off + k * 8 + j * 8 + i = off + (k + j) * 8 + i by omega]
  exact this
theorem size8 : ∀ w, (Go.sizeOf 36).run Tryd.prog w = .ok 8 w := fun _ => by kernel_rfl
theorem slice_take (W : World) (g n cp k : Nat) (hk : k ≤ cp) : (Instr.slice 27 (.slice (some ⟨g, 0, none⟩) n cp) none (some (.int .i64 (k : Int))) none).run Tryd.prog W = .ok (.slice (some ⟨g, 0, none⟩) k cp) W := by
  have ht' : Tryd.prog.underlying 27 = some (.slice (Tryd.prog.elem 27)) := by simp [Program.elem, Tryd.underlying27]
  have he : Tryd.prog.elem 27 = 36 := by simp [Program.elem, Tryd.underlying27]
  rw [run_slice_h W _ _ _ _ ht' .i64 _ (by omega) (by omega), he, size8]
  simp [Result.andThen, sliced, Addr.add]
theorem slice_drop (g n cp k : Nat) (hk : k < n) (hn : n ≤ cp) : ∃ o, (∀ W, (Instr.slice 27 (.slice (some ⟨g, 0, none⟩) n cp) (some (.int .i64 ((k : Int) + 1))) none none).run Tryd.prog W = .ok (.slice (some ⟨g, o, none⟩) (n - (k + 1)) (cp - (k + 1))) W) ∧ (k + 1 < n → o = (k + 1) * 8) := by
  have ht' : Tryd.prog.underlying 27 = some (.slice (Tryd.prog.elem 27)) := by simp [Program.elem, Tryd.underlying27]
  have he : Tryd.prog.elem 27 = 36 := by simp [Program.elem, Tryd.underlying27]
  by_cases h : cp = k + 1
  · refine ⟨0, fun W => ?_, fun h' => by omega⟩
    rw [run_slice_l W _ _ _ _ ht' .i64 _ (by omega) (by omega), he, size8]
    have e : ((k : Int) + 1).toNat = k + 1 := by omega
    simp [Result.andThen, sliced, h, e]
  · refine ⟨(k + 1) * 8, fun W => ?_, fun _ => rfl⟩
    rw [run_slice_l W _ _ _ _ ht' .i64 _ (by omega) (by omega), he, size8]
    have e : ((k : Int) + 1).toNat = k + 1 := by omega
    simp [Result.andThen, sliced, Addr.add, h, e]
end Go.Proofs.YtakmbmlpgmppiaaDoor
