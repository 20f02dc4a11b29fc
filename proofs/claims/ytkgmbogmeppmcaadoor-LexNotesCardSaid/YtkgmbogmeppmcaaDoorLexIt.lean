/- The iterator over a text's lines: its contract, for every loop body. -/
import Derived.Test.YtkgmbogmeppmcaaDoorSplit
import Derived.Deep.QuietTactic
import Derived.BigQuiet
namespace Go.Proofs.YtkgmbogmeppmcaaDoor
open Go Go.Proofs Go.RowKit Go.Shelf
attribute [local go_sem] Oper.semAt_some

/-- A line's number and its text ahead of the note. -/
def numPieces : Nat → List ByteArray → List (Nat × ByteArray)
  | _, [] => []
  | n, p :: r => (n, ⟨(unNoted p.data.toList).toArray⟩) :: numPieces (n + 1) r
theorem numPieces_snoc : ∀ (l : List ByteArray) (n : Nat) (p : ByteArray), numPieces n (l ++ [p]) = numPieces n l ++ [(n + l.length, ⟨(unNoted p.data.toList).toArray⟩)]
  | [], n, p => rfl
  | q :: l, n, p => by
    show (n, _) :: numPieces (n + 1) (l ++ [p]) = (n, _) :: (numPieces (n + 1) l ++ _)
    rw [numPieces_snoc l (n + 1) p, List.length_cons, show n + 1 + l.length = n + (l.length + 1) by omega]
theorem numPieces_prefix {l l' : List ByteArray} (n : Nat) (h : l <+: l') : numPieces n l <+: numPieces n l' := by
  obtain ⟨r, rfl⟩ := h
  have : ∀ (l : List ByteArray) (n : Nat), ∃ q, numPieces n (l ++ r) = numPieces n l ++ q := by
    intro l
    induction l with
    | nil => exact fun n => ⟨_, rfl⟩
    | cons p l ih =>
      intro n
      obtain ⟨q, hq⟩ := ih (n + 1)
      exact ⟨q, by show (n, _) :: numPieces (n + 1) (l ++ r) = _; rw [hq]; rfl⟩
  obtain ⟨q, hq⟩ := this l n
  exact ⟨q, hq.symm⟩

theorem pieces_count : ∀ l : List UInt8, (pieces l).length ≤ l.length + 1
  | [] => by simp [pieces]
  | c :: r => by
    have := pieces_count r
    unfold pieces
    split
    · simpa using this
    · split
      · simp
      · rename_i h
        rw [h] at this
        simp at this ⊢
        omega
theorem pieces_mem : ∀ (l p : List UInt8), p ∈ pieces l → p.length ≤ l.length
  | [], p, h => by simp [pieces] at h; simp [h]
  | c :: r, p, h => by
    unfold pieces at h
    split at h
    · rcases List.mem_cons.1 h with rfl | h
      · simp
      · have := pieces_mem r p h; simp; omega
    · split at h
      · simp at h; simp [h]
      · rename_i h' t he
        rcases List.mem_cons.1 h with rfl | h
        · have := pieces_mem r h' (by rw [he]; simp); simp; omega
        · have := pieces_mem r p (by rw [he]; simp [h]); simp; omega
theorem pieces_size {t x : ByteArray} (h : x ∈ piecesB t) : x.size ≤ t.size := by
  unfold piecesB at h
  obtain ⟨p, hp, rfl⟩ := List.mem_map.1 h
  have := pieces_mem _ p hp
  rw [Array.length_toList] at this
  show p.toArray.size ≤ t.size
  rw [List.size_toArray]
  exact this
theorem pieces_len (t : ByteArray) : (piecesB t).length ≤ t.size + 1 := by
  unfold piecesB
  rw [List.length_map]
  have := pieces_count t.data.toList
  rw [Array.length_toList] at this
  exact this

theorem roundAny {m m' l : Nat} (l' : Nat) {P : Program} {f : FuncId} {tmps : Array Value} {assign body : Code} {w : World} {R : Ending → World → Prop} (h : RoundIn Fence.wide m P l f tmps assign body w R) :
    RoundIn (Fence.wide.inRound l') m' P l f tmps assign body w R := ⟨h.1, fun c cs _ => h.2 c cs (room_wide _)⟩

set_option maxRecDepth 100000 in
theorem split_any (t s : ByteArray) (w : World) :
    Calls Tryd.prog 63 #[.string t, .string s, .int .i64 0] w fun e w' => e = .returned (.func (.func 83) #[] #[.pointer (some ⟨w.heap.size + 1, 0, none⟩), .pointer (some ⟨w.heap.size, 0, none⟩), .pointer (some ⟨w.heap.size + 2, 0, none⟩)]) ∧
      ((w.alloc (.cells #[.string t] 9)).alloc (.cells #[.string s] 9)).alloc (.cells #[.int .i64 0] 3) = w' := by
  go_enter Tryd.func63, Tryd.ntmps63
  go_wp2
  go_ret
  exact ⟨rfl, rfl⟩
set_option maxRecDepth 100000 in
theorem splitSeq_any (t s : ByteArray) (w : World) :
    Calls Tryd.prog 54 #[.string t, .string s] w fun e w' => e = .returned (.func (.func 83) #[] #[.pointer (some ⟨w.heap.size + 1, 0, none⟩), .pointer (some ⟨w.heap.size, 0, none⟩), .pointer (some ⟨w.heap.size + 2, 0, none⟩)]) ∧
      ((w.alloc (.cells #[.string t] 9)).alloc (.cells #[.string s] 9)).alloc (.cells #[.int .i64 0] 3) = w' := by
  go_enter Tryd.func54, Tryd.ntmps54
  go_wp2_with (go_at_call 63; refine (split_any _ _ _).mono ?_; rintro e w' ⟨rfl, rfl⟩)
  go_ret
  exact ⟨rfl, rfl⟩

set_option maxRecDepth 100000 in
set_option maxHeartbeats 1000000 in
/-- strings.Cut at one byte. -/
theorem cutL_any (t : ByteArray) (b : UInt8) (ht : t.size ≤ 1000000) (w : World) :
    Calls Tryd.prog 64 #[.string t, .string ⟨#[b]⟩] w fun e w' => ∃ x y, e = .returned (.tuple #[.string ⟨(Lib.cut t.data.toList [b]).1.toArray⟩, .string x, .bool y]) ∧ ∃ n, w' = w.drewN n := by
  rcases index_sep t b with ⟨a, r, hr1, hr2, hix⟩ | ⟨hno, hix⟩
  · have hc : (Lib.cut t.data.toList [b]).1 = a := by
      unfold Lib.cut
      rw [hr1, index_one_at a r b hr2, if_pos (by omega)]
      simp
    have e1 := extract_head hr1
    have e2 := extract_tail hr1
    obtain ⟨fr, hfr⟩ : ∃ fr : ByteArray, fr = ⟨a.toArray⟩ := ⟨_, rfl⟩
    obtain ⟨rest, hrest⟩ : ∃ rest : ByteArray, rest = ⟨r.toArray⟩ := ⟨_, rfl⟩
    have hsz : t.size = a.length + 1 + r.length := by
      have := congrArg List.length hr1
      rw [Array.length_toList] at this
      have e : t.data.size = t.size := rfl
      rw [e] at this
      rw [this]
      simp
      omega
    rw [hc]
    rw [← hfr] at e1 ⊢
    rw [← hrest] at e2
    obtain ⟨k, hk⟩ : ∃ k, a.length = k := ⟨_, rfl⟩
    rw [hk] at hix hsz e1 e2
    have Hix := Lib.hid hix
    have k0 : (0 : Int) ≤ (k : Int) := by omega
    have k1 : (k : Int) ≤ (t.size : Int) := by omega
    have k2 : (k : Int) + 1 ≤ (t.size : Int) := by omega
    clear hix hc hr1 hr2 hfr hrest hk hsz
    go_enter Tryd.func64, Tryd.ntmps64
    go_wp2_with fail
    refine (Any.stringslite_Index_one Tryd.lays219 t b _).mono ?_
    rintro e w1 ⟨rfl, rfl⟩
    rw [Hix.out]
    go_wp2
    go_quiet (fail)
    go_wp2
    go_ret3
    exact ⟨_, _, rfl, _, rfl⟩
  · have hc : (Lib.cut t.data.toList [b]).1 = t.data.toList := by
      unfold Lib.cut
      rw [index_one_none _ _ hno, if_neg (by omega)]
    have e1 : (⟨t.data.toList.toArray⟩ : ByteArray) = t := by simp
    rw [hc, e1]
    have Hix := Lib.hid hix
    clear hix hc e1
    go_enter Tryd.func64, Tryd.ntmps64
    go_wp2_with fail
    refine (Any.stringslite_Index_one Tryd.lays219 t b _).mono ?_
    rintro e w1 ⟨rfl, rfl⟩
    rw [Hix.out]
    go_wp2
    go_ret3
    exact ⟨_, _, rfl, 0, rfl⟩
set_option maxRecDepth 100000 in
set_option maxHeartbeats 1000000 in
theorem cut_any (t : ByteArray) (b : UInt8) (ht : t.size ≤ 1000000) (w : World) :
    Calls Tryd.prog 55 #[.string t, .string ⟨#[b]⟩] w fun e w' => ∃ x y, e = .returned (.tuple #[.string ⟨(Lib.cut t.data.toList [b]).1.toArray⟩, .string x, .bool y]) ∧ ∃ n, w' = w.drewN n := by
  have hc := cutL_any t b ht
  generalize (⟨(Lib.cut t.data.toList [b]).1.toArray⟩ : ByteArray) = c at hc ⊢
  go_enter Tryd.func55, Tryd.ntmps55
  go_wp2_with fail
  refine (hc _).mono ?_
  rintro e w1 ⟨x, y, rfl, n, rfl⟩
  go_wp2
  go_ret3
  exact ⟨_, _, rfl, _, rfl⟩

set_option maxRecDepth 100000 in
theorem lines_any (t : ByteArray) (w : World) :
    Calls Tryd.prog 39 #[.string t] w fun e w' => e = .returned (.func (.func 53) #[] #[.pointer (some ⟨w.heap.size, 0, none⟩)]) ∧ w.alloc (.cells #[.string t] 9) = w' := by
  go_enter Tryd.func39, Tryd.ntmps39
  go_wp2
  go_ret
  exact ⟨rfl, rfl⟩

set_option maxRecDepth 100000 in
set_option maxHeartbeats 2000000 in
theorem lines1_in (n : Nat) (hn : 6 ≤ n) (t : ByteArray) (hts : t.size ≤ 1000000) (Bt : Nat) (w : World) (hbt : Blk w Bt 9 #[.string t]) :
    SeqStopsR Fence.wide n Tryd.prog 53 #[.pointer (some ⟨Bt, 0, none⟩)] (fun x : Nat × ByteArray => #[.int .i64 x.1, .string x.2]) (fun h r => h ≤ r ∧ r < h + 7) (fun h r => h ≤ r ∧ r < h + 7) 7
      (fun xs => xs = numPieces 1 (piecesB t)) (fun pre => pre <+: numPieces 1 (piecesB t)) w := fun l J Jx W hW hJ hJx hY h0 => by
  refine callsIn_of_wp_marks Tryd.func53 rfl trivial ?_ rfl
  simp only [Tryd.ntmps53, List.size_toArray, List.length_cons, List.length_nil, Nat.reduceAdd, Nat.reduceSub, Array.replicate_succ, Array.replicate_zero, List.push_toArray, List.append_toArray, List.nil_append, List.cons_append]
  have hbw := hbt.below hW hbt.lt
  have ct := hbw.cell 0
  have hBt : Bt < W.heap.size := hbw.lt
  simp only [List.getElem?_toArray, List.getElem?_cons_zero] at ct
  have HJ := Lib.hid hJ
  have HJx := Lib.hid hJx
  have HY := Lib.hid hY
  have H0 := Lib.hid h0
  have hj0 : Hid (J [] (((((W.alloc (.cells #[.func (.yield l) #[] #[]] 94)).alloc (.cells #[.int .i64 0] 3)).alloc (.cells #[.string t] 9)).alloc (.cells #[.string ⟨#[10]⟩] 9)).alloc (.cells #[.int .i64 0] 3))) := hJ.alloc _ (hJ.alloc _ (hJ.alloc _ (hJ.alloc _ (hJ.alloc _ h0))))
  clear hJ hJx hY hW h0 hbt hbw
  gi_wp2_with fail
  refine ⟨trivial, fun h => (by cases h), ?_⟩
  refine (callsIn_wide.2 (splitSeq_any t ⟨#[10]⟩ _)).mono ?_
  rintro e w1 ⟨rfl, rfl⟩
  gi_wp2
  have b0 := ((((Blk.new W 94 #[.func (.yield l) #[] #[]]).alloc (.cells #[.int .i64 0] 3)).alloc (.cells #[.string t] 9)).alloc (.cells #[.string ⟨#[10]⟩] 9)).alloc (.cells #[.int .i64 0] 3)
  have b1 := (((Blk.new (W.alloc (.cells #[.func (.yield l) #[] #[]] 94)) 3 #[.int .i64 0]).alloc (.cells #[.string t] 9)).alloc (.cells #[.string ⟨#[10]⟩] 9)).alloc (.cells #[.int .i64 0] 3)
  have b2 := ((Blk.new ((W.alloc (.cells #[.func (.yield l) #[] #[]] 94)).alloc (.cells #[.int .i64 0] 3)) 9 #[.string t]).alloc (.cells #[.string ⟨#[10]⟩] 9)).alloc (.cells #[.int .i64 0] 3)
  have b3 := (Blk.new (((W.alloc (.cells #[.func (.yield l) #[] #[]] 94)).alloc (.cells #[.int .i64 0] 3)).alloc (.cells #[.string t] 9)) 9 #[.string ⟨#[10]⟩]).alloc (.cells #[.int .i64 0] 3)
  have b4 := Blk.new ((((W.alloc (.cells #[.func (.yield l) #[] #[]] 94)).alloc (.cells #[.int .i64 0] 3)).alloc (.cells #[.string t] 9)).alloc (.cells #[.string ⟨#[10]⟩] 9)) 3 #[.int .i64 0]
  have hsz : (((((W.alloc (.cells #[.func (.yield l) #[] #[]] 94)).alloc (.cells #[.int .i64 0] 3)).alloc (.cells #[.string t] 9)).alloc (.cells #[.string ⟨#[10]⟩] 9)).alloc (.cells #[.int .i64 0] 3)).heap.size = W.heap.size + 5 := by simp
  simp only [World.size_alloc] at b1 b2 b3 b4
  generalize (((((W.alloc (.cells #[.func (.yield l) #[] #[]] 94)).alloc (.cells #[.int .i64 0] 3)).alloc (.cells #[.string t] 9)).alloc (.cells #[.string ⟨#[10]⟩] 9)).alloc (.cells #[.int .i64 0] 3)) = W0 at *
  generalize W.heap.size = h at *
  refine wpIn_rangeFunc_ownR (F := Fence.wide) rfl (by omega) (gf := 83) (lb := #[.pointer (some ⟨h + 1 + 1 + 1, 0, none⟩), .pointer (some ⟨h + 1 + 1, 0, none⟩), .pointer (some ⟨h + 1 + 1 + 1 + 1, 0, none⟩)]) rfl trivial (enters_of Tryd.func83 (by kernel_rfl) rfl)
    (split1_in (n - 1) (by omega) t hts (h + 1 + 1 + 1) (h + 1 + 1) (h + 1 + 1 + 1 + 1) W0 b3 b2 b4 (by omega) (by omega)) (fun r e => by omega) (fun r e => by omega) (Below.refl _ _) (fun _ => rfl)
    (fun pre W' => (J (numPieces 1 pre) W' ∧ Blk W' h 94 #[.func (.yield l) #[] #[]]) ∧ Blk W' (h + 1) 3 #[.int .i64 (pre.length : Int)])
    (fun c pre W' => c = .ret ∧ Jx (numPieces 1 pre) W')
    (AbidesR.and (AbidesR.and (fun s A B row hs hg hr => HJ.out (numPieces 1 s) A B row hs hg (fun r e => by have := hr r e; omega)) (abidesR_block (fun hc => by rcases hc with hc | hc <;> omega) (fun _ => .cells #[.func (.yield l) #[] #[]] 94 (0, 0)))) (abidesR_block (fun hc => by rcases hc with hc | hc <;> omega) (fun s : List ByteArray => .cells #[.int .i64 (s.length : Int)] 3 (0, 0))))
    (fun c => AbidesR.and (abidesR_pure _ _) (fun s A B row hs hg hr => HJx.out (numPieces 1 s) A B row hs hg (fun r e => by have := hr r e; omega)))
    ⟨⟨hj0.out, b0⟩, b1⟩
    (fun x a' _ => a' = { tmps := #[.func (.yield l) #[] #[], .pointer (some ⟨Bt, 0, none⟩), .pointer (some ⟨h, 0, none⟩), .pointer (some ⟨h + 1, 0, none⟩), .string x, .string t, .func (.func 83) #[] #[.pointer (some ⟨h + 1 + 1 + 1, 0, none⟩), .pointer (some ⟨h + 1 + 1, 0, none⟩), .pointer (some ⟨h + 1 + 1 + 1 + 1, 0, none⟩)], .string x, undef, undef, undef, undef, undef, undef, undef, undef, undef, undef, undef, undef, undef], defers := [] })
    (fun x a' => abidesR_pure _ _) ?assign ?body ?done ?stop
  case assign =>
    rintro l' pre x W' K hi _ hs' hK
    gi_wp2
    exact hK _ _ (KeepsAt.refl _ _) hi rfl
  case body =>
    rintro l' pre x a' W' hs' hsp ⟨⟨hj, c0⟩, c1⟩ rfl
    have hxs := pieces_size (hsp.subset (show x ∈ pre ++ [x] by simp))
    have hpl := hsp.length_le
    rw [List.length_append, List.length_singleton] at hpl
    have hpl2 := pieces_len t
    have HC := Lib.hid (cut_any x 35 (by omega))
    have hcn := cut_note x.data.toList
    rw [hcn] at HC
    have k1 := c1.cell 0
    have f1 := c1.frozen 0
    simp only [List.getElem?_toArray, List.getElem?_cons_zero] at k1
    have kb : (pre.length : Int) + 1 ≤ 1000001 := by omega
    have kb0 : (0 : Int) ≤ (pre.length : Int) := by omega
    obtain ⟨y, hy⟩ : ∃ y : ByteArray, (⟨(unNoted x.data.toList).toArray⟩ : ByteArray) = y := ⟨_, rfl⟩
    rw [hy] at HC
    have hn1 : numPieces 1 (pre ++ [x]) = numPieces 1 pre ++ [(pre.length + 1, y)] := by rw [numPieces_snoc, hy, Nat.add_comm]
    have hsp2 : numPieces 1 pre ++ [(pre.length + 1, y)] <+: numPieces 1 (piecesB t) := by rw [← hn1]; exact numPieces_prefix 1 hsp
    have HN1 := Lib.hid hn1
    have HSP2 := Lib.hid hsp2
    have HC0 := Lib.hid c0
    have HC1 := Lib.hid c1
    have Hj := Lib.hid hj
    have Hs' := Lib.hid hs'
    have HYl := Lib.hid (HY.out (numPieces 1 pre) (pre.length + 1, y))
    clear hcn hy hn1 hsp2 c0 c1 hj hs' hxs hpl hpl2 hsp
    gi_wp2_with fail
    refine ⟨trivial, fun h => (by cases h), ?_⟩
    refine (CallsIn.inRound l' (callsIn_wide.2 (HC.out _))).mono ?_
    rintro e w1 ⟨u, v, rfl, q, rfl⟩
    obtain ⟨W2, hW2⟩ : ∃ W2, (W'.setCell ⟨h + 1, 0, none⟩ (.int .i64 ((pre.length : Int) + 1))).drewN q = W2 := ⟨_, rfl⟩
    have d0 : Blk W2 h 94 #[.func (.yield l) #[] #[]] := by rw [← hW2]; exact HC0.out.other (by omega) 0 _
    have d1 : Blk W2 (h + 1) 3 #[.int .i64 ((pre.length : Int) + 1)] := by rw [← hW2]; exact HC1.out.set 0 _
    have hj2 : J (numPieces 1 pre) W2 := by
      rw [← hW2]
      exact HJ.out _ _ _ none (HJ.out.set (h + 1) 0 _ (by omega) Hj.out) ⟨rfl, rfl, rfl, Nat.le_refl _, fun _ _ _ => rfl⟩ (fun r e => by cases e)
    have hk2 : KeepsAt (roundKeeps (fun _ r => r = h + 1 + 1 + 1 ∨ r = h + 1 + 1 ∨ r = h + 1 + 1 + 1 + 1) W0.heap.size) W' W2 := by
      rw [← hW2]
      refine ⟨(KeepsOthers.setCell W' ⟨h + 1, 0, none⟩ _).size, fun k _ hk => ?_⟩
      exact Below.heap_setCell W' ⟨h + 1, 0, none⟩ _ k (by show k ≠ h + 1; rcases hk with hk | hk | hk | hk | hk <;> omega)
    have hs2 : h + 7 ≤ W2.heap.size := Nat.le_trans (by have := Hs'.out; omega) hk2.1
    rw [hW2]
    obtain ⟨fn, tmps, assign, body, hy, hR⟩ := HYl.out W2 hj2 HSP2.out hs2
    have e1 : ((pre.length + 1 : Nat) : Int) = (pre.length : Int) + 1 := by omega
    rw [e1] at hy
    have HR := Lib.hid hR
    have HD0 := Lib.hid d0
    have HD1 := Lib.hid d1
    have HK2 := Lib.hid hk2
    have z0 := d0.cell 0
    have z1 := d1.cell 0
    simp only [List.getElem?_toArray, List.getElem?_cons_zero] at z0 z1
    clear e1 hR d0 d1 hj2 hk2 hW2 HC0 HC1 Hj HC HYl k1 f1 hj0 b0 b1 b2 b3 b4
    gi_wp2
    refine ⟨fun h => (by cases h), ?_⟩
    refine (roundAny l' HR.out).mono ?_
    have hsub : ∀ r, roundKeeps (fun _ r => r = h + 1 + 1 + 1 ∨ r = h + 1 + 1 ∨ r = h + 1 + 1 + 1 + 1) W0.heap.size r → h ≤ r ∧ r < h + 7 := fun r hk => by rcases hk with hk | hk | hk | hk | hk <;> omega
    rintro e W3 ⟨hk3, ⟨rfl, hJ3⟩ | ⟨rfl, hJx3⟩⟩
    · gi_wp2
      refine ⟨HK2.out.trans (hk3.imp fun r _ hr => hsub r hr), ⟨by rw [HN1.out]; exact hJ3, (hk3.2 h HD0.out.lt (by omega)).trans HD0.out⟩, ?_⟩
      have := (hk3.2 (h + 1) HD1.out.lt (by omega)).trans HD1.out
      show W3.heap[h + 1]? = _
      rw [this, List.length_append, List.length_singleton]
      rfl
    · gi_wp2
      exact ⟨HK2.out.trans (hk3.imp fun r _ hr => hsub r hr), rfl, by rw [HN1.out]; exact hJx3⟩
  case done =>
    rintro xs W' rfl ⟨⟨hj, c0⟩, c1⟩ hK
    have hj' := HJ.out _ _ _ (some W0.heap.size) hj (grownBy_putObj' W' W0.heap.size (.deferred none)) (fun r e => by cases e; omega)
    gi_wp2
    refine ⟨by simp, .inl ⟨_, _, rfl, run_takeDeferred hK, ?_⟩⟩
    exact ⟨_, results_none rfl _ _ _, ⟨_, rfl⟩, .inl ⟨_, rfl, hj'⟩⟩
  case stop =>
    rintro c pre W' hS ⟨rfl, hj⟩ hK
    have hj' := HJx.out _ _ _ (some W0.heap.size) hj (grownBy_putObj' W' W0.heap.size (.deferred none)) (fun r e => by cases e; omega)
    gi_wp2
    refine ⟨by simp, .inl ⟨_, _, rfl, run_takeDeferred hK, ?_⟩⟩
    exact ⟨_, results_none rfl _ _ _, ⟨_, rfl⟩, .inr ⟨_, numPieces_prefix 1 hS, hj'⟩⟩
end Go.Proofs.YtkgmbogmeppmcaaDoor
