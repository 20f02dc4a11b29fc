/- strainerlaw14.PolicyNotes: the walk. -/
import Derived.Deep.LoopGhost
import Derived.Test.YtmjipkdejggbfaaGreatDoorQPolBackW
import Derived.Test.YtmjipkdejggbfaaGreatDoorQPolNotesP
namespace Go.Proofs.YtmjipkdejggbfaaGreatDoor
open Go Go.Proofs Go.RowKit

theorem notedL_rough (note : List UInt8) (hn : note.length ≤ 30) (l : List UInt8) : (notedL note l).length ≤ 38 * l.length := by
  have h1 := notedL_len note hn l
  have h2 : l.count 10 ≤ l.length := List.count_le_length
  omega
set_option maxRecDepth 100000 in
set_option maxHeartbeats 16000000 in
theorem polnotes_law {p : PSt} {v : Value} (note : ByteArray) (w : World) (hE : CondP.ErrV w) (hp : ActP.Pow10 w) (h : RulesI w.heap.size w v p.rules) (hn : PolN p) :
    Calls Tryz.prog 6 #[PolV p.k p.n p.x v, .string note] w fun e w' => e = .returned (.bool true) ∧ Below w.heap.size w w' := by
  obtain ⟨va, vc, rfl, _⟩ := id h
  have hX := Blk.new w TPr #[.int .i64 p.k, .int .i64 p.n, .bool p.x, .slice va p.rules.length vc]
  have HB := Lib.hid ((Below.refl w.heap.size w).alloc (Nat.le_refl _) (.cells #[.int .i64 p.k, .int .i64 p.n, .bool p.x, .slice va p.rules.length vc] TPr))
  have HX := Lib.hid hX
  have HLT := Lib.hid (fun W (hb : Below w.heap.size w W) => light_any (k := p.k) (n := p.n) (x := p.x) W hb.size (h.below hb (Nat.le_refl _)))
  by_cases hl : LightP p.rules
  case neg =>
    have HNL := Lib.hid hl
    unfold PolV at *
    generalize p.k = k at *
    generalize p.n = n at *
    generalize p.x = x at *
    generalize p.rules.length = L at *
    clear h hn hl hX
    go_enter Tryz.func6, Tryz.ntmps6
    go_wp2_with fail
    refine (HLT.out _ HB.out).mono ?_
    rintro e w1 ⟨b1, rfl, hb1, hc1⟩
    obtain rfl : b1 = false := by cases b1 with | false => rfl | true => exact absurd (hb1.1 rfl) HNL.out
    have HB1 := belP HB hc1
    clear hb1 hc1 HB
    go_wp2
    go_ret
    exact ⟨rfl, HB1.out⟩
  have HL := Lib.hid hl
  by_cases hbig : 30 < note.size
  · have hbz : (30 : Int) < (note.size : Int) := by omega
    unfold PolV at *
    generalize p.k = k at *
    generalize p.n = n at *
    generalize p.x = x at *
    generalize p.rules.length = L at *
    clear h hn hl hX
    go_enter Tryz.func6, Tryz.ntmps6
    go_wp2_with fail
    refine (HLT.out _ HB.out).mono ?_
    rintro e w1 ⟨b1, rfl, hb1, hc1⟩
    obtain rfl : b1 = true := hb1.2 HL.out
    have HB1 := belP HB hc1
    clear hb1 hc1 HB
    go_wp2
    go_ret
    exact ⟨rfl, HB1.out⟩
  have hbz : ¬ (30 : Int) < (note.size : Int) := by omega
  have HNB : Hid (note.size ≤ 30) := by show _ ≤ _; omega
  have HOF : Hid (∀ W, Below w.heap.size w W → Calls Tryz.prog 14 #[.agg #[.int .i64 p.k, .int .i64 p.n, .bool p.x, .slice va p.rules.length vc]] W fun e w' => ∃ a c, e = .returned (.agg #[.int .i64 p.k, .int .i64 p.n, .bool p.x, .slice a p.rules.length c]) ∧ RulesR TRl TCd W.heap.size w' (.slice a p.rules.length c) p.rules ∧ Below W.heap.size W w') := fun W hb => by
    refine (ofI_any (k := p.k) (n := p.n) (x := p.x) hl.few.1 hl.few.2 W hb.size (h.below hb (Nat.le_refl _))).mono ?_
    rintro e w' ⟨vo, rfl, hr, hb'⟩
    obtain ⟨a, c, rfl⟩ := hr.slice
    exact ⟨a, c, rfl, hr, hb'⟩
  have HPR := Lib.hid (fun (W : World) (a : Option Addr) (c lo : Nat) hW hR => printI_any (a := a) (c := c) (lo := lo) hl hn W hW hR)
  have HTD := Lib.hid (fun (W : World) (a1 : Option Addr) (c1 lo : Nat) (hb : Below w.heap.size w W) h1 => toldSelf_any (a1 := a1) (a2 := va) (c1 := c1) (c2 := vc) (lo := lo) (N0 := w.heap.size) hl W hb.size h1 (h.below hb (Nat.le_refl _)))
  have HAW := Lib.hid (fun W hW => awake14_any W hW)
  have HE := Lib.hid hE
  have HP := Lib.hid hp
  -- what the text is, and what its noted one says
  obtain ⟨T, F, hPV, hTF⟩ : ∃ (T : ByteArray) (F : Int), printV p = .tuple #[.string T, .int .i64 F] ∧ ((F ≠ 0) ∨ (F = 0 ∧ T.size ≤ 20000 ∧ ((10 : UInt8) ∉ note.data.toList → ∀ s : ByteArray, s.data.toList = notedAll note.data.toList T.data.toList → polAns s = (p, 0, 0)))) := by
    cases hok : polOk p with
    | false => exact ⟨⟨#[]⟩, 13, printV_bad hok, .inl (by decide)⟩
    | true =>
      have hfit := light_fits hl hok hn
      refine ⟨⟨(polTx p).toArray⟩, 0, printV_ok hok (by omega), .inr ⟨rfl, by rw [toS]; exact hfit, fun hno s hs => ?_⟩⟩
      exact polAns_noted hok hn hfit hl.1 (by rw [size_list]; omega) hno hs
  rw [hPV] at HPR
  have HPP : Hid ((10 : UInt8) ∉ note.data.toList → ∀ s : ByteArray, F = 0 → s.data.toList = notedAll note.data.toList T.data.toList → ∀ W, CondP.ErrV W → Calls Tryz.prog 9 #[.string s] W fun e w' => ∃ a c, e = .returned (.tuple #[.agg #[.int .i64 p.k, .int .i64 p.n, .bool p.x, .slice a p.rules.length c], .int .i64 0, .int .i64 0]) ∧ RulesR TRl TCd W.heap.size w' (.slice a p.rules.length c) p.rules ∧ Below W.heap.size W w') := fun hno s hF hs W hW => by
    have hans := (hTF.resolve_left (fun e => e hF)).2.2 hno s hs
    have hpp := parse_any s W hW
    rw [hans] at hpp
    refine hpp.mono ?_
    rintro e w' ⟨v, rfl, h, hb⟩
    obtain ⟨a, c, rfl⟩ := h.slice
    exact ⟨a, c, rfl, h, hb⟩
  have HTF : Hid (F ≠ 0 ∨ (F = 0 ∧ T.size ≤ 20000)) := hTF.imp id (fun h => ⟨h.1, h.2.1⟩)
  unfold PolV at *
  generalize p.k = k at *
  generalize p.n = n at *
  generalize p.x = x at *
  generalize p.rules.length = L at *
  clear h hn hl hE hp hX hPV hTF hbig
  go_enter Tryz.func6, Tryz.ntmps6
  go_wp2_with fail
  refine (HLT.out _ HB.out).mono ?_
  rintro e w1 ⟨b1, rfl, hb1, hc1⟩
  obtain rfl : b1 = true := hb1.2 HL.out
  have HB1 := belP HB hc1
  have HX1 := blkHP HX hc1
  clear hb1 hc1 HB HX HLT
  go_upto_region 4 with fail
  go_loopg [5] (note.size + 1) (fun gg s5 wr => w1 = wr ∧ ∃ i : Nat, i ≤ note.size ∧ note.size - i < gg ∧ s5 = .int .i64 i ∧ Hid (∀ j (hj : j < note.size), j < i → note[j]'hj ≠ 10))
  case atStart => exact ⟨rfl, 0, Nat.zero_le _, by omega, rfl, (show Hid _ from fun j hj h => absurd h (Nat.not_lt_zero _))⟩
  case round =>
    obtain ⟨rfl, i, hi, hg, rfl, HA⟩ := hrel
    by_cases hlt : i < note.size
    · have hltz : (i : Int) < (note.size : Int) := by omega
      have hi0 : (0 : Int) ≤ (i : Int) := by omega
      by_cases h10 : note[i]'hlt = 10
      · have h10z : (((note[i]'hlt).toNat : Nat) : Int) = 10 := by rw [h10]; rfl
        clear h10
        go_wp2
        go_ret
        exact ⟨rfl, HB1.out⟩
      · have h10z : ¬ (((note[i]'hlt).toNat : Nat) : Int) = 10 := fun e => h10 (UInt8.toNat_inj.1 (by simpa using Int.ofNat.inj e))
        have HA2 : Hid (∀ j (hj : j < note.size), j < i + 1 → note[j]'hj ≠ 10) := fun j hj h => by
          by_cases e : j = i
          · subst e; exact h10
          · exact HA.out j hj (by omega)
        clear h10
        go_wp2
        go_roundg (note.size - i)
        case measure => omega
        case rel => exact ⟨rfl, i + 1, by omega, by omega, by go_num, HA2⟩
    · obtain rfl : i = note.size := by omega
      have hno : (10 : UInt8) ∉ note.data.toList := by
        intro hm
        obtain ⟨j, hj, hj2⟩ := List.mem_iff_getElem.1 hm
        rw [size_list] at hj
        exact HA.out j hj hj hj2
      have HPQ := Lib.hid (HPP.out hno)
      clear hno HA HPP
      have x0 := HX1.out.cell 0
      have x1 := HX1.out.cell 1
      have x2 := HX1.out.cell 2
      have x3 := HX1.out.cell 3
      simp only [List.getElem?_toArray, List.getElem?_cons_zero, List.getElem?_cons_succ] at x0 x1 x2 x3
      go_wp2_with fail
      refine (HOF.out _ HB1.out).mono ?_
      rintro e w2 ⟨a2, c2, rfl, hr2, hc2⟩
      have HB2 := belP HB1 hc2
      have HX2 := blkHP HX1 hc2
      have HR2 := Lib.hid hr2
      clear hr2 hc2 HB1 HX1 x0 x1 x2 x3 HOF
      go_wp2_with fail
      refine (HPR.out _ _ _ _ (HP.out.below HB2.out) HR2.out).mono ?_
      rintro e w3 ⟨rfl, hc3⟩
      have HB3 := belP HB2 hc3
      have HX3 := blkHP HX2 hc3
      clear hc3 HB2 HX2 HR2 HPR
      by_cases hF : F = 0
      case neg =>
        have hFb : (F != 0) = true := by simpa using hF
        go_wp2_with fail
        refine (HAW.out _ (HE.out.below HB3.out)).mono ?_
        rintro e w4 ⟨rfl, hc4⟩
        have HB4 := belP HB3 hc4
        clear hc4 HB3 HAW
        go_wp2
        go_ret
        exact ⟨rfl, HB4.out⟩
      subst hF
      have hTs := (HTF.out.resolve_left (fun e => e rfl)).2
      have HPW := Lib.hid (fun s hs => HPQ.out s rfl hs)
      clear HTF HPQ
      obtain ⟨NL, hNL⟩ : ∃ NL, note.data.toList = NL := ⟨_, rfl⟩
      have hNl : NL.length ≤ 30 := by rw [← hNL, size_list]; exact HNB.out
      have HNL := Lib.hid hNl
      have HNN := Lib.hid hNL
      have n1 : (⟨#[35, 32]⟩ : ByteArray).size + note.size ≤ 1000000 := by rw [show (⟨#[35, 32]⟩ : ByteArray).size = 2 from rfl]; have := HNB.out; omega
      have n2 : ((⟨#[35, 32]⟩ : ByteArray) ++ note).size + (⟨#[10, 10, 9]⟩ : ByteArray).size ≤ 1000000 := by rw [ByteArray.size_append, show (⟨#[35, 32]⟩ : ByteArray).size = 2 from rfl, show (⟨#[10, 10, 9]⟩ : ByteArray).size = 3 from rfl]; have := HNB.out; omega
      have n3 : ¬ 9223372036854775807 < 2 + note.size := by have := HNB.out; omega
      have n4 : ¬ 9223372036854775807 < 2 + note.size + 3 := by have := HNB.out; omega
      have HST : Hid (((⟨#[35, 32]⟩ : ByteArray) ++ note ++ ⟨#[10, 10, 9]⟩ : ByteArray).data.toList = [35, 32] ++ NL ++ [10, 10, 9] ++ notedL NL (T.data.toList.take 0)) := by
        show _ = _
        rw [list_append, list_append, hNL, List.take_zero]
        simp [notedL]
      rw [hNL] at HPW
      clear hNL hNl
      go_upto_region 13 with fail
      clear n1 n2 n3 n4
      go_loopg [8, 9] (T.size + 1) (fun gg s8 s9 wr => w3 = wr ∧ ∃ (i : Nat) (r : ByteArray), i ≤ T.size ∧ T.size - i < gg ∧ s9 = .int .i64 i ∧ s8 = .string r ∧ Hid (r.data.toList = [35, 32] ++ NL ++ [10, 10, 9] ++ notedL NL (T.data.toList.take i)))
      case atStart => exact ⟨rfl, 0, _, Nat.zero_le _, by omega, rfl, rfl, HST⟩
      case round =>
        obtain ⟨rfl, i, r, hi, hg, rfl, rfl, HR⟩ := hrel
        clear HST
        have hrs : r.size ≤ 800000 := by
          have h3 := congrArg List.length HR.out
          have h4 := notedL_rough NL HNL.out (T.data.toList.take i)
          have h5 := HNL.out
          rw [size_list] at h3
          rw [List.length_take] at h4
          simp only [List.length_append, List.length_cons, List.length_nil] at h3
          omega
        by_cases hlt : i < T.size
        · have hltz : (i : Int) < (T.size : Int) := by omega
          have hi0 : (0 : Int) ≤ (i : Int) := by omega
          have hget : T.data.toList[i]? = some (T[i]'hlt) := by rw [List.getElem?_eq_getElem (by rw [size_list]; exact hlt)]; rfl
          have htk := notedL_take NL T.data.toList i _ hget
          have b1 : (i : Int) ≤ (T.size : Int) := by omega
          have b2 : (i : Int) + 1 ≤ (T.size : Int) := by omega
          have b3 : (0 : Int) ≤ (i : Int) + 1 := by omega
          have b4 : ((i : Int) + 1).toNat = i + 1 := by omega
          obtain ⟨X, hX⟩ : ∃ X, T.extract i (i + 1) = X := ⟨_, rfl⟩
          have hXl : X.data.toList = [T[i]'hlt] := by
            rw [← hX, ByteArray.data_extract, Array.toList_extract]
            simp only [List.extract, Nat.add_sub_cancel_left]
            rw [List.drop_eq_getElem_cons (by rw [size_list]; exact hlt)]
            rfl
          have hXs : X.size = 1 := by rw [← size_list, hXl]; rfl
          by_cases h32 : T[i]'hlt = 32
          · have h32z : (((T[i]'hlt).toNat : Nat) : Int) = 32 := by rw [h32]; rfl
            have HR2 : Hid ((r ++ ⟨#[32, 9, 32]⟩ : ByteArray).data.toList = [35, 32] ++ NL ++ [10, 10, 9] ++ notedL NL (T.data.toList.take (i + 1))) := by
              show _ = _
              rw [htk, list_append, HR.out, h32, ← List.append_assoc _ (notedL NL (T.data.toList.take i)) _]
              rfl
            have q1 : r.size + (⟨#[32, 9, 32]⟩ : ByteArray).size ≤ 1000000 := by rw [show (⟨#[32, 9, 32]⟩ : ByteArray).size = 3 from rfl]; omega
            have q2 : ¬ 9223372036854775807 < r.size + 3 := by omega
            clear h32 hget htk hXl HR
            go_wp2
            go_roundg (T.size - i)
            case measure => omega
            case rel => exact ⟨rfl, i + 1, _, by omega, by omega, by go_num, rfl, HR2⟩
          · have h32z : ¬ (((T[i]'hlt).toNat : Nat) : Int) = 32 := fun e => h32 (UInt8.toNat_inj.1 (by simpa using Int.ofNat.inj e))
            by_cases h10 : T[i]'hlt = 10
            · have h10z : (((T[i]'hlt).toNat : Nat) : Int) = 10 := by rw [h10]; rfl
              have HR2 : Hid ((r ++ (⟨#[13, 35]⟩ ++ note ++ ⟨#[10, 32, 10]⟩) : ByteArray).data.toList = [35, 32] ++ NL ++ [10, 10, 9] ++ notedL NL (T.data.toList.take (i + 1))) := by
                show _ = _
                rw [htk, list_append, list_append, list_append, HR.out, HNN.out, h10, ← List.append_assoc _ (notedL NL (T.data.toList.take i)) _]
                rfl
              have hN30 := HNB.out
              have e2 : (⟨#[13, 35]⟩ : ByteArray).size = 2 := rfl
              have e3 : (⟨#[10, 32, 10]⟩ : ByteArray).size = 3 := rfl
              have q1 : (⟨#[13, 35]⟩ : ByteArray).size + note.size ≤ 1000000 := by omega
              have q2 : ((⟨#[13, 35]⟩ : ByteArray) ++ note).size + (⟨#[10, 32, 10]⟩ : ByteArray).size ≤ 1000000 := by rw [ByteArray.size_append]; omega
              have q3 : r.size + ((⟨#[13, 35]⟩ : ByteArray) ++ note ++ ⟨#[10, 32, 10]⟩).size ≤ 1000000 := by rw [ByteArray.size_append, ByteArray.size_append]; omega
              have q4 : ¬ 9223372036854775807 < 2 + note.size := by omega
              have q5 : ¬ 9223372036854775807 < 2 + note.size + 3 := by omega
              have q6 : ¬ 9223372036854775807 < r.size + (2 + note.size + 3) := by omega
              have h3210 : ¬ (10 : Int) = 32 := by decide
              rw [h10z] at h32z
              clear h32 h10 hget htk hXl HR e2 e3 hN30
              go_wp2
              go_roundg (T.size - i)
              case measure => omega
              case rel => exact ⟨rfl, i + 1, _, by omega, by omega, by go_num, rfl, HR2⟩
            · have h10z : ¬ (((T[i]'hlt).toNat : Nat) : Int) = 10 := fun e => h10 (UInt8.toNat_inj.1 (by simpa using Int.ofNat.inj e))
              have HR2 : Hid ((r ++ X : ByteArray).data.toList = [35, 32] ++ NL ++ [10, 10, 9] ++ notedL NL (T.data.toList.take (i + 1))) := by
                show _ = _
                rw [htk, list_append, HR.out, hXl, ← List.append_assoc _ (notedL NL (T.data.toList.take i)) _]
                unfold noteB
                rw [if_neg h32, if_neg h10]
              have q1 : r.size + X.size ≤ 1000000 := by omega
              have q2 : ¬ 9223372036854775807 < r.size + X.size := by omega
              clear h32 h10 hget htk hXl HR
              go_wp2
              go_roundg (T.size - i)
              case measure => omega
              case rel => exact ⟨rfl, i + 1, _, by omega, by omega, by go_num, rfl, HR2⟩
        · obtain rfl : i = T.size := by omega
          have hall : T.data.toList.take T.size = T.data.toList := List.take_of_length_le (by rw [size_list]; exact Nat.le_refl _)
          have hS : r.data.toList = notedAll NL T.data.toList := by rw [HR.out, hall]; rfl
          have HPZ := Lib.hid (HPW.out r hS)
          clear hall hS HR HPW
          go_wp2_with fail
          refine (HPZ.out _ (HE.out.below HB3.out)).mono ?_
          rintro e w4 ⟨a4, c4, rfl, hr4, hc4⟩
          have HB4 := Lib.hid ((belP HB3 hc4).out.alloc (belP HB3 hc4).out.size (.cells #[.int .i64 k, .int .i64 n, .bool x, .slice a4 L c4] TPl))
          have HX4 := Lib.hid ((blkHP HX3 hc4).out.alloc (.cells #[.int .i64 k, .int .i64 n, .bool x, .slice a4 L c4] TPl))
          have HY4 := Lib.hid (Blk.new w4 TPl #[.int .i64 k, .int .i64 n, .bool x, .slice a4 L c4])
          have HR4 := Lib.hid (hr4.up (.cells #[.int .i64 k, .int .i64 n, .bool x, .slice a4 L c4] TPl))
          clear hr4 hc4 HB3 HX3 HPZ
          go_upto_region 22 with fail
          generalize w4.alloc (.cells #[.int .i64 k, .int .i64 n, .bool x, .slice a4 L c4] TPl) = w5 at *
          generalize w4.heap.size = YB at *
          have x0 := HX4.out.cell 0
          have x1 := HX4.out.cell 1
          have x2 := HX4.out.cell 2
          have x3 := HX4.out.cell 3
          have y0 := HY4.out.cell 0
          have y1 := HY4.out.cell 1
          have y2 := HY4.out.cell 2
          have y3 := HY4.out.cell 3
          simp only [List.getElem?_toArray, List.getElem?_cons_zero, List.getElem?_cons_succ] at x0 x1 x2 x3 y0 y1 y2 y3
          go_wp2_with fail
          refine (HTD.out _ _ _ _ HB4.out HR4.out).mono ?_
          rintro e w6 ⟨rfl, hc6⟩
          have HB6 := belP HB4 hc6
          clear hc6 HB4 HX4 HY4 HR4 HTD x0 x1 x2 x3 y0 y1 y2 y3
          go_wp2_with fail
          refine (HAW.out _ (HE.out.below HB6.out)).mono ?_
          rintro e w7 ⟨rfl, hc7⟩
          have HB7 := belP HB6 hc7
          clear hc7 HB6 HAW
          go_wp2
          go_ret
          exact ⟨rfl, HB7.out⟩
end Go.Proofs.YtmjipkdejggbfaaGreatDoor
