/- strainerlaw14.awake: the chapter's example. -/
import Derived.Test.YtmjipkdejggbfaaGreatDoorQPolTold
namespace Go.Proofs.YtmjipkdejggbfaaGreatDoor
open Go Go.Proofs Go.RowKit

def exT : ByteArray := ⟨#[100, 101, 102, 97, 117, 108, 116, 32, 107, 105, 108, 108, 10, 114, 101, 97, 100, 32, 97, 108, 108, 111, 119, 10, 111, 112, 101, 110, 32, 101, 114, 114, 110, 111, 32, 49, 51, 32, 105, 102, 32, 97, 49, 32, 38, 32, 51, 32, 61, 61, 32, 48, 32, 97, 110, 100, 32, 97, 50, 32, 62, 32, 53]⟩
theorem lexAns_ex14 : lexAns exT = ([(1, [⟨#[100, 101, 102, 97, 117, 108, 116]⟩, ⟨#[107, 105, 108, 108]⟩]), (2, [⟨#[114, 101, 97, 100]⟩, ⟨#[97, 108, 108, 111, 119]⟩]), (3, [⟨#[111, 112, 101, 110]⟩, ⟨#[101, 114, 114, 110, 111]⟩, ⟨#[49, 51]⟩, ⟨#[105, 102]⟩, ⟨#[97, 49]⟩, ⟨#[38]⟩, ⟨#[51]⟩, ⟨#[61, 61]⟩, ⟨#[48]⟩, ⟨#[97, 110, 100]⟩, ⟨#[97, 50]⟩, ⟨#[62]⟩, ⟨#[53]⟩])], 0, 0) := by kernel_rfl
theorem rule_step {many : Nat} {w0 : ByteArray} {r : List ByteArray} {K N m : Int} (hn : nameB w0 = true) (hm : many < 500) (ha : ActP.readAns r = (K, N, m, 0)) : ruleGo many w0 r = mkRule w0 K N (condsGo [] (r.drop m.toNat)) := by
  unfold ruleGo
  rw [hn, ha, if_neg (by decide), if_neg (by omega), if_neg (fun h => h rfl)]
theorem pLine_rule {cnt : Nat} {st : PSt} {w0 : ByteArray} {r : List ByteArray} (h1 : (w0.toList == defaultB) = false) (h2 : (w0.toList == x32B) = false) (h3 : cnt ≠ 0) : pLine cnt st w0 r = addRule st (ruleGo st.rules.length w0 r) := by
  unfold pLine
  rw [if_neg (by rw [h1]; decide), if_neg (by rw [h2]; decide), if_neg h3]
def exR : List PRule := [⟨⟨#[114, 101, 97, 100]⟩, 8, 0, []⟩, ⟨⟨#[111, 112, 101, 110]⟩, 4, 13, [⟨1, 7, 3, 0⟩, ⟨2, 5, 0, 5⟩]⟩]
theorem pLine_ex1 : pLine 0 PSt.zero ⟨#[100, 101, 102, 97, 117, 108, 116]⟩ [⟨#[107, 105, 108, 108]⟩] = .inr ⟨1, 0, false, []⟩ := by kernel_rfl
theorem pLine_ex2 : pLine 1 ⟨1, 0, false, []⟩ ⟨#[114, 101, 97, 100]⟩ [⟨#[97, 108, 108, 111, 119]⟩] = .inr ⟨1, 0, false, [⟨⟨#[114, 101, 97, 100]⟩, 8, 0, []⟩]⟩ := by
  rw [pLine_rule (by kernel_rfl) (by kernel_rfl) (by decide), rule_step (K := 8) (N := 0) (m := 1) (by kernel_rfl) (by decide) (by kernel_rfl)]
  show addRule _ (mkRule _ _ _ (condsGo [] [])) = _
  rw [condsGo_nil]
  rfl
theorem conds_ex : condsGo [] [⟨#[105, 102]⟩, ⟨#[97, 49]⟩, ⟨#[38]⟩, ⟨#[51]⟩, ⟨#[61, 61]⟩, ⟨#[48]⟩, ⟨#[97, 110, 100]⟩, ⟨#[97, 50]⟩, ⟨#[62]⟩, ⟨#[53]⟩] = .inr [⟨1, 7, 3, 0⟩, ⟨2, 5, 0, 5⟩] := by
  rw [condsGo_step (acc' := [⟨1, 7, 3, 0⟩]) (ws' := [⟨#[97, 110, 100]⟩, ⟨#[97, 50]⟩, ⟨#[62]⟩, ⟨#[53]⟩]) (by kernel_rfl), condsGo_step (acc' := [⟨1, 7, 3, 0⟩, ⟨2, 5, 0, 5⟩]) (ws' := []) (by kernel_rfl), condsGo_nil]
theorem pLine_ex3 : pLine 2 ⟨1, 0, false, [⟨⟨#[114, 101, 97, 100]⟩, 8, 0, []⟩]⟩ ⟨#[111, 112, 101, 110]⟩ [⟨#[101, 114, 114, 110, 111]⟩, ⟨#[49, 51]⟩, ⟨#[105, 102]⟩, ⟨#[97, 49]⟩, ⟨#[38]⟩, ⟨#[51]⟩, ⟨#[61, 61]⟩, ⟨#[48]⟩, ⟨#[97, 110, 100]⟩, ⟨#[97, 50]⟩, ⟨#[62]⟩, ⟨#[53]⟩] = .inr ⟨1, 0, false, exR⟩ := by
  rw [pLine_rule (by kernel_rfl) (by kernel_rfl) (by decide), rule_step (K := 4) (N := 13) (m := 2) (by kernel_rfl) (by decide) (by kernel_rfl)]
  show addRule _ (mkRule _ _ _ (condsGo [] [⟨#[105, 102]⟩, ⟨#[97, 49]⟩, ⟨#[38]⟩, ⟨#[51]⟩, ⟨#[61, 61]⟩, ⟨#[48]⟩, ⟨#[97, 110, 100]⟩, ⟨#[97, 50]⟩, ⟨#[62]⟩, ⟨#[53]⟩])) = _
  rw [conds_ex]
  rfl
theorem polAns_ex : polAns exT = (⟨1, 0, false, exR⟩, 0, 0) := by
  unfold polAns
  rw [lexAns_ex14]
  show pLines 0 PSt.zero _ = _
  unfold pLines
  rw [pLine_ex1]
  show pLines 1 _ _ = _
  unfold pLines
  rw [pLine_ex2]
  show pLines 2 _ _ = _
  unfold pLines
  rw [pLine_ex3]
  rfl
set_option maxRecDepth 100000 in
set_option maxHeartbeats 4000000 in
theorem awake14_any (w : World) (hE : CondP.ErrV w) : Calls Tryz.prog 12 #[] w fun e w' => e = .returned (.bool true) ∧ Below w.heap.size w w' := by
  have hp := fun W hW => parse_any exT W hW
  rw [polAns_ex] at hp
  have HP := Lib.hid hp
  have HE := Lib.hid hE
  clear hp hE
  go_enter Tryz.func12, Tryz.ntmps12
  go_wp2_with fail
  refine (HP.out _ HE.out).mono ?_
  rintro e w1 ⟨vr, rfl, hr, hb⟩
  obtain ⟨va, vc, hve⟩ := hr.slice
  have hve : vr = .slice va 2 vc := hve
  subst hve
  obtain ⟨g, ua, uc, rfl, hg, c0, c1, c2, c3, hCA⟩ := rules_at (i := 1) hr rfl
  obtain ⟨gu, rfl, hgu, k0, k1, k2, k3⟩ := hCA 1 _ rfl
  have HB := Lib.hid (hb.alloc hb.size (.cells #[.int .i64 1, .int .i64 0, .bool false, .slice (some ⟨g, 0, none⟩) 2 vc] TPl))
  have hX := Blk.new w1 TPl #[.int .i64 1, .int .i64 0, .bool false, .slice (some ⟨g, 0, none⟩) 2 vc]
  have hA : Below w1.heap.size w1 (w1.alloc (.cells #[.int .i64 1, .int .i64 0, .bool false, .slice (some ⟨g, 0, none⟩) 2 vc] TPl)) := (Below.refl _ w1).alloc (Nat.le_refl _) _
  have d2 : (w1.alloc (.cells #[.int .i64 1, .int .i64 0, .bool false, .slice (some ⟨g, 0, none⟩) 2 vc] TPl)).cell? ⟨g, 6, none⟩ = some (.int .i64 13) := (hA.cell (p := ⟨g, 6, none⟩) hg).trans c2
  have d3 : (w1.alloc (.cells #[.int .i64 1, .int .i64 0, .bool false, .slice (some ⟨g, 0, none⟩) 2 vc] TPl)).cell? ⟨g, 7, none⟩ = some (.slice (some ⟨gu, 0, none⟩) 2 uc) := (hA.cell (p := ⟨g, 7, none⟩) hg).trans c3
  have d4 : (w1.alloc (.cells #[.int .i64 1, .int .i64 0, .bool false, .slice (some ⟨g, 0, none⟩) 2 vc] TPl)).cell? ⟨gu, 7, none⟩ = some (.int .u64 5) := (hA.cell (p := ⟨gu, 7, none⟩) hgu).trans k3
  have x0 := hX.cell 0
  have x3 := hX.cell 3
  simp only [List.getElem?_toArray, List.getElem?_cons_zero, List.getElem?_cons_succ] at x0 x3
  unfold PolV
  clear hr hb hX hA c0 c1 c2 c3 k0 k1 k2 k3 hCA HP HE
  go_upto_region 2 with fail
  generalize w1.alloc (.cells #[.int .i64 1, .int .i64 0, .bool false, .slice (some ⟨g, 0, none⟩) 2 vc] TPl) = w2 at *
  go_wp2
  go_ret
  exact ⟨rfl, HB.out⟩
end Go.Proofs.YtmjipkdejggbfaaGreatDoor
