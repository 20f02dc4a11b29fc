/- policy: rules in memory; a rule's line, up to its conditions. -/
import Derived.Deep.RegionLaw
import Derived.Deep.AppendLies
import Derived.Deep.LoopGhost
import Derived.Test.YtmjipkdejggbfaaGreatDoorQPolX
namespace Go.Proofs.YtmjipkdejggbfaaGreatDoor
open Go Go.Proofs Go.RowKit

def condC (c : PCond) : List Value := [.int .i64 c.a, .int .i64 c.o, .int .u64 c.m, .int .u64 c.v]
def flatC (l : List PCond) : List Value := l.flatMap condC
theorem flatC_snoc (l : List PCond) (x : PCond) : flatC (l ++ [x]) = flatC l ++ condC x := by unfold flatC; rw [List.flatMap_append]; simp
theorem flatC_len : ∀ l : List PCond, (flatC l).length = l.length * 4
  | [] => rfl
  | x :: l => by
    have := flatC_len l
    unfold flatC at *
    rw [List.flatMap_cons, List.length_append, this]
    show 4 + l.length * 4 = (l.length + 1) * 4
    omega
def ruleC (r : PRule) (u : Value) : List Value := [.string r.name, .int .i64 r.k, .int .i64 r.n, u]
def flatR : List PRule → List Value → List Value
  | [], _ => []
  | _ :: _, [] => []
  | r :: rs, u :: us => ruleC r u ++ flatR rs us
theorem flatR_snoc : ∀ (rs : List PRule) (us : List Value) (r : PRule) (u : Value), us.length = rs.length → flatR (rs ++ [r]) (us ++ [u]) = flatR rs us ++ ruleC r u
  | [], [], r, u, _ => by simp [flatR]
  | r0 :: rs, u0 :: us, r, u, h => by
    show ruleC r0 u0 ++ flatR (rs ++ [r]) (us ++ [u]) = ruleC r0 u0 ++ flatR rs us ++ ruleC r u
    rw [flatR_snoc rs us r u (by simpa using h), List.append_assoc]
/-- Rules in memory. -/
def RulesR (tr tc lo : Nat) (W : World) (v : Value) (rs : List PRule) : Prop :=
  ∃ us : List Value, us.length = rs.length ∧ W.ownsRow lo tr 4 v rs.length (flatR rs us) ∧ ∀ (j : Nat) (u : Value) (r : PRule), us[j]? = some u → rs[j]? = some r → W.ownsRow lo tc 4 u r.conds.length (flatC r.conds)
theorem RulesR.nil (tr tc lo : Nat) (W : World) : RulesR tr tc lo W (.slice none 0 0) [] := ⟨[], rfl, World.ownsRow_nil _ _ _ _, fun j u r h => by simp at h⟩
theorem RulesR.slice {tr tc lo : Nat} {W : World} {v : Value} {rs : List PRule} (h : RulesR tr tc lo W v rs) : ∃ a c, v = .slice a rs.length c := by
  obtain ⟨us, _, h2, _⟩ := h
  rcases h2.2 with ⟨h, h0⟩ | ⟨g, c, _, h, _⟩
  · exact ⟨none, 0, by rw [h, h0]⟩
  · exact ⟨_, _, h⟩
theorem RulesR.imp {tr tc lo : Nat} {W W' : World} {v : Value} {rs : List PRule} (h : RulesR tr tc lo W v rs) (hi : ∀ e v n xs, W.ownsRow lo e 4 v n xs → W'.ownsRow lo e 4 v n xs) : RulesR tr tc lo W' v rs := by
  obtain ⟨us, h1, h2, h3⟩ := h
  exact ⟨us, h1, hi _ _ _ _ h2, fun j u r hu hr => hi _ _ _ _ (h3 j u r hu hr)⟩
theorem ownP_below {W W' : World} {B e size n : Nat} {v : Value} {xs : List Value} (h : W.ownsRow B e size v n xs) (hb : Below W.heap.size W W') : W'.ownsRow B e size v n xs := by
  refine ⟨h.1, ?_⟩
  rcases h.2 with h2 | ⟨g, cap, cur, h1, h2, h3, h4⟩
  · exact .inl h2
  · exact .inr ⟨g, cap, cur, h1, h2, (hb.block g (Array.getElem?_eq_some_iff.1 h3).1).trans h3, h4⟩
theorem ownP_mono {W : World} {B B' e size n : Nat} {v : Value} {xs : List Value} (h : W.ownsRow B e size v n xs) (hb : B' ≤ B) : W.ownsRow B' e size v n xs := by
  refine ⟨h.1, ?_⟩
  rcases h.2 with h2 | ⟨g, cap, cur, h1, h2, h3⟩
  · exact .inl h2
  · exact .inr ⟨g, cap, cur, h1, Nat.le_trans hb h2, h3⟩
theorem RulesR.fr {tr tc R : Nat} {W W' : World} {v : Value} {rs : List PRule} (h : RulesR tr tc (R + 1) W v rs) (hf : FrR R W W') : RulesR tr tc (R + 1) W' v rs := h.imp (fun _ _ _ _ h => hf.own h (by omega))
theorem RulesR.below {tr tc lo : Nat} {W W' : World} {v : Value} {rs : List PRule} (h : RulesR tr tc lo W v rs) (hb : Below W.heap.size W W') : RulesR tr tc lo W' v rs := h.imp (fun _ _ _ _ h => ownP_below h hb)

abbrev TRl : Nat := 71
abbrev TCd : Nat := 74
set_option maxRecDepth 100000 in
set_option maxHeartbeats 2000000 in
/-- A rule that is wrong ahead of its conditions. -/
theorem rule_cnt {R : Nat} {k n : Int} {x : Bool} {vr vw : Value} {cnt : Int} (s : ByteArray) (hs : s.size ≤ 1000000) (w : World) (hR : RdB w R k n x vr vw cnt) (h : cnt = 0 ∨ (0 < cnt ∧ nameB s = false)) :
    Calls Tryz.prog 45 #[.pointer (some ⟨R, 0, none⟩), .string s] w fun e w' => e = .panicked (wrongP 13) ∧ FrR R w w' := by
  obtain ⟨z0, z1, z2, z3, z4, z5⟩ := hR.parts
  have hRl := Blk.lt hR
  rcases h with rfl | ⟨hp, hn⟩
  · clear hR
    go_enter Tryz.func45, Tryz.ntmps45
    go_wp2_with (go_at_call 65; refine (pneed_false _ _).mono ?_; rintro e w' ⟨rfl, rfl⟩)
    exact ⟨rfl, rfl, FrR.refl _ _⟩
  · have hnm := fun W => pnamed_any s hs W
    rw [hn] at hnm
    have HNM := Lib.hid hnm
    clear hR hnm hn
    go_enter Tryz.func45, Tryz.ntmps45
    go_wp2_with fail
    refine (HNM.out _).mono ?_
    rintro e w1 ⟨rfl, hb⟩
    have HF := Lib.hid (FrR.below hb (Nat.le_of_lt hRl))
    clear hb HNM
    go_wp2_with (go_at_call 65; refine (pneed_false _ _).mono ?_; rintro e w' ⟨rfl, rfl⟩)
    exact ⟨rfl, rfl, HF.out⟩
set_option maxRecDepth 100000 in
set_option maxHeartbeats 2000000 in
theorem rule_many {R : Nat} {k n : Int} {x : Bool} {vr vw : Value} {cnt : Int} {rs : List PRule} (s : ByteArray) (hs : s.size ≤ 1000000) (w : World) (hR : RdB w R k n x vr vw cnt) (hRR : RulesR TRl TCd (R + 1) w vr rs) (hp : 0 < cnt) (hn : nameB s = true) (hm : 500 ≤ rs.length) :
    Calls Tryz.prog 45 #[.pointer (some ⟨R, 0, none⟩), .string s] w fun e w' => e = .panicked (wrongP 3) ∧ FrR R w w' := by
  obtain ⟨a, c, rfl⟩ := hRR.slice
  have hRl := Blk.lt hR
  have z5 := hR.parts.2.2.2.2.2
  have hmz : ¬ (rs.length : Int) < 500 := by omega
  have hmd : decide ((rs.length : Int) < 500) = false := decide_eq_false hmz
  have hnm := fun W => pnamed_any s hs W
  rw [hn] at hnm
  have HNM := Lib.hid hnm
  have HR := Lib.hid hR
  obtain ⟨L, hL⟩ : ∃ L, rs.length = L := ⟨_, rfl⟩
  rw [hL] at HR hmz hmd
  clear hR hnm hn hRR hm hL
  go_enter Tryz.func45, Tryz.ntmps45
  go_wp2_with fail
  refine (HNM.out _).mono ?_
  rintro e w1 ⟨rfl, hb⟩
  have HF := Lib.hid (FrR.below hb (Nat.le_of_lt hRl))
  have HR1 := Lib.hid (RdB.below HR.out hb hRl)
  have z3 := HR1.out.parts.2.2.2.1
  clear hb HNM z5 HR
  go_wp2_with fail
  refine (pneed_true _ _).mono ?_
  rintro e _ ⟨rfl, rfl⟩
  go_wp2_with (go_at_call 65; refine (pneed_false _ _).mono ?_; rintro e w' ⟨rfl, rfl⟩)
  exact ⟨rfl, rfl, HF.out⟩
set_option maxRecDepth 100000 in
set_option maxHeartbeats 2000000 in
theorem rule_act {R : Nat} {k n : Int} {x : Bool} {vr vw : Value} {cnt : Int} {rs : List PRule} {ws : List ByteArray} {K N M0 E : Int} (s : ByteArray) (hs : s.size ≤ 1000000) (hbig : ws.length ≤ 1000000) (hsz : ∀ s ∈ ws, s.size ≤ 1000000) (w : World) (hR : RdB w R k n x vr vw cnt) (hRR : RulesR TRl TCd (R + 1) w vr rs) (hW : PWords R w vw ws) (hp : 0 < cnt) (hn : nameB s = true) (hm : rs.length < 500)
    (hans : ActP.readAns ws = (K, N, M0, E)) (hne : E ≠ 0) :
    Calls Tryz.prog 45 #[.pointer (some ⟨R, 0, none⟩), .string s] w fun e w' => e = .panicked (wrongP (formE E)) ∧ FrR R w w' := by
  obtain ⟨a, c, rfl⟩ := hRR.slice
  have hRl := Blk.lt hR
  have z5 := hR.parts.2.2.2.2.2
  have hmz : (rs.length : Int) < 500 := by omega
  have hnm := fun W => pnamed_any s hs W
  rw [hn] at hnm
  have HNM := Lib.hid hnm
  have HACT := Lib.hid (fun W hR hW => act_bad (R := R) (k := k) (n := n) (x := x) (vr := .slice a rs.length c) (vw := vw) (cnt := cnt) hbig hsz hans hne W hR hW)
  have HW := Lib.hid hW
  have HR := Lib.hid hR
  obtain ⟨L, hL⟩ : ∃ L, rs.length = L := ⟨_, rfl⟩
  rw [hL] at HR hmz HACT
  clear hR hnm hn hRR hm hL hans hne hsz hW
  go_enter Tryz.func45, Tryz.ntmps45
  go_wp2_with fail
  refine (HNM.out _).mono ?_
  rintro e w1 ⟨rfl, hb⟩
  have HF := Lib.hid (FrR.below hb (Nat.le_of_lt hRl))
  have HR1 := Lib.hid (RdB.below HR.out hb hRl)
  have HW1 := Lib.hid (HW.out.below HF.out.1 HF.out.2.1)
  have z3 := HR1.out.parts.2.2.2.1
  clear hb HNM z5 HR HW
  go_wp2_with fail
  refine (pneed_true _ _).mono ?_
  rintro e _ ⟨rfl, rfl⟩
  go_wp2_with fail
  refine (pneed_true _ _).mono ?_
  rintro e _ ⟨rfl, rfl⟩
  clear z3
  go_wp2_with fail
  refine (HACT.out _ HR1.out HW1.out).mono ?_
  rintro e w2 ⟨rfl, hf⟩
  go_wp2
  exact ⟨rfl, rfl, HF.out.trans hf⟩
end Go.Proofs.YtmjipkdejggbfaaGreatDoor
