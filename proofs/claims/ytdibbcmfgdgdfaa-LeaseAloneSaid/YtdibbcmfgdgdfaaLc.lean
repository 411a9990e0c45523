import Derived.Test.YtdibbcmfgdgdfaaLb
namespace Go.Proofs.Ytdibbcmfgdgdfaa.Le
open Go.RowKit Go.Proofs.YtdibbcmfgdgdfaaW.PrintWords Go.Proofs.YtdibbcmfgdgdfaaW.PrintLast Go.Proofs.YtdibbcmfgdgdfaaW.PrintMore
open PLe
attribute [local go_sem] max2_int min2_int max_two min_two max_three min_three max_four min_four
set_option linter.unusedVariables false
set_option linter.unusedSimpArgs false

theorem grown_set (w : World) (p : Addr) (v : Value) : w.grownBy (w.setCell p v) (some p.block) :=
  ⟨rfl, rfl, rfl, by simp [World.setCell], fun k _ hne => Below.heap_setCell _ _ _ _ (fun e => hne (by rw [e]))⟩
theorem grown_draw (w : World) (n : Nat) (r : Option Nat) : w.grownBy (w.drewN n) r := ⟨rfl, rfl, rfl, Nat.le_refl _, fun _ _ _ => rfl⟩

def clI (n : Int) : Int := mn (mx n (-4611686018427387903)) 4611686018427387903
theorem clI_bd (n : Int) : -4611686018427387903 ≤ clI n ∧ clI n ≤ 4611686018427387903 := by unfold clI mn mx; repeat' split <;> omega
set_option maxHeartbeats 400000 in
theorem clamp_any (n : Int) (w : World) : Calls Try.prog 19 #[.int .i64 n] w fun e w' => e = .returned (.int .i64 (clI n)) ∧ Drawn0 w w' := by
  by_cases h1 : n < -4611686018427387903
  · have e : clI n = -4611686018427387903 := by unfold clI mn mx; repeat' split <;> omega
    rw [e]
    go_enter Try.func19, Try.ntmps19
    go_wp2
    go_ret
    exact ⟨rfl, ⟨0, rfl⟩⟩
  · by_cases h2 : 4611686018427387903 < n
    · have e : clI n = 4611686018427387903 := by unfold clI mn mx; repeat' split <;> omega
      rw [e]
      go_enter Try.func19, Try.ntmps19
      go_wp2
      go_ret
      exact ⟨rfl, ⟨0, rfl⟩⟩
    · have e : clI n = n := by unfold clI mn mx; repeat' split <;> omega
      rw [e]
      go_enter Try.func19, Try.ntmps19
      go_wp2
      go_ret
      exact ⟨rfl, ⟨0, rfl⟩⟩
/-- time goes on -/
def tickD (s : Dk) (now : Int) : Dk := { s with now := mx s.now (clI now) }

set_option maxHeartbeats 1000000 in
set_option maxRecDepth 100000 in
theorem at_any (g : Nat) (s : Dk) (now : Int) (i : Nat) (hi : i < 256) (w : World) (hD : Dsk w g s) :
    Calls Try.prog 14 #[.pointer (some ⟨g, 0, none⟩), .int .i64 now, .int .i64 (i : Int)] w fun e w' => e = .returned (.pointer (some ⟨g, 2 + i * 3, none⟩)) ∧ Dsk w' g (tickD s now) ∧ w.grownBy w' (some g) := by
  have HD := Aside0.mk hD
  have hc := hD.now
  have hf := hD.frozen 1
  have hi2 : (i : Int) < 256 := by omega
  have hi0 : (0 : Int) ≤ (i : Int) := by omega
  clear hD
  go_enter Try.func14, Try.ntmps14
  go_wp2_with fail
  go_region_with (go_at_call 19; refine (clamp_any now _).mono ?_; rintro e w1 ⟨rfl, ⟨n1, rfl⟩⟩)
  all_goals
    go_wp2_with fail
    all_goals
      go_ret
      refine ⟨rfl, ?_, ?_⟩
      · refine ((HD.out.drewN _).setNow _).to ?_
        unfold tickD mx
        first | rw [if_pos (by assumption)] | rw [if_neg (by omega)]
      · exact (grown_draw w _ _).trans (grown_set _ ⟨g, 1, none⟩ _)

set_option maxHeartbeats 400000 in
theorem at_out (g : Nat) (now th : Int) (ht : th < 0 ∨ 256 ≤ th) (w : World) :
    Calls Try.prog 14 #[.pointer (some ⟨g, 0, none⟩), .int .i64 now, .int .i64 th] w fun e w' => e = .returned (.pointer none) ∧ w = w' := by
  rcases ht with ht | ht
  · go_enter Try.func14, Try.ntmps14
    go_wp2_with fail
    go_ret
    exact ⟨rfl, rfl⟩
  · have hd : decide (th < 0) = false := by simp; omega
    go_enter Try.func14, Try.ntmps14
    go_wp2_with fail
    go_ret
    exact ⟨rfl, rfl⟩
set_option maxHeartbeats 400000 in
theorem at_nil (now th : Int) (w : World) :
    Calls Try.prog 14 #[.pointer none, .int .i64 now, .int .i64 th] w fun e w' => e = .returned (.pointer none) ∧ w = w' := by
  go_enter Try.func14, Try.ntmps14
  go_wp2_with fail
  go_ret
  exact ⟨rfl, rfl⟩
theorem missing_any (g : Nat) (w : World) : Calls Try.prog 16 #[.pointer (some ⟨g, 0, none⟩)] w fun e w' => e = .returned (.int .i64 2) ∧ w = w' := by
  go_enter Try.func16, Try.ntmps16
  go_wp2_with fail
  go_ret
  exact ⟨rfl, rfl⟩
theorem missing_nil (w : World) : Calls Try.prog 16 #[.pointer none] w fun e w' => e = .returned (.int .i64 1) ∧ w = w' := by
  go_enter Try.func16, Try.ntmps16
  go_wp2_with fail
  go_ret
  exact ⟨rfl, rfl⟩

def heldB (s : Dk) (i : Nat) : Bool := !s.giv i && decide (s.now < s.en i)
set_option maxHeartbeats 400000 in
set_option maxRecDepth 100000 in
theorem held_any (g : Nat) (s : Dk) (i : Nat) (hi : i < 256) (w : World) (hD : Dsk w g s) :
    Calls Try.prog 15 #[.pointer (some ⟨g, 0, none⟩), .int .i64 (i : Int)] w fun e w' => e = .returned (.bool (heldB s i)) ∧ Drawn0 w w' := by
  have hc1 := hD.now
  have hc2 := hD.en hi
  have hc3 := hD.giv hi
  have hi2 : (i : Int) < 256 := by omega
  have hi0 : (0 : Int) ≤ (i : Int) := by omega
  clear hD
  cases hg : s.giv i with
  | true =>
    have e : heldB s i = false := by simp [heldB, hg]
    rw [e]
    rw [hg] at hc3
    clear hg e
    go_enter Try.func15, Try.ntmps15
    go_wp2_with fail
    go_quiet (fail)
    go_wp2_with fail
    go_ret
    exact ⟨rfl, ⟨_, rfl⟩⟩
  | false =>
    have e : heldB s i = decide (s.now < s.en i) := by simp [heldB, hg]
    rw [e]
    rw [hg] at hc3
    clear hg e
    go_enter Try.func15, Try.ntmps15
    go_wp2_with fail
    go_quiet (fail)
    go_wp2_with fail
    go_ret
    exact ⟨rfl, ⟨_, rfl⟩⟩

theorem never_any (n : Int) (w : World) : Calls Try.prog 20 #[.int .i64 n] w fun e w' => e = .returned (.bool (decide (4611686018427387903 ≤ n))) ∧ Drawn0 w w' := ktime_Never.calls n _ w rfl
def subI (a b : Int) : Int := if 4611686018427387903 ≤ a then 4611686018427387903 else clI (clI a - clI b)
def addI (a b : Int) : Int := if 4611686018427387903 ≤ a then 4611686018427387903 else clI (clI a + clI b)
set_option maxHeartbeats 400000 in
theorem sub_any (a b : Int) (w : World) : Calls Try.prog 17 #[.int .i64 a, .int .i64 b] w fun e w' => e = .returned (.int .i64 (subI a b)) ∧ Drawn0 w w' := by
  by_cases h : 4611686018427387903 ≤ a
  · have e : subI a b = 4611686018427387903 := by unfold subI; rw [if_pos h]
    rw [e]
    go_enter Try.func17, Try.ntmps17
    go_wp2_with (go_at_call 20; refine (never_any _ _).mono ?_; rintro e w1 ⟨rfl, ⟨n1, rfl⟩⟩)
    go_ret
    exact ⟨rfl, ⟨_, rfl⟩⟩
  · have e : subI a b = clI (clI a - clI b) := by unfold subI; rw [if_neg h]
    have ha := clI_bd a
    have hb := clI_bd b
    rw [e]
    clear e
    have h' : decide (4611686018427387903 ≤ a) = false := decide_eq_false h
    go_enter Try.func17, Try.ntmps17
    go_wp2_with (first | (go_at_call 20; refine (never_any _ _).mono ?_; rintro e w1 ⟨rfl, ⟨n1, rfl⟩⟩) | (go_at_call 19; refine (clamp_any _ _).mono ?_; rintro e w1 ⟨rfl, ⟨n1, rfl⟩⟩))
    go_ret
    exact ⟨rfl, ⟨_, rfl⟩⟩
set_option maxHeartbeats 400000 in
theorem add_any (a b : Int) (w : World) : Calls Try.prog 18 #[.int .i64 a, .int .i64 b] w fun e w' => e = .returned (.int .i64 (addI a b)) ∧ Drawn0 w w' := by
  by_cases h : 4611686018427387903 ≤ a
  · have e : addI a b = 4611686018427387903 := by unfold addI; rw [if_pos h]
    rw [e]
    go_enter Try.func18, Try.ntmps18
    go_wp2_with (go_at_call 20; refine (never_any _ _).mono ?_; rintro e w1 ⟨rfl, ⟨n1, rfl⟩⟩)
    go_ret
    exact ⟨rfl, ⟨_, rfl⟩⟩
  · have e : addI a b = clI (clI a + clI b) := by unfold addI; rw [if_neg h]
    have ha := clI_bd a
    have hb := clI_bd b
    rw [e]
    clear e
    have h' : decide (4611686018427387903 ≤ a) = false := decide_eq_false h
    go_enter Try.func18, Try.ntmps18
    go_wp2_with (first | (go_at_call 20; refine (never_any _ _).mono ?_; rintro e w1 ⟨rfl, ⟨n1, rfl⟩⟩) | (go_at_call 19; refine (clamp_any _ _).mono ?_; rintro e w1 ⟨rfl, ⟨n1, rfl⟩⟩))
    go_ret
    exact ⟨rfl, ⟨_, rfl⟩⟩
end Go.Proofs.Ytdibbcmfgdgdfaa.Le
