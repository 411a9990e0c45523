import Derived.Test.YtdibbcmfgdgdfaaLf
namespace Go.Proofs.Ytdibbcmfgdgdfaa.Le
open Go.RowKit Go.Proofs.YtdibbcmfgdgdfaaW.PrintWords Go.Proofs.YtdibbcmfgdgdfaaW.PrintLast Go.Proofs.YtdibbcmfgdgdfaaW.PrintMore
open PLe
attribute [local go_sem] max2_int min2_int max_two min_two max_three min_three max_four min_four
set_option linter.unusedVariables false
set_option linter.unusedSimpArgs false

theorem tickD_twice (s : Dk) (now : Int) : tickD (tickD s now) now = tickD s now := by
  unfold tickD mx; simp only; congr 1; (repeat' split) <;> omega
def stK (s : Dk) (now : Int) (k : Nat) : Dk := if k = 0 then s else tickD s now
theorem tick_stK (s : Dk) (now : Int) (k : Nat) : tickD (stK s now k) now = tickD s now := by unfold stK; split; rfl; exact tickD_twice s now
theorem stK_en (s : Dk) (now : Int) (k i : Nat) : (stK s now k).en i = s.en i := by unfold stK; split <;> rfl
theorem stK_who (s : Dk) (now : Int) (k i : Nat) : (stK s now k).who i = s.who i := by unfold stK; split <;> rfl
theorem stK_tok (s : Dk) (now : Int) (k i : Nat) : (stK s now k).tok i = s.tok i := by unfold stK; split <;> rfl

/-- the earliest end of the first k -/
def nextV (s : Dk) : Nat → Int
  | 0 => 4611686018427387903
  | k + 1 => if heldB s k = true then mn (nextV s k) (s.en k) else nextV s k

set_option maxHeartbeats 400000 in
theorem of_nil (now th : Int) (w : World) : Calls Try.prog 7 #[.pointer none, .int .i64 now, .int .i64 th] w fun e w' => e = .returned (.tuple #[hold 0 0 0, .bool false]) ∧ Below w.heap.size w w' := by
  go_enter Try.func7, Try.ntmps7
  go_wp2_with (go_at_call 14; refine (at_nil _ _ _).mono ?_; rintro e w1 ⟨rfl, rfl⟩)
  refine bodyPost_ret (v := .tuple #[.agg #[.int .i64 0, .int .i64 0, .int .i64 0], .bool false]) (by simp [results, Try.results7, go_sem]) rfl ⟨rfl, ?_⟩
  exact below_alloc (Below.refl _ _) _

set_option maxHeartbeats 1000000 in
set_option maxRecDepth 100000 in
theorem next_any (g : Nat) (s : Dk) (now : Int) (w : World) (hD : Dsk w g s) :
    Calls Try.prog 13 #[.pointer (some ⟨g, 0, none⟩), .int .i64 now] w fun e w' => e = .returned (.int .i64 (nextV (tickD s now) 256)) ∧ Dsk w' g (tickD s now) ∧ Only w w' g := by
  have HD : Aside0 (Dsk w g (stK s now 0)) := ⟨hD⟩
  have HO := Aside0.mk (Only.refl w g)
  clear hD
  go_enter Try.func13, Try.ntmps13
  go_wp2_with fail
  go_loopw [5, 9] (fun u v wr => ∃ k : Nat, k ≤ 256 ∧ u = .int .i64 (nextV (tickD s now) k) ∧ v = .int .i64 k ∧ Aside0 (Dsk wr g (stK s now k)) ∧ Aside0 (Only w wr g)) (fun _ v _ => 256 - (intOf v).toNat)
  case atStart => exact ⟨0, by omega, rfl, rfl, HD, HO⟩
  case round =>
    clear HD HO
    obtain ⟨k, hk, rfl, rfl, HD, HO⟩ := hrel
    by_cases hk2 : k < 256
    · cases hh : heldB (tickD s now) k with
      | true =>
        have HH : Aside0 (heldB (tickD (stK s now k) now) k = true) := ⟨by rw [tick_stK]; exact hh⟩
        have HN : Aside0 (nextV (tickD s now) (k + 1) = mn (nextV (tickD s now) k) (s.en k)) := ⟨by rw [nextV, if_pos hh]; rfl⟩
        obtain ⟨nv, hnv⟩ : ∃ nv, nextV (tickD s now) k = nv := ⟨_, rfl⟩
        rw [hnv] at HN ⊢
        clear hh hnv
        go_wp2_with fail
        refine (of_yes g (stK s now k) now k hk2 wr HD.out HH.out).mono ?_
        rintro e w1 ⟨rfl, hD1, hO1⟩
        rw [tick_stK] at hD1
        have HD1 := Aside0.mk hD1
        have HO1 := Aside0.mk (HO.out.trans hO1)
        clear hD1 hO1
        rw [stK_en, stK_who, stK_tok]
        unfold hold
        go_wp2_with fail
        all_goals
          go_roundw
          case rel =>
            refine ⟨k + 1, by omega, ?_, by go_num, ⟨?_⟩, ⟨HO1.out.alloc _⟩⟩
            · rw [HN.out]; unfold mn; first | rfl | rw [if_pos (by assumption)] | rw [if_neg (by omega)]
            · have : stK s now (k + 1) = tickD s now := by unfold stK; rw [if_neg (by omega)]
              rw [this]; exact HD1.out.alloc _
          case measure => simp [intOf]; omega
      | false =>
        have HH : Aside0 (heldB (tickD (stK s now k) now) k = false) := ⟨by rw [tick_stK]; exact hh⟩
        have HN : Aside0 (nextV (tickD s now) (k + 1) = nextV (tickD s now) k) := ⟨by rw [nextV, if_neg (by rw [hh]; decide)]⟩
        clear hh
        go_wp2_with fail
        refine (of_no g (stK s now k) now k hk2 wr HD.out HH.out).mono ?_
        rintro e w1 ⟨rfl, hD1, hO1⟩
        rw [tick_stK] at hD1
        have HD1 := Aside0.mk hD1
        have HO1 := Aside0.mk (HO.out.trans hO1)
        clear hD1 hO1
        unfold hold
        go_wp2_with fail
        go_roundw
        case rel =>
          refine ⟨k + 1, by omega, by rw [HN.out], by go_num, ⟨?_⟩, ⟨HO1.out.alloc _⟩⟩
          have : stK s now (k + 1) = tickD s now := by unfold stK; rw [if_neg (by omega)]
          rw [this]; exact HD1.out.alloc _
        case measure => simp [intOf]; omega
    · have : k = 256 := by omega
      subst this
      go_wp2_with fail
      go_ret
      exact ⟨rfl, HD.out, HO.out⟩

set_option maxHeartbeats 400000 in
set_option maxRecDepth 100000 in
theorem next_nil (now : Int) (w : World) :
    Calls Try.prog 13 #[.pointer none, .int .i64 now] w fun e w' => e = .returned (.int .i64 4611686018427387903) ∧ Below w.heap.size w w' := by
  have HB := Aside0.mk (Below.refl w.heap.size w)
  go_enter Try.func13, Try.ntmps13
  go_wp2_with fail
  go_loopw [5, 9] (fun u v wr => ∃ k : Nat, k ≤ 256 ∧ u = .int .i64 4611686018427387903 ∧ v = .int .i64 k ∧ Aside0 (Below w.heap.size w wr)) (fun _ v _ => 256 - (intOf v).toNat)
  case atStart => exact ⟨0, by omega, rfl, rfl, HB⟩
  case round =>
    clear HB
    obtain ⟨k, hk, rfl, rfl, HB⟩ := hrel
    by_cases hk2 : k < 256
    · go_wp2_with fail
      refine (of_nil _ _ _).mono ?_
      rintro e w1 ⟨rfl, hb⟩
      have HB1 := Aside0.mk (HB.out.trans (hb.mono HB.out.size))
      clear hb
      unfold hold
      go_wp2_with fail
      go_roundw
      case rel => exact ⟨k + 1, by omega, rfl, by go_num, ⟨below_alloc HB1.out _⟩⟩
      case measure => simp [intOf]; omega
    · have : k = 256 := by omega
      subst this
      go_wp2_with fail
      go_ret
      exact ⟨rfl, HB.out⟩
end Go.Proofs.Ytdibbcmfgdgdfaa.Le
