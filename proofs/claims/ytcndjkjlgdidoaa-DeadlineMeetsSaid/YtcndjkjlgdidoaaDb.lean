import Derived.Test.YtcndjkjlgdidoaaDa
namespace Go.Proofs.Ytcndjkjlgdidoaa.Da
open Go.RowKit Go.Proofs.YtcndjkjlgdidoaaW.PrintWords Go.Proofs.YtcndjkjlgdidoaaW.PrintLast Go.Proofs.YtcndjkjlgdidoaaW.PrintMore
open PDl
set_option linter.unusedVariables false
set_option linter.unusedSimpArgs false

/-- the first of the first k whose deadline is the least, of those of which something is left; -1: there is none -/
def best (L D : Nat → Int) : Nat → Int
  | 0 => -1
  | k + 1 => if 0 < L k ∧ (best L D k < 0 ∨ D k < D (best L D k).toNat) then (k : Int) else best L D k
theorem best_bd (L D : Nat → Int) : ∀ k : Nat, -1 ≤ best L D k ∧ best L D k < k
  | 0 => by simp [best]
  | k + 1 => by
    have := best_bd L D k
    unfold best; split <;> omega
theorem best_yes {L D : Nat → Int} {k : Nat} (h : 0 < L k) (h2 : best L D k < 0 ∨ D k < D (best L D k).toNat) : best L D (k + 1) = k := by
  rw [best, if_pos ⟨h, h2⟩]
theorem best_no {L D : Nat → Int} {k : Nat} (h : ¬ 0 < L k) : best L D (k + 1) = best L D k := by
  rw [best, if_neg (fun x => h x.1)]
theorem best_no2 {L D : Nat → Int} {k : Nat} (h1 : ¬ best L D k < 0) (h2 : ¬ D k < D (best L D k).toNat) : best L D (k + 1) = best L D k := by
  rw [best, if_neg (fun x => x.2.elim h1 h2)]

set_option maxHeartbeats 400000 in
set_option maxRecDepth 100000 in
theorem next_any (g gl gd gm n : Nat) (A0 : Option Addr) (c0 : Nat) (L D M : Nat → Int) (did : Value) (idle : Int) (w0 w : World)
    (hn : n ≤ 16) (hB : Below w0.heap.size w0 w) (hP : Pl w g gl gd gm n A0 c0 L D M did idle) :
    Calls Try.prog 16 #[.pointer (some ⟨g, 0, none⟩)] w fun e w' => e = .returned (.int .i64 (best L D n)) ∧ Pl w' g gl gd gm n A0 c0 L D M did idle ∧ Below w0.heap.size w0 w' ∧ Kept w w' (fun _ => False) := by
  have HB := Aside0.mk hB
  have HP := Aside0.mk hP
  have HK := Aside0.mk (Kept.refl w (fun _ => False))
  have hcz1 := hP.G1
  clear hB hP
  go_enter Try.func16, Try.ntmps16
  go_wp2
  go_loopw [3, 11] (fun u v wr => ∃ (k : Nat), k ≤ n ∧ u = .int .i64 (best L D k) ∧ v = .int .i64 k ∧ Aside0 (Pl wr g gl gd gm n A0 c0 L D M did idle) ∧ Aside0 (Below w0.heap.size w0 wr) ∧ Aside0 (Kept w wr (fun _ => False))) (fun _ v _ => n - (intOf v).toNat)
  case atStart => exact ⟨0, Nat.zero_le _, rfl, rfl, HP, HB, HK⟩
  case round =>
    clear hcz1 HP HB HK
    obtain ⟨k, hk, rfl, rfl, HP1, HB1, HK1⟩ := hrel
    by_cases hlt : k < n
    · have hcz1 := HP1.out.G1
      have hcz2 := HP1.out.G2
      have hL := HP1.out.L.cell hlt
      have hD := HP1.out.D.cell hlt
      have hbb := best_bd L D k
      have hk16 : (k : Int) ≤ 16 := by omega
      obtain ⟨b, hb⟩ : ∃ b, best L D k = b := ⟨_, rfl⟩
      rw [hb] at hbb ⊢
      by_cases h1 : 0 < L k
      · by_cases h2 : b < 0
        · have hy := Aside0.mk (best_yes h1 (.inl (by rw [hb]; exact h2)))
          replace hb := Aside0.mk hb
          have h1' : decide (0 < L k) = true := decide_eq_true h1
          have h2' : decide (b < 0) = true := decide_eq_true h2
          go_wp2_with fail
          go_quiet (fail)
          go_wp2
          go_roundw
          case rel => exact ⟨k + 1, by omega, by rw [hy.out], by go_num, ⟨HP1.out.drewN _⟩, ⟨pw_below_drewN HB1.out _⟩, ⟨HK1.out.drewN _⟩⟩
          case measure => simp [intOf]; omega
        · have hD2 := HP1.out.D.cell (i := b.toNat) (by omega)
          have h0b : 0 ≤ b := by omega
          have h1' : decide (0 < L k) = true := decide_eq_true h1
          have h2' : decide (b < 0) = false := decide_eq_false h2
          by_cases h3 : D k < D b.toNat
          · have hy := Aside0.mk (best_yes h1 (.inr (by rw [hb]; exact h3)))
            replace hb := Aside0.mk hb
            have h3' : decide (D k < D b.toNat) = true := decide_eq_true h3
            go_wp2_with fail
            go_quiet (fail)
            go_wp2
            go_roundw
            case rel => exact ⟨k + 1, by omega, by rw [hy.out], by go_num, ⟨HP1.out.drewN _⟩, ⟨pw_below_drewN HB1.out _⟩, ⟨HK1.out.drewN _⟩⟩
            case measure => simp [intOf]; omega
          · have hy := Aside0.mk (best_no2 (by rw [hb]; exact h2) (by rw [hb]; exact h3))
            replace hb := Aside0.mk hb
            have h3' : decide (D k < D b.toNat) = false := decide_eq_false h3
            go_wp2_with fail
            go_quiet (fail)
            go_wp2
            go_roundw
            case rel => exact ⟨k + 1, by omega, by rw [hy.out, hb.out], by go_num, ⟨HP1.out.drewN _⟩, ⟨pw_below_drewN HB1.out _⟩, ⟨HK1.out.drewN _⟩⟩
            case measure => simp [intOf]; omega
      · have hy := Aside0.mk (best_no (D := D) h1)
        replace hb := Aside0.mk hb
        have h1' : decide (0 < L k) = false := decide_eq_false h1
        go_wp2_with fail
        go_quiet (fail)
        go_wp2
        go_roundw
        case rel => exact ⟨k + 1, by omega, by rw [hy.out, hb.out], by go_num, ⟨HP1.out.drewN _⟩, ⟨pw_below_drewN HB1.out _⟩, ⟨HK1.out.drewN _⟩⟩
        case measure => simp [intOf]; omega
    · have hkl : k = n := by omega
      subst hkl
      go_wp2
      go_ret
      exact ⟨rfl, HP1.out, HB1.out, HK1.out⟩
end Go.Proofs.Ytcndjkjlgdidoaa.Da
