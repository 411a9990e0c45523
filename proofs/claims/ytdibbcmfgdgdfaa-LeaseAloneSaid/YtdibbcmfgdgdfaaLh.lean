import Derived.Test.YtdibbcmfgdgdfaaLg
namespace Go.Proofs.Ytdibbcmfgdgdfaa.Le
open Go.RowKit Go.Proofs.YtdibbcmfgdgdfaaW.PrintWords Go.Proofs.YtdibbcmfgdgdfaaW.PrintLast Go.Proofs.YtdibbcmfgdgdfaaW.PrintMore
open PLe
attribute [local go_sem] max2_int min2_int max_two min_two max_three min_three max_four min_four
set_option linter.unusedVariables false
set_option linter.unusedSimpArgs false

theorem own_only {w W : World} {g base : Nat} {e : TypeId} {size n : Nat} {v : Value} {xs : List Value} (h : w.ownsRow base e size v n xs) (hk : Only w W g) (hg : g < base) : W.ownsRow base e size v n xs := by
  obtain ⟨h1, h2⟩ := h
  refine ⟨h1, ?_⟩
  rcases h2 with h2 | ⟨b, cap, cur, rfl, hb, hh, r⟩
  · exact Or.inl h2
  · exact Or.inr ⟨b, cap, cur, rfl, hb, hk.blk hh (by omega), r⟩
theorem Try.info3 : (Try.prog.info? 3).map (fun i => (i.zero, i.size, i.bytes)) = some (some (.int .i64 0), 1, 8) := by kernel_rfl
/-- which of the first k are held -/
def heldL (s : Dk) : Nat → List Int
  | 0 => []
  | k + 1 => if heldB s k = true then heldL s k ++ [(k : Int)] else heldL s k
theorem heldL_len (s : Dk) : ∀ k, (heldL s k).length ≤ k
  | 0 => Nat.le_refl _
  | k + 1 => by have := heldL_len s k; unfold heldL; split <;> simp <;> omega

set_option maxHeartbeats 1000000 in
set_option maxRecDepth 100000 in
theorem heldl_any (g : Nat) (s : Dk) (now : Int) (w : World) (hD : Dsk w g s) :
    Calls Try.prog 8 #[.pointer (some ⟨g, 0, none⟩), .int .i64 now] w fun e w' => ∃ A c, e = .returned (.slice A (heldL (tickD s now) 256).length c) ∧ Dsk w' g (tickD s now) ∧ Only w w' g := by
  have hlt := hD.lt
  have HD : Aside0 (Dsk w g (stK s now 0)) := ⟨hD⟩
  have HO := Aside0.mk (Only.refl w g)
  clear hD
  go_enter Try.func8, Try.ntmps8
  go_wp2_with fail
  go_loopw [5, 9] (fun u v wr => ∃ k : Nat, k ≤ 256 ∧ v = .int .i64 k ∧ Aside0 (wr.ownsRow w.heap.size 3 1 u (heldL (tickD s now) k).length ((heldL (tickD s now) k).map (Value.int .i64))) ∧ Aside0 (Dsk wr g (stK s now k)) ∧ Aside0 (Only w wr g)) (fun _ v _ => 256 - (intOf v).toNat)
  case atStart => exact ⟨0, by omega, rfl, ⟨World.ownsRow_nil _ _ _ _⟩, HD, HO⟩
  case round =>
    clear HD HO
    obtain ⟨k, hk, rfl, HU, HD, HO⟩ := hrel
    by_cases hk2 : k < 256
    · have hst : stK s now (k + 1) = tickD s now := by unfold stK; rw [if_neg (by omega)]
      have HST := Aside0.mk hst
      have hln := heldL_len (tickD s now) k
      clear hst
      cases hh : heldB (tickD s now) k with
      | true =>
        have HH : Aside0 (heldB (tickD (stK s now k) now) k = true) := ⟨by rw [tick_stK]; exact hh⟩
        have HN : Aside0 (heldL (tickD s now) (k + 1) = heldL (tickD s now) k ++ [(k : Int)]) := ⟨by rw [heldL, if_pos hh]⟩
        clear hh
        go_wp2_with fail
        refine (of_yes g (stK s now k) now k hk2 wr HD.out HH.out).mono ?_
        rintro e w1 ⟨rfl, hD1, hO1⟩
        rw [tick_stK] at hD1
        have HD1 := Aside0.mk hD1
        have HO1 := Aside0.mk (HO.out.trans hO1)
        have HU1 := Aside0.mk (own_only HU.out hO1 hlt)
        clear hD1 hO1 HU HD
        have hsz : w.heap.size ≤ w1.heap.size := HO1.out.1
        unfold hold
        obtain ⟨i0, hi, hz0, hz1, hz2⟩ := info_parts Try.info3
        generalize hL : heldL (tickD s now) k = hl at *
        have HLq := Aside0.mk hL
        clear hL
        go_wp2_with (at_builtin; refine wpList_append_own _ rfl _ _ 30 rfl w.heap.size 3 i0 (.int .i64 0) 1 8 Try.underlying30 hi hz0 hz1 hz2 rfl (by decide) _ _ _ rfl ((HU1.out.alloc _).alloc _) ⟨w1.heap.size + 1, 0, none⟩ 1 1 [.int .i64 k] rfl rfl ?c1 ?c2 ?c3 ?c4 ?c5 ?_)
        case c1 => exact fun j u hu => by simpa using cell_one_new (w1.alloc (.cells #[.int .i64 ((stK s now k).who k), .int .i64 ((stK s now k).tok k), .int .i64 ((stK s now k).en k)] 27)) (.int .i64 k) 3 j u hu
        case c2 => intro u hu; simp at hu; subst hu; rfl
        case c3 => unfold maxLen; omega
        case c4 => omega
        case c5 => simp; omega
        intro v1 w2 hown1 hgrow1 _
        have hrow : ∀ b, u5.ownBlock = some b → w.heap.size ≤ b := fun b hb => (HU1.out.lt b hb).1
        have HD2 : Aside0 (Dsk w2 g (tickD s now)) := ⟨by
          have := ((HD1.out.alloc (.cells #[.int .i64 ((stK s now k).who k), .int .i64 ((stK s now k).tok k), .int .i64 ((stK s now k).en k)] 27)).alloc (.cells #[.int .i64 k] 3))
          exact (hgrow1.block g this.lt (fun e => by have := hrow g e.symm; omega)).trans this⟩
        have HO2 : Aside0 (Only w w2 g) := ⟨by
          refine ⟨by have := hgrow1.size; simp at this; omega, by rw [hgrow1.os]; exact HO1.out.2.1, by rw [hgrow1.tape]; exact HO1.out.2.2.1, by rw [hgrow1.output]; exact HO1.out.2.2.2.1, fun j hj hne => ?_⟩
          rw [hgrow1.block j (by simp; omega) (fun e => by have := hrow j e.symm; omega), Below.heap_alloc _ _ _ (by simp; omega), Below.heap_alloc _ _ _ (by omega)]
          exact HO1.out.2.2.2.2 j hj hne⟩
        have HU2 := Aside0.mk hown1
        clear hown1 hgrow1 hrow HU1 HD1 HO1
        go_wp2_with fail
        go_roundw
        case rel =>
          refine ⟨k + 1, by omega, by go_num, ⟨?_⟩, ⟨by rw [HST.out]; exact HD2.out⟩, HO2⟩
          rw [HN.out]; simpa using HU2.out
        case measure => simp [intOf]; omega
      | false =>
        have HH : Aside0 (heldB (tickD (stK s now k) now) k = false) := ⟨by rw [tick_stK]; exact hh⟩
        have HN : Aside0 (heldL (tickD s now) (k + 1) = heldL (tickD s now) k) := ⟨by rw [heldL, if_neg (by rw [hh]; decide)]⟩
        clear hh
        go_wp2_with fail
        refine (of_no g (stK s now k) now k hk2 wr HD.out HH.out).mono ?_
        rintro e w1 ⟨rfl, hD1, hO1⟩
        rw [tick_stK] at hD1
        have HD1 := Aside0.mk hD1
        have HO1 := Aside0.mk (HO.out.trans hO1)
        have HU1 := Aside0.mk (own_only HU.out hO1 hlt)
        clear hD1 hO1
        unfold hold
        go_wp2_with fail
        go_roundw
        case rel => exact ⟨k + 1, by omega, by go_num, ⟨by rw [HN.out]; exact HU1.out.alloc _⟩, ⟨by rw [HST.out]; exact HD1.out.alloc _⟩, ⟨HO1.out.alloc _⟩⟩
        case measure => simp [intOf]; omega
    · have : k = 256 := by omega
      subst this
      obtain ⟨A, c, rfl⟩ : ∃ A c, u5 = .slice A (heldL (tickD s now) 256).length c := by
        rcases HU.out.2 with ⟨h, h0⟩ | ⟨b, cap, _, h, _⟩
        · exact ⟨none, 0, by rw [h, h0]⟩
        · exact ⟨_, cap, h⟩
      go_wp2_with fail
      go_ret
      exact ⟨A, c, rfl, HD.out, HO.out⟩

set_option maxHeartbeats 400000 in
set_option maxRecDepth 100000 in
theorem heldl_nil (now : Int) (w : World) :
    Calls Try.prog 8 #[.pointer none, .int .i64 now] w fun e w' => e = .returned (.slice none 0 0) ∧ Below w.heap.size w w' := by
  have HB := Aside0.mk (Below.refl w.heap.size w)
  go_enter Try.func8, Try.ntmps8
  go_wp2_with fail
  go_loopw [5, 9] (fun u v wr => ∃ k : Nat, k ≤ 256 ∧ u = .slice none 0 0 ∧ v = .int .i64 k ∧ Aside0 (Below w.heap.size w wr)) (fun _ v _ => 256 - (intOf v).toNat)
  case atStart => exact ⟨0, by omega, rfl, rfl, HB⟩
  case round =>
    clear HB
    obtain ⟨k, hk, rfl, rfl, HB⟩ := hrel
    by_cases hk2 : k < 256
    · go_wp2_with fail
      refine (of_nil _ _ _).mono ?_
      rintro e w1 ⟨rfl, hb⟩
      have HB1 := Aside0.mk (HB.out.trans (hb.mono HB.out.size))
      clear hb
      unfold hold
      go_wp2_with fail
      go_roundw
      case rel => exact ⟨k + 1, by omega, rfl, by go_num, ⟨below_alloc HB1.out _⟩⟩
      case measure => simp [intOf]; omega
    · have : k = 256 := by omega
      subst this
      go_wp2_with fail
      go_ret
      exact ⟨rfl, HB.out⟩
end Go.Proofs.Ytdibbcmfgdgdfaa.Le
