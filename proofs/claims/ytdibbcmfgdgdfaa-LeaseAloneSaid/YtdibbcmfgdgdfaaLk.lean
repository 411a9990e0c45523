import Derived.Test.YtdibbcmfgdgdfaaLj
namespace Go.Proofs.Ytdibbcmfgdgdfaa.Le
open Go.RowKit Go.Proofs.YtdibbcmfgdgdfaaW.PrintWords Go.Proofs.YtdibbcmfgdgdfaaW.PrintLast Go.Proofs.YtdibbcmfgdgdfaaW.PrintMore
open PLe
attribute [local go_sem] max2_int min2_int max_two min_two max_three min_three max_four min_four
set_option linter.unusedVariables false
set_option linter.unusedSimpArgs false

theorem u16w (n : Int) (h : 0 ≤ n ∧ n ≤ 65535) : IntKind.u16.wrap n = n := by
  simp [IntKind.wrap, IntKind.bits, IntKind.signed]; omega
theorem nx_of (x : Int) (z0 : 0 ≤ x) (z1 : x < 65536) : ∃ nx, wrap64 (1 + wrap64 ((IntKind.u16.wrap (x.tdiv 8)).tmod 4)) = nx ∧ 1 ≤ nx ∧ nx ≤ 4 := by
  refine ⟨_, rfl, ?_⟩
  rw [Int.tdiv_eq_ediv_of_nonneg z0, u16w _ (by omega), Int.tmod_eq_emod_of_nonneg (by omega)]
  have e : ∀ n : Int, -1000 ≤ n → n ≤ 1000 → wrap64 n = n := fun n h h' => by unfold wrap64; omega
  rw [e (x / 8 % 4) (by omega) (by omega), e _ (by omega) (by omega)]; omega
theorem lg_of (x : Int) (z0 : 0 ≤ x) (z1 : x < 65536) : ∃ nx, wrap64 (1 + wrap64 ((IntKind.u16.wrap (x.tdiv 32)).tmod 16)) = nx ∧ 1 ≤ nx ∧ nx ≤ 16 := by
  refine ⟨_, rfl, ?_⟩
  rw [Int.tdiv_eq_ediv_of_nonneg z0, u16w _ (by omega), Int.tmod_eq_emod_of_nonneg (by omega)]
  have e : ∀ n : Int, -1000 ≤ n → n ≤ 1000 → wrap64 n = n := fun n h h' => by unfold wrap64; omega
  rw [e (x / 32 % 16) (by omega) (by omega), e _ (by omega) (by omega)]; omega

set_option maxHeartbeats 4000000 in
set_option maxRecDepth 100000 in
theorem alone_any (gr : Int) (h0 : 0 ≤ gr) (h1 : gr ≤ 255) (A : Option Addr) (len cap : Nat) (z : Nat → Int) (w : World)
    (hz : ∀ i, i < len → (∃ a, A = some a ∧ a.block < w.heap.size ∧ w.cell? (a.add i) = some (.int .u16 (z i))) ∧ 0 ≤ z i ∧ z i < 65536) (hlen : len ≤ 9223372036854775807) :
    Calls Try.prog 4 #[.int .u8 gr, .slice A len cap] w fun e w' => e = .returned (.bool true) ∧ Below w.heap.size w w' := by
  have HZ := Aside0.mk hz
  clear hz
  go_enter Try.func4, Try.ntmps4
  go_wp2_with fail
  refine (fixed_any w).mono ?_
  rintro e w1 ⟨rfl, hB⟩
  have HB := Aside0.mk hB
  clear hB
  by_cases hl : (150 : Int) < (len : Int)
  · go_wp2_with fail
    go_ret
    exact ⟨rfl, HB.out⟩
  · go_wp2_with fail
    refine (new_any gr w1 h0 (by omega)).mono ?_
    rintro e w2 ⟨g, rfl, hg, hD, hB⟩
    have HD := Aside0.mk hD
    have hg2 : w.heap.size ≤ g := Nat.le_trans HB.out.size hg
    replace HB : Aside0 (Below w.heap.size w w2) := ⟨below_then HB.out HB.out.size hB⟩
    clear hD hB hg
    go_wp2_with fail
    go_loopw [6, 7, 8, 9, 27] (fun a b c d e wr => ∃ (k : Nat) (s : Dk) (now who en tok : Int), k ≤ len ∧ a = .int .i64 now ∧ b = .int .i64 who ∧ c = .int .i64 en ∧ d = .int .i64 tok ∧ e = .int .i64 k ∧ Aside0 (Al s gr now who en tok k) ∧ Aside0 (Dsk wr g s) ∧ Aside0 (Below w.heap.size w wr)) (fun _ _ _ _ v _ => 256 - (intOf v).toNat)
    case atStart => exact ⟨0, _, 0, 0, 0, 0, by omega, rfl, rfl, rfl, rfl, rfl, ⟨Al.start gr h0 h1⟩, HD, HB⟩
    case round =>
      clear HD HB
      obtain ⟨k, s, now, who, en, tok, hk, rfl, rfl, rfl, rfl, rfl, HA, HD, HB⟩ := hrel
      by_cases hk2 : k < len
      · obtain ⟨⟨a, rfl, hab, hcz⟩, z0, z1⟩ := HZ.out k hk2
        have hc : wr.cell? (a.add k) = some (.int .u16 (z k)) := by rw [← hcz]; exact HB.out.cell (p := a.add k) (by unfold Addr.add; split <;> exact hab)
        obtain ⟨x, hx⟩ : ∃ x, z k = x := ⟨_, rfl⟩
        rw [hx] at hc z0 z1
        clear hcz hx
        have n0 := HA.out.n0
        have n1 := HA.out.n1
        go_wp2_with fail
        obtain ⟨nx, hnx, x0, x1⟩ : ∃ nx, wrap64 (1 + wrap64 ((IntKind.u16.wrap (x.tdiv 8)).tmod 4)) = nx ∧ 1 ≤ nx ∧ nx ≤ 4 := nx_of x z0 z1
        obtain ⟨lg, hlg, l0, l1⟩ : ∃ lg, wrap64 (1 + wrap64 ((IntKind.u16.wrap (x.tdiv 32)).tmod 16)) = lg ∧ 1 ≤ lg ∧ lg ≤ 16 := lg_of x z0 z1
        obtain ⟨nw, hnw⟩ : ∃ nw, now + x % 8 = nw := ⟨_, rfl⟩
        have hk3 : k < 150 := by omega
        have hT : Aside0 ((tickD s nw).now = nw) := ⟨hnw ▸ HA.out.tick hk3 (x % 8) (by omega) (by omega)⟩
        have HN : Aside0 (Al (tickD s nw) gr nw who en tok (k + 1)) := ⟨hnw ▸ HA.out.next hk3 (x % 8) (by omega) (by omega)⟩
        have ht0 := HA.out.t0
        have ht1 := HA.out.t1
        have htk := HA.out.ftok
        have HA2 : Aside0 (0 ≤ nw ∧ nw ≤ 10000) := ⟨by omega⟩
        rw [hnx, hlg, hnw]
        clear hnx hlg hnw z0 z1 hc
        cases hb : takeB (tickD s nw) 9 nx with
        | true =>
          refine (take_busy g s nw nx lg 9 (by decide) x0 l0 (by omega) _ HD.out hb).mono ?_
          rintro e w3 ⟨rfl, hD, hO⟩
          replace HD : Aside0 (Dsk (w3.alloc (.cells #[.int .i64 0, .int .i64 0, .int .i64 0] 27)) g (tickD s nw)) := ⟨hD.alloc _⟩
          replace HB : Aside0 (Below w.heap.size w (w3.alloc (.cells #[.int .i64 0, .int .i64 0, .int .i64 0] 27))) := ⟨below_alloc (belowO HB.out hO hg2) _⟩
          clear hD hO hb htk
          unfold hold
          go_wp2_with fail
          have hag : tickD (tickD s nw) nw = (tickD s nw) := HN.out.again hT.out (by omega)
          have hheld := HN.out.held hT.out
          cases hd : decide (nw < en) with
          | true =>
            have hh : heldB (tickD (tickD s nw) nw) 9 = true := by rw [hag, hheld]; exact hd
            have hw0 : who ≠ 0 := fun e => by have := HN.out.fen e; have := of_decide_eq_true hd; have := HA2.out; omega
            refine (of_yes g (tickD s nw) nw 9 (by decide) _ HD.out hh).mono ?_
            rintro e w4 ⟨rfl, hD, hO⟩
            rw [hag] at hD
            rw [(HN.out.fwho hw0).1, (HN.out.fwho hw0).2, HN.out.ftok]
            clear hw0
            have HB3 : Aside0 (Below w.heap.size w w4) := ⟨belowO HB.out hO hg2⟩
            have HD3 : Aside0 (Dsk w4 g (tickD s nw)) := ⟨hD⟩
            clear hD hO hag hheld hh
            unfold hold
            go_wp2_with fail
            go_roundw
            case rel => exact ⟨k + 1, _, nw, who, en, tok, by omega, rfl, rfl, rfl, rfl, by go_num, HN, ⟨HD3.out.alloc _⟩, ⟨below_alloc HB3.out _⟩⟩
            case measure => simp [intOf]; omega
          | false =>
            have hh : heldB (tickD (tickD s nw) nw) 9 = false := by rw [hag, hheld]; exact hd
            refine (of_no g (tickD s nw) nw 9 (by decide) _ HD.out hh).mono ?_
            rintro e w4 ⟨rfl, hD, hO⟩
            rw [hag] at hD
            have HB3 : Aside0 (Below w.heap.size w w4) := ⟨belowO HB.out hO hg2⟩
            have HD3 : Aside0 (Dsk w4 g (tickD s nw)) := ⟨hD⟩
            clear hD hO hag hheld hh
            unfold hold
            go_wp2_with fail
            go_roundw
            case rel => exact ⟨k + 1, _, nw, who, en, tok, by omega, rfl, rfl, rfl, rfl, by go_num, HN, ⟨HD3.out.alloc _⟩, ⟨below_alloc HB3.out _⟩⟩
            case measure => simp [intOf]; omega
        | false =>
          have hfr := HN.out.free hT.out (by omega) nx hb
          have hta := HN.out.take hT.out (by omega) nx lg x0 x1 l0 l1 (by omega) (by omega)
          refine (take_ok g s nw nx lg 9 (by decide) x0 l0 (by omega) _ HD.out hb (by omega)).mono ?_
          rintro e w3 ⟨rfl, hD, hO⟩
          rw [htk, hT.out, HN.out.add lg l0 l1 (by omega)]
          replace HD : Aside0 (Dsk (w3.alloc (.cells #[.int .i64 nx, .int .i64 (tok + 1), .int .i64 (nw + lg)] 27)) g (takeS (tickD s nw) 9 nx lg)) := ⟨hD.alloc _⟩
          replace HB : Aside0 (Below w.heap.size w (w3.alloc (.cells #[.int .i64 nx, .int .i64 (tok + 1), .int .i64 (nw + lg)] 27))) := ⟨below_alloc (belowO HB.out hO hg2) _⟩
          replace HN : Aside0 (Al (takeS (tickD s nw) 9 nx lg) gr nw nx (nw + lg) (tok + 1) (k + 1)) := ⟨hta⟩
          clear hD hO hb htk hta
          have q1 : decide (nw < en) = false := decide_eq_false hfr.1
          have q2 : decide (tok + 1 ≤ tok) = false := decide_eq_false (by omega)
          have hfr2 := Aside0.mk hfr.2
          clear hfr
          unfold hold
          rcases hfr2.out with e1 | ⟨e1, e2⟩ | ⟨e1, e2, e3⟩
          · have q3 : (who != 0) = false := by simp [e1]
            clear e1
            go_wp2_with fail
            go_region
            go_wp2_with fail
            have hag : tickD (takeS (tickD s nw) 9 nx lg) nw = (takeS (tickD s nw) 9 nx lg) := HN.out.again hT.out (by omega)
            have hheld := HN.out.held hT.out
            replace HD : Aside0 (Dsk (w3.alloc (.cells #[.int .i64 nx, .int .i64 (tok + 1), .int .i64 (nw + lg)] 27)).drew g (takeS (tickD s nw) 9 nx lg)) := ⟨HD.out.drew⟩
            replace HB : Aside0 (Below w.heap.size w (w3.alloc (.cells #[.int .i64 nx, .int .i64 (tok + 1), .int .i64 (nw + lg)] 27)).drew) := ⟨below_drew HB.out⟩
            have hd : decide (nw < (nw + lg)) = true := decide_eq_true (by omega)
            have hh : heldB (tickD (takeS (tickD s nw) 9 nx lg) nw) 9 = true := by rw [hag, hheld]; exact hd
            have hw0 : nx ≠ 0 := fun e => by have := HN.out.fen e; have := of_decide_eq_true hd; have := HA2.out; omega
            refine (of_yes g (takeS (tickD s nw) 9 nx lg) nw 9 (by decide) _ HD.out hh).mono ?_
            rintro e w4 ⟨rfl, hD, hO⟩
            rw [hag] at hD
            rw [(HN.out.fwho hw0).1, (HN.out.fwho hw0).2, HN.out.ftok]
            clear hw0
            have HB3 : Aside0 (Below w.heap.size w w4) := ⟨belowO HB.out hO hg2⟩
            have HD3 : Aside0 (Dsk w4 g (takeS (tickD s nw) 9 nx lg)) := ⟨hD⟩
            clear hD hO hag hheld hh
            unfold hold
            go_wp2_with fail
            go_roundw
            case rel => exact ⟨k + 1, _, nw, nx, (nw + lg), (tok + 1), by omega, rfl, rfl, rfl, rfl, by go_num, HN, ⟨HD3.out.alloc _⟩, ⟨below_alloc HB3.out _⟩⟩
            case measure => simp [intOf]; omega
          · have q3 : (who != 0) = true := by simp [e1]
            have q4 : (nx != who) = false := by simp [e2]
            clear e1 e2
            go_wp2_with fail
            go_region
            go_wp2_with fail
            have hag : tickD (takeS (tickD s nw) 9 nx lg) nw = (takeS (tickD s nw) 9 nx lg) := HN.out.again hT.out (by omega)
            have hheld := HN.out.held hT.out
            replace HD : Aside0 (Dsk (w3.alloc (.cells #[.int .i64 nx, .int .i64 (tok + 1), .int .i64 (nw + lg)] 27)).drew g (takeS (tickD s nw) 9 nx lg)) := ⟨HD.out.drew⟩
            replace HB : Aside0 (Below w.heap.size w (w3.alloc (.cells #[.int .i64 nx, .int .i64 (tok + 1), .int .i64 (nw + lg)] 27)).drew) := ⟨below_drew HB.out⟩
            have hd : decide (nw < (nw + lg)) = true := decide_eq_true (by omega)
            have hh : heldB (tickD (takeS (tickD s nw) 9 nx lg) nw) 9 = true := by rw [hag, hheld]; exact hd
            have hw0 : nx ≠ 0 := fun e => by have := HN.out.fen e; have := of_decide_eq_true hd; have := HA2.out; omega
            refine (of_yes g (takeS (tickD s nw) 9 nx lg) nw 9 (by decide) _ HD.out hh).mono ?_
            rintro e w4 ⟨rfl, hD, hO⟩
            rw [hag] at hD
            rw [(HN.out.fwho hw0).1, (HN.out.fwho hw0).2, HN.out.ftok]
            clear hw0
            have HB3 : Aside0 (Below w.heap.size w w4) := ⟨belowO HB.out hO hg2⟩
            have HD3 : Aside0 (Dsk w4 g (takeS (tickD s nw) 9 nx lg)) := ⟨hD⟩
            clear hD hO hag hheld hh
            unfold hold
            go_wp2_with fail
            go_roundw
            case rel => exact ⟨k + 1, _, nw, nx, (nw + lg), (tok + 1), by omega, rfl, rfl, rfl, rfl, by go_num, HN, ⟨HD3.out.alloc _⟩, ⟨below_alloc HB3.out _⟩⟩
            case measure => simp [intOf]; omega
          · have q3 : (who != 0) = true := by simp [e1]
            have q4 : (nx != who) = true := by simp [e2]
            have e5 : 0 ≤ en ∧ en ≤ 2000 := by have := HA.out.e0; have := HA.out.e1; omega
            have q5 : decide (nw < en + gr) = false := decide_eq_false e3
            clear e1 e2 e3
            go_wp2_with fail
            go_region
            go_wp2_with fail
            have hag : tickD (takeS (tickD s nw) 9 nx lg) nw = (takeS (tickD s nw) 9 nx lg) := HN.out.again hT.out (by omega)
            have hheld := HN.out.held hT.out
            replace HD : Aside0 (Dsk (w3.alloc (.cells #[.int .i64 nx, .int .i64 (tok + 1), .int .i64 (nw + lg)] 27)).drew g (takeS (tickD s nw) 9 nx lg)) := ⟨HD.out.drew⟩
            replace HB : Aside0 (Below w.heap.size w (w3.alloc (.cells #[.int .i64 nx, .int .i64 (tok + 1), .int .i64 (nw + lg)] 27)).drew) := ⟨below_drew HB.out⟩
            have hd : decide (nw < (nw + lg)) = true := decide_eq_true (by omega)
            have hh : heldB (tickD (takeS (tickD s nw) 9 nx lg) nw) 9 = true := by rw [hag, hheld]; exact hd
            have hw0 : nx ≠ 0 := fun e => by have := HN.out.fen e; have := of_decide_eq_true hd; have := HA2.out; omega
            refine (of_yes g (takeS (tickD s nw) 9 nx lg) nw 9 (by decide) _ HD.out hh).mono ?_
            rintro e w4 ⟨rfl, hD, hO⟩
            rw [hag] at hD
            rw [(HN.out.fwho hw0).1, (HN.out.fwho hw0).2, HN.out.ftok]
            clear hw0
            have HB3 : Aside0 (Below w.heap.size w w4) := ⟨belowO HB.out hO hg2⟩
            have HD3 : Aside0 (Dsk w4 g (takeS (tickD s nw) 9 nx lg)) := ⟨hD⟩
            clear hD hO hag hheld hh
            unfold hold
            go_wp2_with fail
            go_roundw
            case rel => exact ⟨k + 1, _, nw, nx, (nw + lg), (tok + 1), by omega, rfl, rfl, rfl, rfl, by go_num, HN, ⟨HD3.out.alloc _⟩, ⟨below_alloc HB3.out _⟩⟩
            case measure => simp [intOf]; omega
      · have : k = len := by omega
        subst this
        go_wp2_with fail
        go_ret
        exact ⟨rfl, HB.out⟩
end Go.Proofs.Ytdibbcmfgdgdfaa.Le
