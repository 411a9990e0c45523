-- written by a program of this session (wip/myprint.py) over the kit's printer
import Derived.Test.YtfpheadbcemmiaaPScx0
import Derived.Test.YtfpheadbcemmiaaPScx1
import Derived.Test.YtfpheadbcemmiaaPScx2
import Derived.Test.YtfpheadbcemmiaaPScx3
import Derived.Test.YtfpheadbcemmiaaPScx4
import Derived.Test.YtfpheadbcemmiaaPScx5
namespace Go.Proofs.Ytfpheadbcemmiaa.PSc
open Go.RowKit Go.Proofs.YtfpheadbcemmiaaW.PrintWords Go.Proofs.YtfpheadbcemmiaaW.PrintLast Go.Proofs.YtfpheadbcemmiaaW.PrintMore
attribute [local go_sem] max2_int min2_int max_two min_two max_three min_three max_four min_four   -- for this text's walks alone
set_option linter.unusedVariables false
set_option linter.unusedSimpArgs false

attribute [local go_sem high] eqA23
/-! ### fuseelaw04_ScaleCycles: function 4 -/
def fuseelaw04_ScaleCycles.j0 : Nat → Int → Int → Bool → Int → Int → Option (Bool)
  | 0, _, _, _, _, _ => none
  | k + 1, x5, x6, x23, x175000, x175001 => if x23 = true then (some false) else ((fuseeref04_Nanos.f k x175000 x175001 x5).bind fun t178 => (if t178 < x6 then (some (x5 == 4611686018427387903)) else (if x5 = 0 then (some true) else ((fuseeref04_Nanos.f k x175000 x175001 (wrap64 (x5 - 1))).bind fun t179 => (some (decide (t179 < x6)))))))
def fuseelaw04_ScaleCycles.f (k : Nat) (a0_0 : Int) (a0_1 : Int) (a1 : Int) : Option (Bool) := (fuseelaw04_fixed.f k).bind fun t175 => (if t175 = true then ((fuseelaw04_right.f a0_0 a0_1).bind fun t176 => (if t176 = true then ((scale_Cycles.f k a0_0 a0_1 a1).bind fun t177 => (if t177 < 0 then (fuseelaw04_ScaleCycles.j0 k t177 (mn (mx a1 0) 4611686018427387903) true a0_0 a0_1) else (fuseelaw04_ScaleCycles.j0 k t177 (mn (mx a1 0) 4611686018427387903) (decide (t177 > 4611686018427387903)) a0_0 a0_1))) else (some true))) else (some false))
theorem fuseelaw04_ScaleCycles.mono_l : ∀ k, (∀ y0 y1 y2 y3 y4, LeO (fuseelaw04_ScaleCycles.j0 k y0 y1 y2 y3 y4) (fuseelaw04_ScaleCycles.j0 (k + 1) y0 y1 y2 y3 y4))
  | 0 => fun _ _ _ _ _ r h => by simp [fuseelaw04_ScaleCycles.j0] at h
  | k + 1 => by
    have ih0 := fuseelaw04_ScaleCycles.mono_l k
    · intro y0 y1 y2 y3 y4
      unfold fuseelaw04_ScaleCycles.j0
      repeat' first
      | (with_reducible exact ih0 _ _ _ _ _)
      | (with_reducible exact fuseelaw04_fixed.mono _)
      | (with_reducible exact fuseeref04_Nanos.mono _ _ _ _)
      | (with_reducible exact scale_Cycles.mono _ _ _ _)
      | (with_reducible exact LeO.refl _)
      | (with_reducible exact LeO.none _)
      | (with_reducible refine LeO.ite ?_ ?_)
      | (with_reducible refine LeO.bind ?_ (fun _ => ?_))
      | exact ih0 _ _ _ _ _
      | exact fuseelaw04_fixed.mono _
      | exact fuseeref04_Nanos.mono _ _ _ _
      | exact scale_Cycles.mono _ _ _ _
      | exact LeO.none _
      | refine LeO.ite ?_ ?_
      | refine LeO.bind ?_ (fun _ => ?_)
theorem fuseelaw04_ScaleCycles.mono : ∀ a0 a1 a2 k, LeO (fuseelaw04_ScaleCycles.f k a0 a1 a2) (fuseelaw04_ScaleCycles.f (k + 1) a0 a1 a2) := by
  intro a0 a1 a2 k
  have ih0 := fuseelaw04_ScaleCycles.mono_l k
  unfold fuseelaw04_ScaleCycles.f
  repeat' first
      | (with_reducible exact ih0 _ _ _ _ _)
      | (with_reducible exact fuseelaw04_fixed.mono _)
      | (with_reducible exact fuseeref04_Nanos.mono _ _ _ _)
      | (with_reducible exact scale_Cycles.mono _ _ _ _)
      | (with_reducible exact LeO.refl _)
      | (with_reducible exact LeO.none _)
      | (with_reducible refine LeO.ite ?_ ?_)
      | (with_reducible refine LeO.bind ?_ (fun _ => ?_))
      | exact ih0 _ _ _ _ _
      | exact fuseelaw04_fixed.mono _
      | exact fuseeref04_Nanos.mono _ _ _ _
      | exact scale_Cycles.mono _ _ _ _
      | exact LeO.none _
      | refine LeO.ite ?_ ?_
      | refine LeO.bind ?_ (fun _ => ?_)
set_option maxHeartbeats 8000000 in
set_option maxRecDepth 100000 in
theorem fuseelaw04_ScaleCycles.calls (k : Nat) (a0_0 : Int) (a0_1 : Int) (a1 : Int) (r : Bool) (w : World) (h : fuseelaw04_ScaleCycles.f k a0_0 a0_1 a1 = some r) :
    Calls Try.prog 4 #[.agg #[.int .i64 a0_0, .int .i64 a0_1], .int .i64 a1] w fun e w' => e = .returned (.bool r) ∧ Below w.heap.size w w' := by
  have hu23 := Try.underlying23
  have HB := Aside0.mk (Below.refl w.heap.size w)
  have H : ((fuseelaw04_fixed.f k).bind fun t175 => (if t175 = true then ((fuseelaw04_right.f a0_0 a0_1).bind fun t176 => (if t176 = true then ((scale_Cycles.f k a0_0 a0_1 a1).bind fun t177 => (if t177 < 0 then (fuseelaw04_ScaleCycles.j0 k t177 (mn (mx a1 0) 4611686018427387903) true a0_0 a0_1) else (fuseelaw04_ScaleCycles.j0 k t177 (mn (mx a1 0) 4611686018427387903) (decide (t177 > 4611686018427387903)) a0_0 a0_1))) else (some true))) else (some false))) = some r := h
  clear h
  replace H := Option.bind_eq_some_iff.mp H
  obtain ⟨t175, A30, H⟩ := H
  replace H : (if t175 = true then ((fuseelaw04_right.f a0_0 a0_1).bind fun t176 => (if t176 = true then ((scale_Cycles.f k a0_0 a0_1 a1).bind fun t177 => (if t177 < 0 then (fuseelaw04_ScaleCycles.j0 k t177 (mn (mx a1 0) 4611686018427387903) true a0_0 a0_1) else (fuseelaw04_ScaleCycles.j0 k t177 (mn (mx a1 0) 4611686018427387903) (decide (t177 > 4611686018427387903)) a0_0 a0_1))) else (some true))) else (some false)) = some r := H
  have A3 := Aside0.mk A30
  clear A30
  by_cases c4 : t175 = true
  · subst c4
    have H1 : ((fuseelaw04_right.f a0_0 a0_1).bind fun t176 => (if t176 = true then ((scale_Cycles.f k a0_0 a0_1 a1).bind fun t177 => (if t177 < 0 then (fuseelaw04_ScaleCycles.j0 k t177 (mn (mx a1 0) 4611686018427387903) true a0_0 a0_1) else (fuseelaw04_ScaleCycles.j0 k t177 (mn (mx a1 0) 4611686018427387903) (decide (t177 > 4611686018427387903)) a0_0 a0_1))) else (some true))) = some r := by rw [if_pos rfl] at H; exact H
    clear H
    have H := H1
    clear H1
    replace H := Option.bind_eq_some_iff.mp H
    obtain ⟨t176, A50, H⟩ := H
    replace H : (if t176 = true then ((scale_Cycles.f k a0_0 a0_1 a1).bind fun t177 => (if t177 < 0 then (fuseelaw04_ScaleCycles.j0 k t177 (mn (mx a1 0) 4611686018427387903) true a0_0 a0_1) else (fuseelaw04_ScaleCycles.j0 k t177 (mn (mx a1 0) 4611686018427387903) (decide (t177 > 4611686018427387903)) a0_0 a0_1))) else (some true)) = some r := H
    have A5 := Aside0.mk A50
    clear A50
    by_cases c6 : t176 = true
    · subst c6
      have H1 : ((scale_Cycles.f k a0_0 a0_1 a1).bind fun t177 => (if t177 < 0 then (fuseelaw04_ScaleCycles.j0 k t177 (mn (mx a1 0) 4611686018427387903) true a0_0 a0_1) else (fuseelaw04_ScaleCycles.j0 k t177 (mn (mx a1 0) 4611686018427387903) (decide (t177 > 4611686018427387903)) a0_0 a0_1))) = some r := by rw [if_pos rfl] at H; exact H
      clear H
      have H := H1
      clear H1
      replace H := Option.bind_eq_some_iff.mp H
      obtain ⟨t177, A70, H⟩ := H
      replace H : (if t177 < 0 then (fuseelaw04_ScaleCycles.j0 k t177 (mn (mx a1 0) 4611686018427387903) true a0_0 a0_1) else (fuseelaw04_ScaleCycles.j0 k t177 (mn (mx a1 0) 4611686018427387903) (decide (t177 > 4611686018427387903)) a0_0 a0_1)) = some r := H
      have A7 := Aside0.mk A70
      clear A70
      obtain ⟨ji8, hji8⟩ : ∃ j_ : Int, (mx a1 0) = j_ := ⟨_, rfl⟩
      replace H : (if t177 < 0 then (fuseelaw04_ScaleCycles.j0 k t177 (mn (ji8) 4611686018427387903) true a0_0 a0_1) else (fuseelaw04_ScaleCycles.j0 k t177 (mn (ji8) 4611686018427387903) (decide (t177 > 4611686018427387903)) a0_0 a0_1)) = some r := by first | (rw [hji8] at H; exact H) | (simp only [hji8] at H ⊢; exact H)
      (try rw [hji8] at A3)
      (try rw [hji8] at A5)
      (try rw [hji8] at A7)
      (try (have hji8l : 0 ≤ ji8 := by (rw [← hji8]; unfold mx; (repeat' split) <;> omega)))
      (try (have hji8m : 0 ≤ ji8 := by omega))
      have hji8_ : (if a1 < 0 then 0 else a1) = ji8 := hji8
      obtain ⟨ji9, hji9⟩ : ∃ j_ : Int, (mn (ji8) 4611686018427387903) = j_ := ⟨_, rfl⟩
      replace H : (if t177 < 0 then (fuseelaw04_ScaleCycles.j0 k t177 ji9 true a0_0 a0_1) else (fuseelaw04_ScaleCycles.j0 k t177 ji9 (decide (t177 > 4611686018427387903)) a0_0 a0_1)) = some r := by first | (rw [hji9] at H; exact H) | (simp only [hji9] at H ⊢; exact H)
      (try rw [hji9] at A3)
      (try rw [hji9] at A5)
      (try rw [hji9] at A7)
      have hji9_ : (if 4611686018427387903 < (ji8) then 4611686018427387903 else (ji8)) = ji9 := hji9
      have HC10 := Aside0.mk H
      clear H
      go_enter Try.func4, Try.ntmps4
      go_upto_region 7 with (first | ((with_reducible refine gate_dst (N := 2) rfl ?_); refine box_event ?hg (N := 2) ?hd (cs := #[.int .i64 a0_0, .int .i64 a0_1]) (t := 23) ?hr ?_; (case hd => rfl); (case hg => rfl); (case hr => first | (go_simp; done) | (go_simp; rfl)); intro gb174 hg w11 hbox hb; have n0_ := Aside0.mk (below_step (by repeat (first | (with_reducible first | exact HB.out | apply below_alloc | apply pw_below_drewN | apply below_drew1) | exact HB.out)) hb); have n1_ := Aside0.mk (hbox); have n2_ := Aside0.mk ((by rw [hg]; exact (below_size (by repeat (first | (with_reducible first | exact HB.out | apply below_alloc | apply pw_below_drewN | apply below_drew1) | exact HB.out))) : w.heap.size ≤ gb174)); have n3_ := Aside0.mk ((by rw [hg]; exact (below_size (by repeat (first | (with_reducible first | exact HB.out | apply below_alloc | apply pw_below_drewN | apply below_drew1) | exact HB.out))) : w.heap.size ≤ gb174)); clear HB; have HB := n0_; have BK174 := n1_; have GW174 := n2_; have GE174 := n3_; clear n0_ n1_ n2_ n3_; clear hb hbox hg) | ((with_reducible refine gate_callee (f := 7) rfl ?_); refine goesL_ (some 7) rfl rfl Try.func7 (by kernel_rfl) rfl #[] rfl (by (try simp only [List.map_toArray, List.map_cons, List.map_nil]); first | done | rfl | (simp only [List.length_drop, List.length_take]; rfl)) ?_; (with_reducible refine (fuseelaw04_fixed.calls k  true _ A3.out).mono ?_); rintro e w12 ⟨rfl, hb⟩; refine ⟨_, rfl, ?_⟩; have n0_ := Aside0.mk (blk_below (g := gb174) (o := .cells #[.int .i64 a0_0, .int .i64 a0_1] 23 (0, 0)) (by (with_reducible repeat (first | refine blk_drewN ?_ _ | refine blk_drew ?_ | refine blk_alloc ?_ _)); exact BK174.out) hb); have n1_ := Aside0.mk (below_step (by repeat (first | (with_reducible first | exact HB.out | apply below_alloc | apply pw_below_drewN | apply below_drew1 | refine below_set ?_ GE174.out) | exact HB.out)) hb); clear BK174; clear HB; have BK174 := n0_; have HB := n1_; clear n0_ n1_; (try clear hb); (try clear hb2); (try clear hk); (try clear hi); have hcz13_0 : w12.cell? ⟨gb174, 0, none⟩ = some (.int .i64 a0_0) := (blk_cell BK174.out 0).trans rfl; have hcz13_1 : w12.cell? ⟨gb174, 1, none⟩ = some (.int .i64 a0_1) := (blk_cell BK174.out 1).trans rfl; have hfz13_0 := blk_frozen BK174.out 0; have hfz13_1 := blk_frozen BK174.out 1) | ((with_reducible refine gate_callee (f := 10) rfl ?_); refine goesL_ (some 10) rfl rfl Try.func10 (by kernel_rfl) rfl #[.agg #[.int .i64 a0_0, .int .i64 a0_1]] rfl (by (try simp only [List.map_toArray, List.map_cons, List.map_nil]); first | done | rfl | (simp only [List.length_drop, List.length_take]; rfl)) ?_; (with_reducible refine (fuseelaw04_right.calls a0_0 a0_1 true _ A5.out).mono ?_); rintro e w14 ⟨rfl, hb⟩; refine ⟨_, rfl, ?_⟩; have n0_ := Aside0.mk (blk_below (g := gb174) (o := .cells #[.int .i64 a0_0, .int .i64 a0_1] 23 (0, 0)) (by (with_reducible repeat (first | refine blk_drewN ?_ _ | refine blk_drew ?_ | refine blk_alloc ?_ _)); exact BK174.out) hb); have n1_ := Aside0.mk (below_step (by repeat (first | (with_reducible first | exact HB.out | apply below_alloc | apply pw_below_drewN | apply below_drew1 | refine below_set ?_ GE174.out) | exact HB.out)) hb); clear BK174; clear HB; have BK174 := n0_; have HB := n1_; clear n0_ n1_; (try clear hb); (try clear hb2); (try clear hk); (try clear hi); have hcz15_0 : w14.cell? ⟨gb174, 0, none⟩ = some (.int .i64 a0_0) := (blk_cell BK174.out 0).trans rfl; have hcz15_1 : w14.cell? ⟨gb174, 1, none⟩ = some (.int .i64 a0_1) := (blk_cell BK174.out 1).trans rfl; have hfz15_0 := blk_frozen BK174.out 0; have hfz15_1 := blk_frozen BK174.out 1) | ((with_reducible refine gate_callee (f := 11) rfl ?_); refine goesL_ (some 14) rfl rfl Try.func11 (by kernel_rfl) rfl #[.agg #[.int .i64 a0_0, .int .i64 a0_1], .int .i64 a1] rfl (by (try simp only [List.map_toArray, List.map_cons, List.map_nil]); first | done | rfl | (simp only [List.length_drop, List.length_take]; rfl)) ?_; (with_reducible refine (scale_Cycles.calls k a0_0 a0_1 a1 t177 _ A7.out).mono ?_); rintro e w16 ⟨rfl, hb⟩; refine ⟨_, rfl, ?_⟩; have n0_ := Aside0.mk (blk_below (g := gb174) (o := .cells #[.int .i64 a0_0, .int .i64 a0_1] 23 (0, 0)) (by (with_reducible repeat (first | refine blk_drewN ?_ _ | refine blk_drew ?_ | refine blk_alloc ?_ _)); exact BK174.out) hb); have n1_ := Aside0.mk (below_step (by repeat (first | (with_reducible first | exact HB.out | apply below_alloc | apply pw_below_drewN | apply below_drew1 | refine below_set ?_ GE174.out) | exact HB.out)) hb); clear BK174; clear HB; have BK174 := n0_; have HB := n1_; clear n0_ n1_; (try clear hb); (try clear hb2); (try clear hk); (try clear hi)))
      (try simp only [Act.put, List.setIfInBounds_toArray, List.set_cons_zero, List.set_cons_succ])
      go_cut [23] (fun v23 wc => ∃ (kq : Nat) (x23_9 : Bool), v23 = .bool x23_9 ∧ Aside0 (fuseelaw04_ScaleCycles.j0 kq t177 ji9 x23_9 a0_0 a0_1 = some r) ∧ Aside0 (kq ≤ k) ∧ Aside0 (wc.heap[gb174]? = some (.cells #[.int .i64 a0_0, .int .i64 a0_1] 23 (0, 0))) ∧ Aside0 (Below w.heap.size w wc))
      case first =>
        have H := HC10.out
        clear HC10
        by_cases c17 : t177 < 0
        · rw [if_pos c17] at H
          have c17b0 : decide (t177 < 0) = true := decide_eq_true c17
          clear c17
          (first | rw [c17b0] | (simp only [i64_w, i32_w]; rw [c17b0]) | skip)
          have H' := Aside0.mk H
          clear H
          go_wp2
          go_meet
          case rel => exact ⟨_, (true), (by first | rfl | (simp; done) | (simp [*]; done)), H', ⟨by first | omega | exact Nat.le_refl _⟩, ⟨by (with_reducible repeat (first | refine blk_drewN ?_ _ | refine blk_drew ?_ | refine blk_alloc ?_ _)); exact BK174.out⟩, ⟨by repeat (first | (with_reducible first | exact HB.out | apply below_alloc | apply pw_below_drewN | apply below_drew1 | refine below_set ?_ GE174.out) | exact HB.out)⟩⟩
        · rw [if_neg c17] at H
          have c17b0 : decide (t177 < 0) = false := decide_eq_false c17
          clear c17
          (first | rw [c17b0] | (simp only [i64_w, i32_w]; rw [c17b0]) | skip)
          have H' := Aside0.mk H
          clear H
          go_wp2
          go_meet
          case rel => exact ⟨_, (decide (t177 > 4611686018427387903)), (by first | rfl | (simp; done) | (simp [*]; done)), H', ⟨by first | omega | exact Nat.le_refl _⟩, ⟨by (with_reducible repeat (first | refine blk_drewN ?_ _ | refine blk_drew ?_ | refine blk_alloc ?_ _)); exact BK174.out⟩, ⟨by repeat (first | (with_reducible first | exact HB.out | apply below_alloc | apply pw_below_drewN | apply below_drew1 | refine below_set ?_ GE174.out) | exact HB.out)⟩⟩
      case rest =>
        clear HC10
        try clear c1
        try clear p2
        try clear c4
        try clear c6
        try clear c7
        try clear c10
        try clear c11
        try clear c17
        try clear c17b0
        try clear hcz13_0
        try clear hcz13_1
        try clear hcz15_0
        try clear hcz15_1
        try clear hfz13_0
        try clear hfz13_1
        try clear hfz15_0
        try clear hfz15_1
        obtain ⟨kq, x23_9, rfl, HA, HJ9, BK174, HB⟩ := hcut
        cases kq with
        | zero => exact absurd HA.out (by simp [fuseelaw04_ScaleCycles.j0])
        | succ kj9 =>
          have H := HA.out
          clear HA
          simp only [fuseelaw04_ScaleCycles.j0] at H
          by_cases c18 : x23_9 = true
          · subst c18
            have H1 : (some false) = some r := by rw [if_pos rfl] at H; exact H
            clear H
            have H := H1
            clear H1
            obtain rfl := Option.some.inj H
            go_wp2
            go_ret
            exact ⟨by first | rfl | (simp [errW_none, errW_some] <;> rfl) | (simp only [← hji8, ← hji9]; first | rfl | (simp [errW_none, errW_some] <;> rfl)) | (simp [*, errW_none, errW_some] <;> rfl), by repeat (first | (with_reducible first | exact HB.out | apply below_alloc | apply pw_below_drewN | apply below_drew1 | refine below_set ?_ GE174.out) | exact HB.out)⟩
          · replace c18 := Bool.eq_false_iff.mpr c18
            subst c18
            have H1 : ((fuseeref04_Nanos.f kj9 a0_0 a0_1 t177).bind fun t178 => (if t178 < ji9 then (some (t177 == 4611686018427387903)) else (if t177 = 0 then (some true) else ((fuseeref04_Nanos.f kj9 a0_0 a0_1 (wrap64 (t177 - 1))).bind fun t179 => (some (decide (t179 < ji9))))))) = some r := by rw [if_neg (show ¬ (false = true) by decide)] at H; exact H
            clear H
            have H := H1
            clear H1
            replace H := Option.bind_eq_some_iff.mp H
            obtain ⟨t178, A190, H⟩ := H
            replace H : (if t178 < ji9 then (some (t177 == 4611686018427387903)) else (if t177 = 0 then (some true) else ((fuseeref04_Nanos.f kj9 a0_0 a0_1 (wrap64 (t177 - 1))).bind fun t179 => (some (decide (t179 < ji9)))))) = some r := H
            have A19 := Aside0.mk A190
            clear A190
            by_cases c20 : t178 < ji9
            · rw [if_pos c20] at H
              have c20b0 : decide (t178 < ji9) = true := decide_eq_true c20
              clear c20
              obtain rfl := Option.some.inj H
              have hcz21_0 : wc.cell? ⟨gb174, 0, none⟩ = some (.int .i64 a0_0) := (blk_cell BK174.out 0).trans rfl
              have hcz21_1 : wc.cell? ⟨gb174, 1, none⟩ = some (.int .i64 a0_1) := (blk_cell BK174.out 1).trans rfl
              have hfz21_0 := blk_frozen BK174.out 0
              have hfz21_1 := blk_frozen BK174.out 1
              go_wp2_with (first | ((with_reducible refine gate_callee (f := 12) rfl ?_); refine goesL_ (some 29) rfl rfl Try.func12 (by kernel_rfl) rfl #[.int .i64 a0_0, .int .i64 a0_1, .int .i64 t177] rfl (by (try simp only [List.map_toArray, List.map_cons, List.map_nil]); first | done | rfl | (simp only [List.length_drop, List.length_take]; rfl)) ?_; (with_reducible refine (fuseeref04_Nanos.calls kj9 a0_0 a0_1 t177 t178 _ A19.out).mono ?_); rintro e w22 ⟨rfl, hb⟩; refine ⟨_, rfl, ?_⟩; have n0_ := Aside0.mk (blk_below (g := gb174) (o := .cells #[.int .i64 a0_0, .int .i64 a0_1] 23 (0, 0)) (by (with_reducible repeat (first | refine blk_drewN ?_ _ | refine blk_drew ?_ | refine blk_alloc ?_ _)); exact BK174.out) hb); have n1_ := Aside0.mk (below_step (by repeat (first | (with_reducible first | exact HB.out | apply below_alloc | apply pw_below_drewN | apply below_drew1 | refine below_set ?_ GE174.out) | exact HB.out)) hb); clear BK174; clear HB; have BK174 := n0_; have HB := n1_; clear n0_ n1_; (try clear hb); (try clear hb2); (try clear hk); (try clear hi)))
              go_ret
              exact ⟨by first | rfl | (simp [errW_none, errW_some] <;> rfl) | (simp only [← hji8, ← hji9]; first | rfl | (simp [errW_none, errW_some] <;> rfl)) | (simp [*, errW_none, errW_some] <;> rfl), by repeat (first | (with_reducible first | exact HB.out | apply below_alloc | apply pw_below_drewN | apply below_drew1 | refine below_set ?_ GE174.out) | exact HB.out)⟩
            · rw [if_neg c20] at H
              have c20b0 : decide (t178 < ji9) = false := decide_eq_false c20
              clear c20
              by_cases c23 : t177 = 0
              · rw [if_pos c23] at H
                have c23b0 : (t177 == 0) = true := beq_iff_eq.mpr c23
                have c23b1 : (t177 != 0) = false := bne_eq_false_iff_eq.mpr c23
                clear c23
                obtain rfl := Option.some.inj H
                have hcz24_0 : wc.cell? ⟨gb174, 0, none⟩ = some (.int .i64 a0_0) := (blk_cell BK174.out 0).trans rfl
                have hcz24_1 : wc.cell? ⟨gb174, 1, none⟩ = some (.int .i64 a0_1) := (blk_cell BK174.out 1).trans rfl
                have hfz24_0 := blk_frozen BK174.out 0
                have hfz24_1 := blk_frozen BK174.out 1
                go_wp2_with (first | ((with_reducible refine gate_callee (f := 12) rfl ?_); refine goesL_ (some 29) rfl rfl Try.func12 (by kernel_rfl) rfl #[.int .i64 a0_0, .int .i64 a0_1, .int .i64 t177] rfl (by (try simp only [List.map_toArray, List.map_cons, List.map_nil]); first | done | rfl | (simp only [List.length_drop, List.length_take]; rfl)) ?_; (with_reducible refine (fuseeref04_Nanos.calls kj9 a0_0 a0_1 t177 t178 _ A19.out).mono ?_); rintro e w25 ⟨rfl, hb⟩; refine ⟨_, rfl, ?_⟩; have n0_ := Aside0.mk (blk_below (g := gb174) (o := .cells #[.int .i64 a0_0, .int .i64 a0_1] 23 (0, 0)) (by (with_reducible repeat (first | refine blk_drewN ?_ _ | refine blk_drew ?_ | refine blk_alloc ?_ _)); exact BK174.out) hb); have n1_ := Aside0.mk (below_step (by repeat (first | (with_reducible first | exact HB.out | apply below_alloc | apply pw_below_drewN | apply below_drew1 | refine below_set ?_ GE174.out) | exact HB.out)) hb); clear BK174; clear HB; have BK174 := n0_; have HB := n1_; clear n0_ n1_; (try clear hb); (try clear hb2); (try clear hk); (try clear hi)))
                go_ret
                exact ⟨by first | rfl | (simp [errW_none, errW_some] <;> rfl) | (simp only [← hji8, ← hji9]; first | rfl | (simp [errW_none, errW_some] <;> rfl)) | (simp [*, errW_none, errW_some] <;> rfl), by repeat (first | (with_reducible first | exact HB.out | apply below_alloc | apply pw_below_drewN | apply below_drew1 | refine below_set ?_ GE174.out) | exact HB.out)⟩
              · rw [if_neg c23] at H
                have c23b0 : (t177 == 0) = false := beq_eq_false_iff_ne.mpr c23
                have c23b1 : (t177 != 0) = true := bne_iff_ne.mpr c23
                replace H := Option.bind_eq_some_iff.mp H
                obtain ⟨t179, A260, H⟩ := H
                replace H : (some (decide (t179 < ji9))) = some r := H
                have A26 := Aside0.mk A260
                clear A260
                obtain rfl := Option.some.inj H
                have hcz27_0 : wc.cell? ⟨gb174, 0, none⟩ = some (.int .i64 a0_0) := (blk_cell BK174.out 0).trans rfl
                have hcz27_1 : wc.cell? ⟨gb174, 1, none⟩ = some (.int .i64 a0_1) := (blk_cell BK174.out 1).trans rfl
                have hfz27_0 := blk_frozen BK174.out 0
                have hfz27_1 := blk_frozen BK174.out 1
                go_wp2_with (first | ((with_reducible refine gate_callee (f := 12) rfl ?_); refine goesL_ (some 29) rfl rfl Try.func12 (by kernel_rfl) rfl #[.int .i64 a0_0, .int .i64 a0_1, .int .i64 t177] rfl (by (try simp only [List.map_toArray, List.map_cons, List.map_nil]); first | done | rfl | (simp only [List.length_drop, List.length_take]; rfl)) ?_; (with_reducible refine (fuseeref04_Nanos.calls kj9 a0_0 a0_1 t177 t178 _ A19.out).mono ?_); rintro e w28 ⟨rfl, hb⟩; refine ⟨_, rfl, ?_⟩; have n0_ := Aside0.mk (blk_below (g := gb174) (o := .cells #[.int .i64 a0_0, .int .i64 a0_1] 23 (0, 0)) (by (with_reducible repeat (first | refine blk_drewN ?_ _ | refine blk_drew ?_ | refine blk_alloc ?_ _)); exact BK174.out) hb); have n1_ := Aside0.mk (below_step (by repeat (first | (with_reducible first | exact HB.out | apply below_alloc | apply pw_below_drewN | apply below_drew1 | refine below_set ?_ GE174.out) | exact HB.out)) hb); clear BK174; clear HB; have BK174 := n0_; have HB := n1_; clear n0_ n1_; (try clear hb); (try clear hb2); (try clear hk); (try clear hi); have hcz29_0 : w28.cell? ⟨gb174, 0, none⟩ = some (.int .i64 a0_0) := (blk_cell BK174.out 0).trans rfl; have hcz29_1 : w28.cell? ⟨gb174, 1, none⟩ = some (.int .i64 a0_1) := (blk_cell BK174.out 1).trans rfl; have hfz29_0 := blk_frozen BK174.out 0; have hfz29_1 := blk_frozen BK174.out 1) | (go_at_call 12; (with_reducible refine (fuseeref04_Nanos.calls kj9 a0_0 a0_1 (wrap64 (t177 - 1)) t179 _ A26.out).mono ?_); rintro e w30 ⟨rfl, hb⟩; have n0_ := Aside0.mk (blk_below (g := gb174) (o := .cells #[.int .i64 a0_0, .int .i64 a0_1] 23 (0, 0)) (by (with_reducible repeat (first | refine blk_drewN ?_ _ | refine blk_drew ?_ | refine blk_alloc ?_ _)); exact BK174.out) hb); have n1_ := Aside0.mk (below_step (by repeat (first | (with_reducible first | exact HB.out | apply below_alloc | apply pw_below_drewN | apply below_drew1 | refine below_set ?_ GE174.out) | exact HB.out)) hb); clear BK174; clear HB; have BK174 := n0_; have HB := n1_; clear n0_ n1_; (try clear hb); (try clear hb2); (try clear hk); (try clear hi)))
                go_ret
                exact ⟨by first | rfl | (simp [errW_none, errW_some] <;> rfl) | (simp only [← hji8, ← hji9]; first | rfl | (simp [errW_none, errW_some] <;> rfl)) | (simp [*, errW_none, errW_some] <;> rfl), by repeat (first | (with_reducible first | exact HB.out | apply below_alloc | apply pw_below_drewN | apply below_drew1 | refine below_set ?_ GE174.out) | exact HB.out)⟩
    · replace c6 := Bool.eq_false_iff.mpr c6
      subst c6
      have H1 : (some true) = some r := by rw [if_neg (show ¬ (false = true) by decide)] at H; exact H
      clear H
      have H := H1
      clear H1
      obtain rfl := Option.some.inj H
      go_enter Try.func4, Try.ntmps4
      go_wp2_with (first | ((with_reducible refine gate_dst (N := 2) rfl ?_); refine box_event ?hg (N := 2) ?hd (cs := #[.int .i64 a0_0, .int .i64 a0_1]) (t := 23) ?hr ?_; (case hd => rfl); (case hg => rfl); (case hr => first | (go_simp; done) | (go_simp; rfl)); intro gb174 hg w31 hbox hb; have n0_ := Aside0.mk (below_step (by repeat (first | (with_reducible first | exact HB.out | apply below_alloc | apply pw_below_drewN | apply below_drew1) | exact HB.out)) hb); have n1_ := Aside0.mk (hbox); have n2_ := Aside0.mk ((by rw [hg]; exact (below_size (by repeat (first | (with_reducible first | exact HB.out | apply below_alloc | apply pw_below_drewN | apply below_drew1) | exact HB.out))) : w.heap.size ≤ gb174)); have n3_ := Aside0.mk ((by rw [hg]; exact (below_size (by repeat (first | (with_reducible first | exact HB.out | apply below_alloc | apply pw_below_drewN | apply below_drew1) | exact HB.out))) : w.heap.size ≤ gb174)); clear HB; have HB := n0_; have BK174 := n1_; have GW174 := n2_; have GE174 := n3_; clear n0_ n1_ n2_ n3_; clear hb hbox hg) | ((with_reducible refine gate_callee (f := 7) rfl ?_); refine goesL_ (some 7) rfl rfl Try.func7 (by kernel_rfl) rfl #[] rfl (by (try simp only [List.map_toArray, List.map_cons, List.map_nil]); first | done | rfl | (simp only [List.length_drop, List.length_take]; rfl)) ?_; (with_reducible refine (fuseelaw04_fixed.calls k  true _ A3.out).mono ?_); rintro e w32 ⟨rfl, hb⟩; refine ⟨_, rfl, ?_⟩; have n0_ := Aside0.mk (blk_below (g := gb174) (o := .cells #[.int .i64 a0_0, .int .i64 a0_1] 23 (0, 0)) (by (with_reducible repeat (first | refine blk_drewN ?_ _ | refine blk_drew ?_ | refine blk_alloc ?_ _)); exact BK174.out) hb); have n1_ := Aside0.mk (below_step (by repeat (first | (with_reducible first | exact HB.out | apply below_alloc | apply pw_below_drewN | apply below_drew1 | refine below_set ?_ GE174.out) | exact HB.out)) hb); clear BK174; clear HB; have BK174 := n0_; have HB := n1_; clear n0_ n1_; (try clear hb); (try clear hb2); (try clear hk); (try clear hi); have hcz33_0 : w32.cell? ⟨gb174, 0, none⟩ = some (.int .i64 a0_0) := (blk_cell BK174.out 0).trans rfl; have hcz33_1 : w32.cell? ⟨gb174, 1, none⟩ = some (.int .i64 a0_1) := (blk_cell BK174.out 1).trans rfl; have hfz33_0 := blk_frozen BK174.out 0; have hfz33_1 := blk_frozen BK174.out 1) | ((with_reducible refine gate_callee (f := 10) rfl ?_); refine goesL_ (some 10) rfl rfl Try.func10 (by kernel_rfl) rfl #[.agg #[.int .i64 a0_0, .int .i64 a0_1]] rfl (by (try simp only [List.map_toArray, List.map_cons, List.map_nil]); first | done | rfl | (simp only [List.length_drop, List.length_take]; rfl)) ?_; (with_reducible refine (fuseelaw04_right.calls a0_0 a0_1 false _ A5.out).mono ?_); rintro e w34 ⟨rfl, hb⟩; refine ⟨_, rfl, ?_⟩; have n0_ := Aside0.mk (blk_below (g := gb174) (o := .cells #[.int .i64 a0_0, .int .i64 a0_1] 23 (0, 0)) (by (with_reducible repeat (first | refine blk_drewN ?_ _ | refine blk_drew ?_ | refine blk_alloc ?_ _)); exact BK174.out) hb); have n1_ := Aside0.mk (below_step (by repeat (first | (with_reducible first | exact HB.out | apply below_alloc | apply pw_below_drewN | apply below_drew1 | refine below_set ?_ GE174.out) | exact HB.out)) hb); clear BK174; clear HB; have BK174 := n0_; have HB := n1_; clear n0_ n1_; (try clear hb); (try clear hb2); (try clear hk); (try clear hi)))
      go_ret
      exact ⟨by first | rfl | (simp [errW_none, errW_some] <;> rfl) | (simp [*, errW_none, errW_some] <;> rfl), by repeat (first | (with_reducible first | exact HB.out | apply below_alloc | apply pw_below_drewN | apply below_drew1 | refine below_set ?_ GE174.out) | exact HB.out)⟩
  · replace c4 := Bool.eq_false_iff.mpr c4
    subst c4
    have H1 : (some false) = some r := by rw [if_neg (show ¬ (false = true) by decide)] at H; exact H
    clear H
    have H := H1
    clear H1
    obtain rfl := Option.some.inj H
    go_enter Try.func4, Try.ntmps4
    go_wp2_with (first | ((with_reducible refine gate_dst (N := 2) rfl ?_); refine box_event ?hg (N := 2) ?hd (cs := #[.int .i64 a0_0, .int .i64 a0_1]) (t := 23) ?hr ?_; (case hd => rfl); (case hg => rfl); (case hr => first | (go_simp; done) | (go_simp; rfl)); intro gb174 hg w35 hbox hb; have n0_ := Aside0.mk (below_step (by repeat (first | (with_reducible first | exact HB.out | apply below_alloc | apply pw_below_drewN | apply below_drew1) | exact HB.out)) hb); have n1_ := Aside0.mk (hbox); have n2_ := Aside0.mk ((by rw [hg]; exact (below_size (by repeat (first | (with_reducible first | exact HB.out | apply below_alloc | apply pw_below_drewN | apply below_drew1) | exact HB.out))) : w.heap.size ≤ gb174)); have n3_ := Aside0.mk ((by rw [hg]; exact (below_size (by repeat (first | (with_reducible first | exact HB.out | apply below_alloc | apply pw_below_drewN | apply below_drew1) | exact HB.out))) : w.heap.size ≤ gb174)); clear HB; have HB := n0_; have BK174 := n1_; have GW174 := n2_; have GE174 := n3_; clear n0_ n1_ n2_ n3_; clear hb hbox hg) | ((with_reducible refine gate_callee (f := 7) rfl ?_); refine goesL_ (some 7) rfl rfl Try.func7 (by kernel_rfl) rfl #[] rfl (by (try simp only [List.map_toArray, List.map_cons, List.map_nil]); first | done | rfl | (simp only [List.length_drop, List.length_take]; rfl)) ?_; (with_reducible refine (fuseelaw04_fixed.calls k  false _ A3.out).mono ?_); rintro e w36 ⟨rfl, hb⟩; refine ⟨_, rfl, ?_⟩; have n0_ := Aside0.mk (blk_below (g := gb174) (o := .cells #[.int .i64 a0_0, .int .i64 a0_1] 23 (0, 0)) (by (with_reducible repeat (first | refine blk_drewN ?_ _ | refine blk_drew ?_ | refine blk_alloc ?_ _)); exact BK174.out) hb); have n1_ := Aside0.mk (below_step (by repeat (first | (with_reducible first | exact HB.out | apply below_alloc | apply pw_below_drewN | apply below_drew1 | refine below_set ?_ GE174.out) | exact HB.out)) hb); clear BK174; clear HB; have BK174 := n0_; have HB := n1_; clear n0_ n1_; (try clear hb); (try clear hb2); (try clear hk); (try clear hi)))
    go_ret
    exact ⟨by first | rfl | (simp [errW_none, errW_some] <;> rfl) | (simp [*, errW_none, errW_some] <;> rfl), by repeat (first | (with_reducible first | exact HB.out | apply below_alloc | apply pw_below_drewN | apply below_drew1 | refine below_set ?_ GE174.out) | exact HB.out)⟩

/-! ### fuseeref04_Make: function 15 -/
def fuseeref04_Make.l0 : Nat → Int → Int → Option (Int × Int × Bool)
  | 0, _, _ => none
  | k + 1, x0, x5 => if x5 ≥ 0 then (if 0 ≤ x5 then (if x0 = 0 then (none) else (if (wrap64 (Int.tdiv (wrap64 ((wrap64 (Int.tdiv (wrap64 (2 * (shl .i64 1000000000 x5))) x0)) + 1)) 2)) < 4294967296 then (some (wrap64 (Int.tdiv (wrap64 ((wrap64 (Int.tdiv (wrap64 (2 * (shl .i64 1000000000 x5))) x0)) + 1)) 2), x5, decide ((wrap64 (Int.tdiv (wrap64 ((wrap64 (Int.tdiv (wrap64 (2 * (shl .i64 1000000000 x5))) x0)) + 1)) 2)) > 0))) else (fuseeref04_Make.l0 k x0 (wrap64 (x5 - 1))))) else (none)) else (some (0, 0, false))
def fuseeref04_Make.f (k : Nat) (a0 : Int) : Option (Int × Int × Bool) := fuseeref04_Make.l0 k a0 32
theorem fuseeref04_Make.mono_l : ∀ k, (∀ y0 y1, LeO (fuseeref04_Make.l0 k y0 y1) (fuseeref04_Make.l0 (k + 1) y0 y1))
  | 0 => fun _ _ r h => by simp [fuseeref04_Make.l0] at h
  | k + 1 => by
    have ih0 := fuseeref04_Make.mono_l k
    · intro y0 y1
      unfold fuseeref04_Make.l0
      repeat' first
      | (with_reducible exact ih0 _ _)
      | (with_reducible exact LeO.refl _)
      | (with_reducible exact LeO.none _)
      | (with_reducible refine LeO.ite ?_ ?_)
      | (with_reducible refine LeO.bind ?_ (fun _ => ?_))
      | exact ih0 _ _
      | exact LeO.none _
      | refine LeO.ite ?_ ?_
      | refine LeO.bind ?_ (fun _ => ?_)
theorem fuseeref04_Make.mono : ∀ a0 k, LeO (fuseeref04_Make.f k a0) (fuseeref04_Make.f (k + 1) a0) := by
  intro a0 k
  have ih0 := fuseeref04_Make.mono_l k
  unfold fuseeref04_Make.f
  repeat' first
      | (with_reducible exact ih0 _ _)
      | (with_reducible exact LeO.refl _)
      | (with_reducible exact LeO.none _)
      | (with_reducible refine LeO.ite ?_ ?_)
      | (with_reducible refine LeO.bind ?_ (fun _ => ?_))
      | exact ih0 _ _
      | exact LeO.none _
      | refine LeO.ite ?_ ?_
      | refine LeO.bind ?_ (fun _ => ?_)
set_option maxHeartbeats 8000000 in
set_option maxRecDepth 100000 in
theorem fuseeref04_Make.calls (k : Nat) (a0 : Int) (r1 : Int) (r2 : Int) (r3 : Bool) (w : World) (h : fuseeref04_Make.f k a0 = some (r1, r2, r3)) :
    Calls Try.prog 15 #[.int .i64 a0] w fun e w' => e = .returned (.tuple #[.int .i64 r1, .int .i64 r2, .bool r3]) ∧ Drawn0 w w' := by
  have H : (fuseeref04_Make.l0 k a0 32) = some (r1, r2, r3) := h
  clear h
  have H' := Aside0.mk H
  clear H
  go_enter Try.func15, Try.ntmps15
  go_wp2
  go_loopg [5] k (fun kq v5 w' => ∃ (x5_1 : Int), v5 = .int .i64 x5_1 ∧ Aside0 (fuseeref04_Make.l0 kq a0 x5_1 = some (r1, r2, r3)) ∧ Aside0 (kq ≤ k) ∧ Drawn0 w w')
  case atStart => exact ⟨(32), (by first | rfl | (simp; done) | (simp [*]; done)), H', ⟨Nat.le_refl _⟩, by repeat (first | exact Drawn0.refl _ | apply Drawn0.step)⟩
  case round =>
    clear H'
    try clear c1
    obtain ⟨x5_1, rfl, HA, HK1, ⟨m1, rfl⟩⟩ := hrel
    cases gk with
    | zero => exact absurd HA.out (by simp [fuseeref04_Make.l0])
    | succ k1 =>
      have H := HA.out
      clear HA
      simp only [fuseeref04_Make.l0] at H
      by_cases c2 : x5_1 ≥ 0
      · rw [if_pos c2] at H
        have c2b0 : decide (0 ≤ x5_1) = true := decide_eq_true c2
        clear c2
        by_cases c3 : 0 ≤ x5_1
        · rw [if_pos c3] at H
          have c3b0 := eq_true c3
          have c3b1 : decide (0 ≤ x5_1) = true := decide_eq_true c3
          clear c3
          obtain ⟨ji4, hji4⟩ : ∃ j_ : Int, (shl .i64 1000000000 x5_1) = j_ := ⟨_, rfl⟩
          replace H : (if a0 = 0 then (none) else (if (wrap64 (Int.tdiv (wrap64 ((wrap64 (Int.tdiv (wrap64 (2 * (ji4))) a0)) + 1)) 2)) < 4294967296 then (some (wrap64 (Int.tdiv (wrap64 ((wrap64 (Int.tdiv (wrap64 (2 * (ji4))) a0)) + 1)) 2), x5_1, decide ((wrap64 (Int.tdiv (wrap64 ((wrap64 (Int.tdiv (wrap64 (2 * (ji4))) a0)) + 1)) 2)) > 0))) else (fuseeref04_Make.l0 k1 a0 (wrap64 (x5_1 - 1))))) = some (r1, r2, r3) := by first | (rw [hji4] at H; exact H) | (simp only [hji4] at H ⊢; exact H)
          have hji4_ : (IntKind.i64.wrap (1000000000 * 2 ^ min x5_1.toNat 64)) = ji4 := hji4
          have hji4z : x5_1 ≤ 64 → (IntKind.i64.wrap (1000000000 * 2 ^ x5_1.toNat)) = ji4 := shl_small hji4
          have hji4y : (wrap64 (1000000000 * 2 ^ min x5_1.toNat 64)) = ji4 := (i64_w _).symm.trans hji4_
          have hji4x : x5_1 ≤ 64 → (wrap64 (1000000000 * 2 ^ x5_1.toNat)) = ji4 := fun h_ => (i64_w _).symm.trans (hji4z h_)
          by_cases c5 : a0 = 0
          · rw [if_pos c5] at H
            exact absurd H (by simp)
          · rw [if_neg c5] at H
            have c5b0 : (a0 == 0) = false := beq_eq_false_iff_ne.mpr c5
            have c5b1 : (a0 != 0) = true := bne_iff_ne.mpr c5
            by_cases c6 : (wrap64 (Int.tdiv (wrap64 ((wrap64 (Int.tdiv (wrap64 (2 * (ji4))) a0)) + 1)) 2)) < 4294967296
            · rw [if_pos c6] at H
              have c6b0 : decide ((wrap64 (Int.tdiv (wrap64 ((wrap64 (Int.tdiv (wrap64 (2 * (ji4))) a0)) + 1)) 2)) < 4294967296) = true := decide_eq_true c6
              clear c6
              simp only [Option.some.injEq, Prod.mk.injEq] at H
              obtain ⟨rfl, rfl, rfl⟩ := H
              go_wp2
              go_ret3
              exact ⟨by first | rfl | (simp; done) | (simp only [← hji4] <;> (first | rfl | simp)) | (simp [*]; done), by repeat (first | exact Drawn0.refl _ | apply Drawn0.step)⟩
            · rw [if_neg c6] at H
              have c6b0 : decide ((wrap64 (Int.tdiv (wrap64 ((wrap64 (Int.tdiv (wrap64 (2 * (ji4))) a0)) + 1)) 2)) < 4294967296) = false := decide_eq_false c6
              clear c6
              have H' := Aside0.mk H
              clear H
              go_wp2
              go_roundg k1
              case measure => have := HK1.out; omega
              case rel => exact ⟨(wrap64 (x5_1 - 1)), (by first | rfl | (simp; done) | (simp [*]; done)), H', ⟨by have := HK1.out; omega⟩, by repeat (first | exact Drawn0.refl _ | apply Drawn0.step)⟩
        · rw [if_neg c3] at H
          exact absurd H (by simp)
      · rw [if_neg c2] at H
        have c2b0 : decide (0 ≤ x5_1) = false := decide_eq_false c2
        clear c2
        simp only [Option.some.injEq, Prod.mk.injEq] at H
        obtain ⟨rfl, rfl, rfl⟩ := H
        go_wp2
        go_ret3
        exact ⟨by first | rfl | (simp; done) | (simp [*]; done), by repeat (first | exact Drawn0.refl _ | apply Drawn0.step)⟩

/-! ### fuseelaw04_ScaleMakes: function 5 -/
mutual
def fuseelaw04_ScaleMakes.j0 : Nat → Int → Bool → Bool → Int → Int → Option (Bool)
  | 0, _, _, _, _, _ => none
  | k + 1, x0, x4, x21, x185000, x185001 => if x21 = true then (if x4 = true then (some false) else (if (x185000 == 0 && (x185001 == 0)) = true then ((scale_Error.f 1 0 x0).bind fun t185 => (some (t185 == 0))) else (some false))) else (if x0 < 4 then (if x4 = true then ((fuseelaw04_right.f x185000 x185001).bind fun t186 => (some t186)) else (some false)) else (if x0 ≥ 1000 then ((fuseeref04_Make.f k x0).bind fun bt187 => (if bt187.2.1 > 32 then (some false) else (fuseelaw04_ScaleMakes.j1 k x0 x4 bt187.1 bt187.2.1 bt187.2.2 x185000 x185001))) else (fuseelaw04_ScaleMakes.j1 k x0 x4 0 0 false x185000 x185001)))
def fuseelaw04_ScaleMakes.j1 : Nat → Int → Bool → Int → Int → Bool → Int → Int → Option (Bool)
  | 0, _, _, _, _, _, _, _ => none
  | k + 1, x0, x4, x5, x6, x7, x185000, x185001 => if x4 = true then ((scale_Error.f x185000 x185001 x0).bind fun t190 => ((fuseeref04_Nanos.f k x185000 x185001 x0).bind fun t191 => (if t190 = (wrap64 (t191 - 1000000000)) then (if x0 < 1000 then (some true) else (if x7 = true then (some (x185000 == x5 && (x185001 == x6))) else (some false))) else (some false)))) else (some (x185000 == 0))
end
def fuseelaw04_ScaleMakes.f (k : Nat) (a0 : Int) : Option (Bool) := (fuseelaw04_fixed.f k).bind fun t180 => (if t180 = true then ((scale_Make.f a0).bind fun bt181 => (if a0 < 1 then (fuseelaw04_ScaleMakes.j0 k a0 bt181.2.2 true bt181.1 bt181.2.1) else (fuseelaw04_ScaleMakes.j0 k a0 bt181.2.2 (decide (a0 > 1099511627776)) bt181.1 bt181.2.1))) else (some false))
theorem fuseelaw04_ScaleMakes.mono_l : ∀ k, (∀ y0 y1 y2 y3 y4, LeO (fuseelaw04_ScaleMakes.j0 k y0 y1 y2 y3 y4) (fuseelaw04_ScaleMakes.j0 (k + 1) y0 y1 y2 y3 y4)) ∧ (∀ y0 y1 y2 y3 y4 y5 y6, LeO (fuseelaw04_ScaleMakes.j1 k y0 y1 y2 y3 y4 y5 y6) (fuseelaw04_ScaleMakes.j1 (k + 1) y0 y1 y2 y3 y4 y5 y6))
  | 0 => ⟨fun _ _ _ _ _ r h => by simp [fuseelaw04_ScaleMakes.j0] at h, fun _ _ _ _ _ _ _ r h => by simp [fuseelaw04_ScaleMakes.j1] at h⟩
  | k + 1 => by
    obtain ⟨ih0, ih1⟩ := fuseelaw04_ScaleMakes.mono_l k
    refine ⟨?_, ?_⟩
    · intro y0 y1 y2 y3 y4
      unfold fuseelaw04_ScaleMakes.j0
      repeat' first
      | (with_reducible exact ih0 _ _ _ _ _)
      | (with_reducible exact ih1 _ _ _ _ _ _ _)
      | (with_reducible exact fuseelaw04_fixed.mono _)
      | (with_reducible exact fuseeref04_Make.mono _ _)
      | (with_reducible exact fuseeref04_Nanos.mono _ _ _ _)
      | (with_reducible exact LeO.refl _)
      | (with_reducible exact LeO.none _)
      | (with_reducible refine LeO.ite ?_ ?_)
      | (with_reducible refine LeO.bind ?_ (fun _ => ?_))
      | exact ih0 _ _ _ _ _
      | exact ih1 _ _ _ _ _ _ _
      | exact fuseelaw04_fixed.mono _
      | exact fuseeref04_Make.mono _ _
      | exact fuseeref04_Nanos.mono _ _ _ _
      | exact LeO.none _
      | refine LeO.ite ?_ ?_
      | refine LeO.bind ?_ (fun _ => ?_)
    · intro y0 y1 y2 y3 y4 y5 y6
      unfold fuseelaw04_ScaleMakes.j1
      repeat' first
      | (with_reducible exact ih0 _ _ _ _ _)
      | (with_reducible exact ih1 _ _ _ _ _ _ _)
      | (with_reducible exact fuseelaw04_fixed.mono _)
      | (with_reducible exact fuseeref04_Make.mono _ _)
      | (with_reducible exact fuseeref04_Nanos.mono _ _ _ _)
      | (with_reducible exact LeO.refl _)
      | (with_reducible exact LeO.none _)
      | (with_reducible refine LeO.ite ?_ ?_)
      | (with_reducible refine LeO.bind ?_ (fun _ => ?_))
      | exact ih0 _ _ _ _ _
      | exact ih1 _ _ _ _ _ _ _
      | exact fuseelaw04_fixed.mono _
      | exact fuseeref04_Make.mono _ _
      | exact fuseeref04_Nanos.mono _ _ _ _
      | exact LeO.none _
      | refine LeO.ite ?_ ?_
      | refine LeO.bind ?_ (fun _ => ?_)
theorem fuseelaw04_ScaleMakes.mono : ∀ a0 k, LeO (fuseelaw04_ScaleMakes.f k a0) (fuseelaw04_ScaleMakes.f (k + 1) a0) := by
  intro a0 k
  obtain ⟨ih0, ih1⟩ := fuseelaw04_ScaleMakes.mono_l k
  unfold fuseelaw04_ScaleMakes.f
  repeat' first
      | (with_reducible exact ih0 _ _ _ _ _)
      | (with_reducible exact ih1 _ _ _ _ _ _ _)
      | (with_reducible exact fuseelaw04_fixed.mono _)
      | (with_reducible exact fuseeref04_Make.mono _ _)
      | (with_reducible exact fuseeref04_Nanos.mono _ _ _ _)
      | (with_reducible exact LeO.refl _)
      | (with_reducible exact LeO.none _)
      | (with_reducible refine LeO.ite ?_ ?_)
      | (with_reducible refine LeO.bind ?_ (fun _ => ?_))
      | exact ih0 _ _ _ _ _
      | exact ih1 _ _ _ _ _ _ _
      | exact fuseelaw04_fixed.mono _
      | exact fuseeref04_Make.mono _ _
      | exact fuseeref04_Nanos.mono _ _ _ _
      | exact LeO.none _
      | refine LeO.ite ?_ ?_
      | refine LeO.bind ?_ (fun _ => ?_)
set_option maxHeartbeats 8000000 in
set_option maxRecDepth 100000 in
theorem fuseelaw04_ScaleMakes.calls (k : Nat) (a0 : Int) (r : Bool) (w : World) (h : fuseelaw04_ScaleMakes.f k a0 = some r) :
    Calls Try.prog 5 #[.int .i64 a0] w fun e w' => e = .returned (.bool r) ∧ Below w.heap.size w w' := by
  have hu23 := Try.underlying23
  have HB := Aside0.mk (Below.refl w.heap.size w)
  have H : ((fuseelaw04_fixed.f k).bind fun t180 => (if t180 = true then ((scale_Make.f a0).bind fun bt181 => (if a0 < 1 then (fuseelaw04_ScaleMakes.j0 k a0 bt181.2.2 true bt181.1 bt181.2.1) else (fuseelaw04_ScaleMakes.j0 k a0 bt181.2.2 (decide (a0 > 1099511627776)) bt181.1 bt181.2.1))) else (some false))) = some r := h
  clear h
  replace H := Option.bind_eq_some_iff.mp H
  obtain ⟨t180, A20, H⟩ := H
  replace H : (if t180 = true then ((scale_Make.f a0).bind fun bt181 => (if a0 < 1 then (fuseelaw04_ScaleMakes.j0 k a0 bt181.2.2 true bt181.1 bt181.2.1) else (fuseelaw04_ScaleMakes.j0 k a0 bt181.2.2 (decide (a0 > 1099511627776)) bt181.1 bt181.2.1))) else (some false)) = some r := H
  have A2 := Aside0.mk A20
  clear A20
  by_cases c3 : t180 = true
  · subst c3
    have H1 : ((scale_Make.f a0).bind fun bt181 => (if a0 < 1 then (fuseelaw04_ScaleMakes.j0 k a0 bt181.2.2 true bt181.1 bt181.2.1) else (fuseelaw04_ScaleMakes.j0 k a0 bt181.2.2 (decide (a0 > 1099511627776)) bt181.1 bt181.2.1))) = some r := by rw [if_pos rfl] at H; exact H
    clear H
    have H := H1
    clear H1
    replace H := Option.bind_eq_some_iff.mp H
    obtain ⟨⟨t181, t182, t183⟩, A40, H⟩ := H
    replace H : (if a0 < 1 then (fuseelaw04_ScaleMakes.j0 k a0 t183 true t181 t182) else (fuseelaw04_ScaleMakes.j0 k a0 t183 (decide (a0 > 1099511627776)) t181 t182)) = some r := H
    have A4 := Aside0.mk A40
    clear A40
    have HC5 := Aside0.mk H
    clear H
    go_enter Try.func5, Try.ntmps5
    go_upto_region 4 with (first | ((with_reducible refine gate_callee (f := 7) rfl ?_); refine goesL_ (some 9) rfl rfl Try.func7 (by kernel_rfl) rfl #[] rfl (by (try simp only [List.map_toArray, List.map_cons, List.map_nil]); first | done | rfl | (simp only [List.length_drop, List.length_take]; rfl)) ?_; (with_reducible refine (fuseelaw04_fixed.calls k  true _ A2.out).mono ?_); rintro e w6 ⟨rfl, hb⟩; refine ⟨_, rfl, ?_⟩; have n0_ := Aside0.mk (below_step (by repeat (first | (with_reducible first | exact HB.out | apply below_alloc | apply pw_below_drewN | apply below_drew1) | exact HB.out)) hb); clear HB; have HB := n0_; clear n0_; (try clear hb); (try clear hb2); (try clear hk); (try clear hi)) | ((with_reducible refine gate_callee (f := 13) rfl ?_); refine goesL_ (some 13) rfl rfl Try.func13 (by kernel_rfl) rfl #[.int .i64 a0] rfl (by (try simp only [List.map_toArray, List.map_cons, List.map_nil]); first | done | rfl | (simp only [List.length_drop, List.length_take]; rfl)) ?_; (with_reducible refine (scale_Make.calls a0 t181 t182 t183 _ A4.out).mono ?_); rintro e w7 ⟨rfl, hb⟩; refine ⟨_, rfl, ?_⟩; have n0_ := Aside0.mk (below_step (by repeat (first | (with_reducible first | exact HB.out | apply below_alloc | apply pw_below_drewN | apply below_drew1) | exact HB.out)) hb); clear HB; have HB := n0_; clear n0_; (try clear hb); (try clear hb2); (try clear hk); (try clear hi)) | ((with_reducible refine gate_dst (N := 3) rfl ?_); refine box_event ?hg (N := 3) ?hd (cs := #[.int .i64 0, .int .i64 0]) (t := 23) ?hr ?_; (case hd => rfl); (case hg => rfl); (case hr => first | (go_simp; done) | (go_simp; rfl)); intro gb184 hg w8 hbox hb; have n0_ := Aside0.mk (below_step (by repeat (first | (with_reducible first | exact HB.out | apply below_alloc | apply pw_below_drewN | apply below_drew1) | exact HB.out)) hb); have n1_ := Aside0.mk (hbox); have n2_ := Aside0.mk ((by rw [hg]; exact (below_size (by repeat (first | (with_reducible first | exact HB.out | apply below_alloc | apply pw_below_drewN | apply below_drew1) | exact HB.out))) : w.heap.size ≤ gb184)); have n3_ := Aside0.mk ((by rw [hg]; exact (below_size (by repeat (first | (with_reducible first | exact HB.out | apply below_alloc | apply pw_below_drewN | apply below_drew1) | exact HB.out))) : w.heap.size ≤ gb184)); clear HB; have HB := n0_; have BK184 := n1_; have GW184 := n2_; have GE184 := n3_; clear n0_ n1_ n2_ n3_; clear hb hbox hg; have hcz9_0 : w8.cell? ⟨gb184, 0, none⟩ = some (.int .i64 0) := (blk_cell BK184.out 0).trans rfl; have hcz9_1 : w8.cell? ⟨gb184, 1, none⟩ = some (.int .i64 0) := (blk_cell BK184.out 1).trans rfl; have hfz9_0 := blk_frozen BK184.out 0; have hfz9_1 := blk_frozen BK184.out 1))
    (try simp only [Act.put, List.setIfInBounds_toArray, List.set_cons_zero, List.set_cons_succ])
    go_cut [21] (fun v21 wc => ∃ (kq : Nat) (x21_4 : Bool), v21 = .bool x21_4 ∧ Aside0 (fuseelaw04_ScaleMakes.j0 kq a0 t183 x21_4 t181 t182 = some r) ∧ Aside0 (kq ≤ k) ∧ Aside0 (wc.heap[gb184]? = some (.cells #[.int .i64 t181, .int .i64 t182] 23 (0, 0))) ∧ Aside0 (Below w.heap.size w wc))
    case first =>
      have H := HC5.out
      clear HC5
      by_cases c10 : a0 < 1
      · rw [if_pos c10] at H
        have c10b0 : decide (a0 < 1) = true := decide_eq_true c10
        clear c10
        (first | rw [c10b0] | (simp only [i64_w, i32_w]; rw [c10b0]) | skip)
        have H' := Aside0.mk H
        clear H
        go_wp2
        go_meet
        case rel => exact ⟨_, (true), (by first | rfl | (simp; done) | (simp [*]; done)), H', ⟨by first | omega | exact Nat.le_refl _⟩, ⟨by (with_reducible repeat (first | refine blk_drewN ?_ _ | refine blk_drew ?_ | refine blk_alloc ?_ _)); refine blk_put (cs := #[.int .i64 t181, .int .i64 0]) ?_ 1 _ rfl; (with_reducible repeat (first | refine blk_drewN ?_ _ | refine blk_drew ?_ | refine blk_alloc ?_ _)); refine blk_put (cs := #[.int .i64 0, .int .i64 0]) ?_ 0 _ rfl; (with_reducible repeat (first | refine blk_drewN ?_ _ | refine blk_drew ?_ | refine blk_alloc ?_ _)); exact BK184.out⟩, ⟨by repeat (first | (with_reducible first | exact HB.out | apply below_alloc | apply pw_below_drewN | apply below_drew1 | refine below_set ?_ GE184.out) | exact HB.out)⟩⟩
      · rw [if_neg c10] at H
        have c10b0 : decide (a0 < 1) = false := decide_eq_false c10
        clear c10
        (first | rw [c10b0] | (simp only [i64_w, i32_w]; rw [c10b0]) | skip)
        have H' := Aside0.mk H
        clear H
        go_wp2
        go_meet
        case rel => exact ⟨_, (decide (a0 > 1099511627776)), (by first | rfl | (simp; done) | (simp [*]; done)), H', ⟨by first | omega | exact Nat.le_refl _⟩, ⟨by (with_reducible repeat (first | refine blk_drewN ?_ _ | refine blk_drew ?_ | refine blk_alloc ?_ _)); refine blk_put (cs := #[.int .i64 t181, .int .i64 0]) ?_ 1 _ rfl; (with_reducible repeat (first | refine blk_drewN ?_ _ | refine blk_drew ?_ | refine blk_alloc ?_ _)); refine blk_put (cs := #[.int .i64 0, .int .i64 0]) ?_ 0 _ rfl; (with_reducible repeat (first | refine blk_drewN ?_ _ | refine blk_drew ?_ | refine blk_alloc ?_ _)); exact BK184.out⟩, ⟨by repeat (first | (with_reducible first | exact HB.out | apply below_alloc | apply pw_below_drewN | apply below_drew1 | refine below_set ?_ GE184.out) | exact HB.out)⟩⟩
    case rest =>
      clear HC5
      try clear c1
      try clear p2
      try clear c3
      try clear c5
      try clear c7
      try clear c10
      try clear c10b0
      try clear hcz9_0
      try clear hcz9_1
      try clear hfz9_0
      try clear hfz9_1
      obtain ⟨kq, x21_4, rfl, HA, HJ4, BK184, HB⟩ := hcut
      cases kq with
      | zero => exact absurd HA.out (by simp [fuseelaw04_ScaleMakes.j0])
      | succ kj4 =>
        have H := HA.out
        clear HA
        simp only [fuseelaw04_ScaleMakes.j0] at H
        by_cases c11 : x21_4 = true
        · subst c11
          have H1 : (if t183 = true then (some false) else (if (t181 == 0 && (t182 == 0)) = true then ((scale_Error.f 1 0 a0).bind fun t185 => (some (t185 == 0))) else (some false))) = some r := by rw [if_pos rfl] at H; exact H
          clear H
          have H := H1
          clear H1
          by_cases c12 : t183 = true
          · subst c12
            have H1 : (some false) = some r := by rw [if_pos rfl] at H; exact H
            clear H
            have H := H1
            clear H1
            obtain rfl := Option.some.inj H
            go_wp2
            go_ret
            exact ⟨by first | rfl | (simp [errW_none, errW_some] <;> rfl) | (simp [*, errW_none, errW_some] <;> rfl), by repeat (first | (with_reducible first | exact HB.out | apply below_alloc | apply pw_below_drewN | apply below_drew1 | refine below_set ?_ GE184.out) | exact HB.out)⟩
          · replace c12 := Bool.eq_false_iff.mpr c12
            subst c12
            have H1 : (if (t181 == 0 && (t182 == 0)) = true then ((scale_Error.f 1 0 a0).bind fun t185 => (some (t185 == 0))) else (some false)) = some r := by rw [if_neg (show ¬ (false = true) by decide)] at H; exact H
            clear H
            have H := H1
            clear H1
            by_cases c13 : (t181 == 0 && (t182 == 0)) = true
            · rw [if_pos c13] at H
              have c13b0 : (t181 == 0 && (t182 == 0)) = true := c13
              (try (have c13b1 : decide (t181 = 0 && (t182 == 0)) = true := by simpa using c13))
              (try (have c13b2 : (t181 == 0 && (t182 == 0)) = true := by simpa using c13))
              clear c13
              replace H := Option.bind_eq_some_iff.mp H
              obtain ⟨t185, A140, H⟩ := H
              replace H : (some (t185 == 0)) = some r := H
              have A14 := Aside0.mk A140
              clear A140
              obtain rfl := Option.some.inj H
              have hcz15_0 : wc.cell? ⟨gb184, 0, none⟩ = some (.int .i64 t181) := (blk_cell BK184.out 0).trans rfl
              have hcz15_1 : wc.cell? ⟨gb184, 1, none⟩ = some (.int .i64 t182) := (blk_cell BK184.out 1).trans rfl
              have hfz15_0 := blk_frozen BK184.out 0
              have hfz15_1 := blk_frozen BK184.out 1
              go_wp2_with (first | (go_at_call 14; (with_reducible refine (scale_Error.calls 1 0 a0 t185 _ A14.out).mono ?_); rintro e w16 ⟨rfl, hb⟩; have n0_ := Aside0.mk (blk_below (g := gb184) (o := .cells #[.int .i64 t181, .int .i64 t182] 23 (0, 0)) (by (with_reducible repeat (first | refine blk_drewN ?_ _ | refine blk_drew ?_ | refine blk_alloc ?_ _)); exact BK184.out) hb); have n1_ := Aside0.mk (below_step (by repeat (first | (with_reducible first | exact HB.out | apply below_alloc | apply pw_below_drewN | apply below_drew1 | refine below_set ?_ GE184.out) | exact HB.out)) hb); clear BK184; clear HB; have BK184 := n0_; have HB := n1_; clear n0_ n1_; (try clear hb); (try clear hb2); (try clear hk); (try clear hi)))
              go_ret
              exact ⟨by first | rfl | (simp [errW_none, errW_some] <;> rfl) | (simp [*, errW_none, errW_some] <;> rfl), by repeat (first | (with_reducible first | exact HB.out | apply below_alloc | apply pw_below_drewN | apply below_drew1 | refine below_set ?_ GE184.out) | exact HB.out)⟩
            · rw [if_neg c13] at H
              have c13b0 : (t181 == 0 && (t182 == 0)) = false := by simpa using c13
              (try (have c13b1 : decide (t181 = 0 && (t182 == 0)) = false := by simpa using c13))
              (try (have c13b2 : (t181 == 0 && (t182 == 0)) = false := by simpa using c13))
              (try (have c13b3 : ¬ (t181 = 0 && (t182 == 0)) := by simpa using c13))
              clear c13
              obtain rfl := Option.some.inj H
              have hcz17_0 : wc.cell? ⟨gb184, 0, none⟩ = some (.int .i64 t181) := (blk_cell BK184.out 0).trans rfl
              have hcz17_1 : wc.cell? ⟨gb184, 1, none⟩ = some (.int .i64 t182) := (blk_cell BK184.out 1).trans rfl
              have hfz17_0 := blk_frozen BK184.out 0
              have hfz17_1 := blk_frozen BK184.out 1
              go_wp2
              go_ret
              exact ⟨by first | rfl | (simp [errW_none, errW_some] <;> rfl) | (simp [*, errW_none, errW_some] <;> rfl), by repeat (first | (with_reducible first | exact HB.out | apply below_alloc | apply pw_below_drewN | apply below_drew1 | refine below_set ?_ GE184.out) | exact HB.out)⟩
        · replace c11 := Bool.eq_false_iff.mpr c11
          subst c11
          have H1 : (if a0 < 4 then (if t183 = true then ((fuseelaw04_right.f t181 t182).bind fun t186 => (some t186)) else (some false)) else (if a0 ≥ 1000 then ((fuseeref04_Make.f kj4 a0).bind fun bt187 => (if bt187.2.1 > 32 then (some false) else (fuseelaw04_ScaleMakes.j1 kj4 a0 t183 bt187.1 bt187.2.1 bt187.2.2 t181 t182))) else (fuseelaw04_ScaleMakes.j1 kj4 a0 t183 0 0 false t181 t182))) = some r := by rw [if_neg (show ¬ (false = true) by decide)] at H; exact H
          clear H
          have H := H1
          clear H1
          by_cases c18 : a0 < 4
          · rw [if_pos c18] at H
            have c18b0 : decide (a0 < 4) = true := decide_eq_true c18
            clear c18
            by_cases c19 : t183 = true
            · subst c19
              have H1 : ((fuseelaw04_right.f t181 t182).bind fun t186 => (some t186)) = some r := by rw [if_pos rfl] at H; exact H
              clear H
              have H := H1
              clear H1
              replace H := Option.bind_eq_some_iff.mp H
              obtain ⟨t186, A200, H⟩ := H
              replace H : (some t186) = some r := H
              have A20 := Aside0.mk A200
              clear A200
              obtain rfl := Option.some.inj H
              have hcz21_0 : wc.cell? ⟨gb184, 0, none⟩ = some (.int .i64 t181) := (blk_cell BK184.out 0).trans rfl
              have hcz21_1 : wc.cell? ⟨gb184, 1, none⟩ = some (.int .i64 t182) := (blk_cell BK184.out 1).trans rfl
              have hfz21_0 := blk_frozen BK184.out 0
              have hfz21_1 := blk_frozen BK184.out 1
              go_wp2_with (first | (go_at_call 10; (with_reducible refine (fuseelaw04_right.calls t181 t182 t186 _ A20.out).mono ?_); rintro e w22 ⟨rfl, hb⟩; have n0_ := Aside0.mk (blk_below (g := gb184) (o := .cells #[.int .i64 t181, .int .i64 t182] 23 (0, 0)) (by (with_reducible repeat (first | refine blk_drewN ?_ _ | refine blk_drew ?_ | refine blk_alloc ?_ _)); exact BK184.out) hb); have n1_ := Aside0.mk (below_step (by repeat (first | (with_reducible first | exact HB.out | apply below_alloc | apply pw_below_drewN | apply below_drew1 | refine below_set ?_ GE184.out) | exact HB.out)) hb); clear BK184; clear HB; have BK184 := n0_; have HB := n1_; clear n0_ n1_; (try clear hb); (try clear hb2); (try clear hk); (try clear hi)))
              go_ret
              exact ⟨by first | rfl | (simp [errW_none, errW_some] <;> rfl) | (simp [*, errW_none, errW_some] <;> rfl), by repeat (first | (with_reducible first | exact HB.out | apply below_alloc | apply pw_below_drewN | apply below_drew1 | refine below_set ?_ GE184.out) | exact HB.out)⟩
            · replace c19 := Bool.eq_false_iff.mpr c19
              subst c19
              have H1 : (some false) = some r := by rw [if_neg (show ¬ (false = true) by decide)] at H; exact H
              clear H
              have H := H1
              clear H1
              obtain rfl := Option.some.inj H
              go_wp2
              go_ret
              exact ⟨by first | rfl | (simp [errW_none, errW_some] <;> rfl) | (simp [*, errW_none, errW_some] <;> rfl), by repeat (first | (with_reducible first | exact HB.out | apply below_alloc | apply pw_below_drewN | apply below_drew1 | refine below_set ?_ GE184.out) | exact HB.out)⟩
          · rw [if_neg c18] at H
            have c18b0 : decide (a0 < 4) = false := decide_eq_false c18
            clear c18
            have HC23 := Aside0.mk H
            clear H
            go_upto_if 43 with (fail)
            go_cut [5, 6, 7] (fun v5 v6 v7 wc => ∃ (kq : Nat) (x5_22 : Int) (x6_22 : Int) (x7_22 : Bool), v5 = .int .i64 x5_22 ∧ v6 = .int .i64 x6_22 ∧ v7 = .bool x7_22 ∧ Aside0 (fuseelaw04_ScaleMakes.j1 kq a0 t183 x5_22 x6_22 x7_22 t181 t182 = some r) ∧ Aside0 (kq ≤ kj4) ∧ Aside0 (wc.heap[gb184]? = some (.cells #[.int .i64 t181, .int .i64 t182] 23 (0, 0))) ∧ Aside0 (Below w.heap.size w wc))
            case first =>
              have H := HC23.out
              clear HC23
              by_cases c24 : a0 ≥ 1000
              · rw [if_pos c24] at H
                have c24b0 : decide (1000 ≤ a0) = true := decide_eq_true c24
                clear c24
                (first | rw [c24b0] | (simp only [i64_w, i32_w]; rw [c24b0]) | skip)
                replace H := Option.bind_eq_some_iff.mp H
                obtain ⟨⟨t187, t188, t189⟩, A250, H⟩ := H
                replace H : (if t188 > 32 then (some false) else (fuseelaw04_ScaleMakes.j1 kj4 a0 t183 t187 t188 t189 t181 t182)) = some r := H
                have A25 := Aside0.mk A250
                clear A250
                by_cases c26 : t188 > 32
                · rw [if_pos c26] at H
                  have c26b0 : decide (32 < t188) = true := decide_eq_true c26
                  clear c26
                  obtain rfl := Option.some.inj H
                  go_wp2_with (first | ((with_reducible refine gate_callee (f := 15) rfl ?_); refine goesL_ (some 46) rfl rfl Try.func15 (by kernel_rfl) rfl #[.int .i64 a0] rfl (by (try simp only [List.map_toArray, List.map_cons, List.map_nil]); first | done | rfl | (simp only [List.length_drop, List.length_take]; rfl)) ?_; (with_reducible refine (fuseeref04_Make.calls kj4 a0 t187 t188 t189 _ A25.out).mono ?_); rintro e w' ⟨rfl, ⟨nd, rfl⟩⟩; refine ⟨_, rfl, ?_⟩))
                  go_ret
                  exact ⟨by first | rfl | (simp [errW_none, errW_some] <;> rfl) | (simp [*, errW_none, errW_some] <;> rfl), by repeat (first | (with_reducible first | exact HB.out | apply below_alloc | apply pw_below_drewN | apply below_drew1 | refine below_set ?_ GE184.out) | exact HB.out)⟩
                · rw [if_neg c26] at H
                  have c26b0 : decide (32 < t188) = false := decide_eq_false c26
                  clear c26
                  have H' := Aside0.mk H
                  clear H
                  go_wp2_with (first | ((with_reducible refine gate_callee (f := 15) rfl ?_); refine goesL_ (some 46) rfl rfl Try.func15 (by kernel_rfl) rfl #[.int .i64 a0] rfl (by (try simp only [List.map_toArray, List.map_cons, List.map_nil]); first | done | rfl | (simp only [List.length_drop, List.length_take]; rfl)) ?_; (with_reducible refine (fuseeref04_Make.calls kj4 a0 t187 t188 t189 _ A25.out).mono ?_); rintro e w' ⟨rfl, ⟨nd, rfl⟩⟩; refine ⟨_, rfl, ?_⟩))
                  go_meet
                  case rel => exact ⟨_, (t187), (t188), (t189), (by first | rfl | (simp; done) | (simp [*]; done)), (by first | rfl | (simp; done) | (simp [*]; done)), (by first | rfl | (simp; done) | (simp [*]; done)), H', ⟨by have := HJ4.out; first | omega | exact Nat.le_refl _⟩, ⟨by (with_reducible repeat (first | refine blk_drewN ?_ _ | refine blk_drew ?_ | refine blk_alloc ?_ _)); exact BK184.out⟩, ⟨by repeat (first | (with_reducible first | exact HB.out | apply below_alloc | apply pw_below_drewN | apply below_drew1 | refine below_set ?_ GE184.out) | exact HB.out)⟩⟩
              · rw [if_neg c24] at H
                have c24b0 : decide (1000 ≤ a0) = false := decide_eq_false c24
                clear c24
                (first | rw [c24b0] | (simp only [i64_w, i32_w]; rw [c24b0]) | skip)
                have H' := Aside0.mk H
                clear H
                go_wp2
                go_meet
                case rel => exact ⟨_, (0), (0), (false), (by first | rfl | (simp; done) | (simp [*]; done)), (by first | rfl | (simp; done) | (simp [*]; done)), (by first | rfl | (simp; done) | (simp [*]; done)), H', ⟨by have := HJ4.out; first | omega | exact Nat.le_refl _⟩, ⟨by (with_reducible repeat (first | refine blk_drewN ?_ _ | refine blk_drew ?_ | refine blk_alloc ?_ _)); exact BK184.out⟩, ⟨by repeat (first | (with_reducible first | exact HB.out | apply below_alloc | apply pw_below_drewN | apply below_drew1 | refine below_set ?_ GE184.out) | exact HB.out)⟩⟩
            case rest =>
              clear HC23
              try clear c1
              try clear c2
              try clear p2
              try clear c3
              try clear c5
              try clear c7
              try clear c10
              try clear c10b0
              try clear c11
              try clear c12
              try clear c13
              try clear c13b0
              try clear c13b1
              try clear c13b2
              try clear c15
              try clear c18
              try clear c18b0
              try clear c19
              try clear c24
              try clear c24b0
              try clear c26
              try clear c26b0
              try clear hcz15_0
              try clear hcz15_1
              try clear hcz17_0
              try clear hcz17_1
              try clear hcz21_0
              try clear hcz21_1
              try clear hcz9_0
              try clear hcz9_1
              try clear hfz15_0
              try clear hfz15_1
              try clear hfz17_0
              try clear hfz17_1
              try clear hfz21_0
              try clear hfz21_1
              try clear hfz9_0
              try clear hfz9_1
              try clear p2
              obtain ⟨kq, x5_22, x6_22, x7_22, rfl, rfl, rfl, HA, HJ22, BK184, HB⟩ := hcut
              cases kq with
              | zero => exact absurd HA.out (by simp [fuseelaw04_ScaleMakes.j1])
              | succ kj22 =>
                have H := HA.out
                clear HA
                simp only [fuseelaw04_ScaleMakes.j1] at H
                by_cases c27 : t183 = true
                · subst c27
                  have H1 : ((scale_Error.f t181 t182 a0).bind fun t190 => ((fuseeref04_Nanos.f kj22 t181 t182 a0).bind fun t191 => (if t190 = (wrap64 (t191 - 1000000000)) then (if a0 < 1000 then (some true) else (if x7_22 = true then (some (t181 == x5_22 && (t182 == x6_22))) else (some false))) else (some false)))) = some r := by rw [if_pos rfl] at H; exact H
                  clear H
                  have H := H1
                  clear H1
                  replace H := Option.bind_eq_some_iff.mp H
                  obtain ⟨t190, A280, H⟩ := H
                  replace H : ((fuseeref04_Nanos.f kj22 t181 t182 a0).bind fun t191 => (if t190 = (wrap64 (t191 - 1000000000)) then (if a0 < 1000 then (some true) else (if x7_22 = true then (some (t181 == x5_22 && (t182 == x6_22))) else (some false))) else (some false))) = some r := H
                  have A28 := Aside0.mk A280
                  clear A280
                  replace H := Option.bind_eq_some_iff.mp H
                  obtain ⟨t191, A290, H⟩ := H
                  replace H : (if t190 = (wrap64 (t191 - 1000000000)) then (if a0 < 1000 then (some true) else (if x7_22 = true then (some (t181 == x5_22 && (t182 == x6_22))) else (some false))) else (some false)) = some r := H
                  have A29 := Aside0.mk A290
                  clear A290
                  by_cases c30 : t190 = (wrap64 (t191 - 1000000000))
                  · rw [if_pos c30] at H
                    have c30b0 : (t190 == (wrap64 (t191 - 1000000000))) = true := beq_iff_eq.mpr c30
                    have c30b1 : (t190 != (wrap64 (t191 - 1000000000))) = false := bne_eq_false_iff_eq.mpr c30
                    clear c30
                    by_cases c31 : a0 < 1000
                    · rw [if_pos c31] at H
                      have c31b0 : decide (a0 < 1000) = true := decide_eq_true c31
                      clear c31
                      obtain rfl := Option.some.inj H
                      have hcz32_0 : wc.cell? ⟨gb184, 0, none⟩ = some (.int .i64 t181) := (blk_cell BK184.out 0).trans rfl
                      have hcz32_1 : wc.cell? ⟨gb184, 1, none⟩ = some (.int .i64 t182) := (blk_cell BK184.out 1).trans rfl
                      have hfz32_0 := blk_frozen BK184.out 0
                      have hfz32_1 := blk_frozen BK184.out 1
                      go_wp2_with (first | ((with_reducible refine gate_callee (f := 14) rfl ?_); refine goesL_ (some 59) rfl rfl Try.func14 (by kernel_rfl) rfl #[.agg #[.int .i64 t181, .int .i64 t182], .int .i64 a0] rfl (by (try simp only [List.map_toArray, List.map_cons, List.map_nil]); first | done | rfl | (simp only [List.length_drop, List.length_take]; rfl)) ?_; (with_reducible refine (scale_Error.calls t181 t182 a0 t190 _ A28.out).mono ?_); rintro e w33 ⟨rfl, hb⟩; refine ⟨_, rfl, ?_⟩; have n0_ := Aside0.mk (blk_below (g := gb184) (o := .cells #[.int .i64 t181, .int .i64 t182] 23 (0, 0)) (by (with_reducible repeat (first | refine blk_drewN ?_ _ | refine blk_drew ?_ | refine blk_alloc ?_ _)); exact BK184.out) hb); have n1_ := Aside0.mk (below_step (by repeat (first | (with_reducible first | exact HB.out | apply below_alloc | apply pw_below_drewN | apply below_drew1 | refine below_set ?_ GE184.out) | exact HB.out)) hb); clear BK184; clear HB; have BK184 := n0_; have HB := n1_; clear n0_ n1_; (try clear hb); (try clear hb2); (try clear hk); (try clear hi); have hcz34_0 : w33.cell? ⟨gb184, 0, none⟩ = some (.int .i64 t181) := (blk_cell BK184.out 0).trans rfl; have hcz34_1 : w33.cell? ⟨gb184, 1, none⟩ = some (.int .i64 t182) := (blk_cell BK184.out 1).trans rfl; have hfz34_0 := blk_frozen BK184.out 0; have hfz34_1 := blk_frozen BK184.out 1) | ((with_reducible refine gate_callee (f := 12) rfl ?_); refine goesL_ (some 66) rfl rfl Try.func12 (by kernel_rfl) rfl #[.int .i64 t181, .int .i64 t182, .int .i64 a0] rfl (by (try simp only [List.map_toArray, List.map_cons, List.map_nil]); first | done | rfl | (simp only [List.length_drop, List.length_take]; rfl)) ?_; (with_reducible refine (fuseeref04_Nanos.calls kj22 t181 t182 a0 t191 _ A29.out).mono ?_); rintro e w35 ⟨rfl, hb⟩; refine ⟨_, rfl, ?_⟩; have n0_ := Aside0.mk (blk_below (g := gb184) (o := .cells #[.int .i64 t181, .int .i64 t182] 23 (0, 0)) (by (with_reducible repeat (first | refine blk_drewN ?_ _ | refine blk_drew ?_ | refine blk_alloc ?_ _)); exact BK184.out) hb); have n1_ := Aside0.mk (below_step (by repeat (first | (with_reducible first | exact HB.out | apply below_alloc | apply pw_below_drewN | apply below_drew1 | refine below_set ?_ GE184.out) | exact HB.out)) hb); clear BK184; clear HB; have BK184 := n0_; have HB := n1_; clear n0_ n1_; (try clear hb); (try clear hb2); (try clear hk); (try clear hi)))
                      go_ret
                      exact ⟨by first | rfl | (simp [errW_none, errW_some] <;> rfl) | (simp [*, errW_none, errW_some] <;> rfl), by repeat (first | (with_reducible first | exact HB.out | apply below_alloc | apply pw_below_drewN | apply below_drew1 | refine below_set ?_ GE184.out) | exact HB.out)⟩
                    · rw [if_neg c31] at H
                      have c31b0 : decide (a0 < 1000) = false := decide_eq_false c31
                      clear c31
                      by_cases c36 : x7_22 = true
                      · subst c36
                        have H1 : (some (t181 == x5_22 && (t182 == x6_22))) = some r := by rw [if_pos rfl] at H; exact H
                        clear H
                        have H := H1
                        clear H1
                        obtain rfl := Option.some.inj H
                        have hcz37_0 : wc.cell? ⟨gb184, 0, none⟩ = some (.int .i64 t181) := (blk_cell BK184.out 0).trans rfl
                        have hcz37_1 : wc.cell? ⟨gb184, 1, none⟩ = some (.int .i64 t182) := (blk_cell BK184.out 1).trans rfl
                        have hfz37_0 := blk_frozen BK184.out 0
                        have hfz37_1 := blk_frozen BK184.out 1
                        go_wp2_with (first | ((with_reducible refine gate_callee (f := 14) rfl ?_); refine goesL_ (some 59) rfl rfl Try.func14 (by kernel_rfl) rfl #[.agg #[.int .i64 t181, .int .i64 t182], .int .i64 a0] rfl (by (try simp only [List.map_toArray, List.map_cons, List.map_nil]); first | done | rfl | (simp only [List.length_drop, List.length_take]; rfl)) ?_; (with_reducible refine (scale_Error.calls t181 t182 a0 t190 _ A28.out).mono ?_); rintro e w38 ⟨rfl, hb⟩; refine ⟨_, rfl, ?_⟩; have n0_ := Aside0.mk (blk_below (g := gb184) (o := .cells #[.int .i64 t181, .int .i64 t182] 23 (0, 0)) (by (with_reducible repeat (first | refine blk_drewN ?_ _ | refine blk_drew ?_ | refine blk_alloc ?_ _)); exact BK184.out) hb); have n1_ := Aside0.mk (below_step (by repeat (first | (with_reducible first | exact HB.out | apply below_alloc | apply pw_below_drewN | apply below_drew1 | refine below_set ?_ GE184.out) | exact HB.out)) hb); clear BK184; clear HB; have BK184 := n0_; have HB := n1_; clear n0_ n1_; (try clear hb); (try clear hb2); (try clear hk); (try clear hi); have hcz39_0 : w38.cell? ⟨gb184, 0, none⟩ = some (.int .i64 t181) := (blk_cell BK184.out 0).trans rfl; have hcz39_1 : w38.cell? ⟨gb184, 1, none⟩ = some (.int .i64 t182) := (blk_cell BK184.out 1).trans rfl; have hfz39_0 := blk_frozen BK184.out 0; have hfz39_1 := blk_frozen BK184.out 1) | ((with_reducible refine gate_callee (f := 12) rfl ?_); refine goesL_ (some 66) rfl rfl Try.func12 (by kernel_rfl) rfl #[.int .i64 t181, .int .i64 t182, .int .i64 a0] rfl (by (try simp only [List.map_toArray, List.map_cons, List.map_nil]); first | done | rfl | (simp only [List.length_drop, List.length_take]; rfl)) ?_; (with_reducible refine (fuseeref04_Nanos.calls kj22 t181 t182 a0 t191 _ A29.out).mono ?_); rintro e w40 ⟨rfl, hb⟩; refine ⟨_, rfl, ?_⟩; have n0_ := Aside0.mk (blk_below (g := gb184) (o := .cells #[.int .i64 t181, .int .i64 t182] 23 (0, 0)) (by (with_reducible repeat (first | refine blk_drewN ?_ _ | refine blk_drew ?_ | refine blk_alloc ?_ _)); exact BK184.out) hb); have n1_ := Aside0.mk (below_step (by repeat (first | (with_reducible first | exact HB.out | apply below_alloc | apply pw_below_drewN | apply below_drew1 | refine below_set ?_ GE184.out) | exact HB.out)) hb); clear BK184; clear HB; have BK184 := n0_; have HB := n1_; clear n0_ n1_; (try clear hb); (try clear hb2); (try clear hk); (try clear hi); have hcz41_0 : w40.cell? ⟨gb184, 0, none⟩ = some (.int .i64 t181) := (blk_cell BK184.out 0).trans rfl; have hcz41_1 : w40.cell? ⟨gb184, 1, none⟩ = some (.int .i64 t182) := (blk_cell BK184.out 1).trans rfl; have hfz41_0 := blk_frozen BK184.out 0; have hfz41_1 := blk_frozen BK184.out 1))
                        go_ret
                        exact ⟨by first | rfl | (simp [errW_none, errW_some] <;> rfl) | (simp [*, errW_none, errW_some] <;> rfl), by repeat (first | (with_reducible first | exact HB.out | apply below_alloc | apply pw_below_drewN | apply below_drew1 | refine below_set ?_ GE184.out) | exact HB.out)⟩
                      · replace c36 := Bool.eq_false_iff.mpr c36
                        subst c36
                        have H1 : (some false) = some r := by rw [if_neg (show ¬ (false = true) by decide)] at H; exact H
                        clear H
                        have H := H1
                        clear H1
                        obtain rfl := Option.some.inj H
                        have hcz42_0 : wc.cell? ⟨gb184, 0, none⟩ = some (.int .i64 t181) := (blk_cell BK184.out 0).trans rfl
                        have hcz42_1 : wc.cell? ⟨gb184, 1, none⟩ = some (.int .i64 t182) := (blk_cell BK184.out 1).trans rfl
                        have hfz42_0 := blk_frozen BK184.out 0
                        have hfz42_1 := blk_frozen BK184.out 1
                        go_wp2_with (first | ((with_reducible refine gate_callee (f := 14) rfl ?_); refine goesL_ (some 59) rfl rfl Try.func14 (by kernel_rfl) rfl #[.agg #[.int .i64 t181, .int .i64 t182], .int .i64 a0] rfl (by (try simp only [List.map_toArray, List.map_cons, List.map_nil]); first | done | rfl | (simp only [List.length_drop, List.length_take]; rfl)) ?_; (with_reducible refine (scale_Error.calls t181 t182 a0 t190 _ A28.out).mono ?_); rintro e w43 ⟨rfl, hb⟩; refine ⟨_, rfl, ?_⟩; have n0_ := Aside0.mk (blk_below (g := gb184) (o := .cells #[.int .i64 t181, .int .i64 t182] 23 (0, 0)) (by (with_reducible repeat (first | refine blk_drewN ?_ _ | refine blk_drew ?_ | refine blk_alloc ?_ _)); exact BK184.out) hb); have n1_ := Aside0.mk (below_step (by repeat (first | (with_reducible first | exact HB.out | apply below_alloc | apply pw_below_drewN | apply below_drew1 | refine below_set ?_ GE184.out) | exact HB.out)) hb); clear BK184; clear HB; have BK184 := n0_; have HB := n1_; clear n0_ n1_; (try clear hb); (try clear hb2); (try clear hk); (try clear hi); have hcz44_0 : w43.cell? ⟨gb184, 0, none⟩ = some (.int .i64 t181) := (blk_cell BK184.out 0).trans rfl; have hcz44_1 : w43.cell? ⟨gb184, 1, none⟩ = some (.int .i64 t182) := (blk_cell BK184.out 1).trans rfl; have hfz44_0 := blk_frozen BK184.out 0; have hfz44_1 := blk_frozen BK184.out 1) | ((with_reducible refine gate_callee (f := 12) rfl ?_); refine goesL_ (some 66) rfl rfl Try.func12 (by kernel_rfl) rfl #[.int .i64 t181, .int .i64 t182, .int .i64 a0] rfl (by (try simp only [List.map_toArray, List.map_cons, List.map_nil]); first | done | rfl | (simp only [List.length_drop, List.length_take]; rfl)) ?_; (with_reducible refine (fuseeref04_Nanos.calls kj22 t181 t182 a0 t191 _ A29.out).mono ?_); rintro e w45 ⟨rfl, hb⟩; refine ⟨_, rfl, ?_⟩; have n0_ := Aside0.mk (blk_below (g := gb184) (o := .cells #[.int .i64 t181, .int .i64 t182] 23 (0, 0)) (by (with_reducible repeat (first | refine blk_drewN ?_ _ | refine blk_drew ?_ | refine blk_alloc ?_ _)); exact BK184.out) hb); have n1_ := Aside0.mk (below_step (by repeat (first | (with_reducible first | exact HB.out | apply below_alloc | apply pw_below_drewN | apply below_drew1 | refine below_set ?_ GE184.out) | exact HB.out)) hb); clear BK184; clear HB; have BK184 := n0_; have HB := n1_; clear n0_ n1_; (try clear hb); (try clear hb2); (try clear hk); (try clear hi)))
                        go_ret
                        exact ⟨by first | rfl | (simp [errW_none, errW_some] <;> rfl) | (simp [*, errW_none, errW_some] <;> rfl), by repeat (first | (with_reducible first | exact HB.out | apply below_alloc | apply pw_below_drewN | apply below_drew1 | refine below_set ?_ GE184.out) | exact HB.out)⟩
                  · rw [if_neg c30] at H
                    have c30b0 : (t190 == (wrap64 (t191 - 1000000000))) = false := beq_eq_false_iff_ne.mpr c30
                    have c30b1 : (t190 != (wrap64 (t191 - 1000000000))) = true := bne_iff_ne.mpr c30
                    obtain rfl := Option.some.inj H
                    have hcz46_0 : wc.cell? ⟨gb184, 0, none⟩ = some (.int .i64 t181) := (blk_cell BK184.out 0).trans rfl
                    have hcz46_1 : wc.cell? ⟨gb184, 1, none⟩ = some (.int .i64 t182) := (blk_cell BK184.out 1).trans rfl
                    have hfz46_0 := blk_frozen BK184.out 0
                    have hfz46_1 := blk_frozen BK184.out 1
                    go_wp2_with (first | ((with_reducible refine gate_callee (f := 14) rfl ?_); refine goesL_ (some 59) rfl rfl Try.func14 (by kernel_rfl) rfl #[.agg #[.int .i64 t181, .int .i64 t182], .int .i64 a0] rfl (by (try simp only [List.map_toArray, List.map_cons, List.map_nil]); first | done | rfl | (simp only [List.length_drop, List.length_take]; rfl)) ?_; (with_reducible refine (scale_Error.calls t181 t182 a0 t190 _ A28.out).mono ?_); rintro e w47 ⟨rfl, hb⟩; refine ⟨_, rfl, ?_⟩; have n0_ := Aside0.mk (blk_below (g := gb184) (o := .cells #[.int .i64 t181, .int .i64 t182] 23 (0, 0)) (by (with_reducible repeat (first | refine blk_drewN ?_ _ | refine blk_drew ?_ | refine blk_alloc ?_ _)); exact BK184.out) hb); have n1_ := Aside0.mk (below_step (by repeat (first | (with_reducible first | exact HB.out | apply below_alloc | apply pw_below_drewN | apply below_drew1 | refine below_set ?_ GE184.out) | exact HB.out)) hb); clear BK184; clear HB; have BK184 := n0_; have HB := n1_; clear n0_ n1_; (try clear hb); (try clear hb2); (try clear hk); (try clear hi); have hcz48_0 : w47.cell? ⟨gb184, 0, none⟩ = some (.int .i64 t181) := (blk_cell BK184.out 0).trans rfl; have hcz48_1 : w47.cell? ⟨gb184, 1, none⟩ = some (.int .i64 t182) := (blk_cell BK184.out 1).trans rfl; have hfz48_0 := blk_frozen BK184.out 0; have hfz48_1 := blk_frozen BK184.out 1) | ((with_reducible refine gate_callee (f := 12) rfl ?_); refine goesL_ (some 66) rfl rfl Try.func12 (by kernel_rfl) rfl #[.int .i64 t181, .int .i64 t182, .int .i64 a0] rfl (by (try simp only [List.map_toArray, List.map_cons, List.map_nil]); first | done | rfl | (simp only [List.length_drop, List.length_take]; rfl)) ?_; (with_reducible refine (fuseeref04_Nanos.calls kj22 t181 t182 a0 t191 _ A29.out).mono ?_); rintro e w49 ⟨rfl, hb⟩; refine ⟨_, rfl, ?_⟩; have n0_ := Aside0.mk (blk_below (g := gb184) (o := .cells #[.int .i64 t181, .int .i64 t182] 23 (0, 0)) (by (with_reducible repeat (first | refine blk_drewN ?_ _ | refine blk_drew ?_ | refine blk_alloc ?_ _)); exact BK184.out) hb); have n1_ := Aside0.mk (below_step (by repeat (first | (with_reducible first | exact HB.out | apply below_alloc | apply pw_below_drewN | apply below_drew1 | refine below_set ?_ GE184.out) | exact HB.out)) hb); clear BK184; clear HB; have BK184 := n0_; have HB := n1_; clear n0_ n1_; (try clear hb); (try clear hb2); (try clear hk); (try clear hi)))
                    go_ret
                    exact ⟨by first | rfl | (simp [errW_none, errW_some] <;> rfl) | (simp [*, errW_none, errW_some] <;> rfl), by repeat (first | (with_reducible first | exact HB.out | apply below_alloc | apply pw_below_drewN | apply below_drew1 | refine below_set ?_ GE184.out) | exact HB.out)⟩
                · replace c27 := Bool.eq_false_iff.mpr c27
                  subst c27
                  have H1 : (some (t181 == 0)) = some r := by rw [if_neg (show ¬ (false = true) by decide)] at H; exact H
                  clear H
                  have H := H1
                  clear H1
                  obtain rfl := Option.some.inj H
                  have hcz50_0 : wc.cell? ⟨gb184, 0, none⟩ = some (.int .i64 t181) := (blk_cell BK184.out 0).trans rfl
                  have hcz50_1 : wc.cell? ⟨gb184, 1, none⟩ = some (.int .i64 t182) := (blk_cell BK184.out 1).trans rfl
                  have hfz50_0 := blk_frozen BK184.out 0
                  have hfz50_1 := blk_frozen BK184.out 1
                  go_wp2
                  go_ret
                  exact ⟨by first | rfl | (simp [errW_none, errW_some] <;> rfl) | (simp [*, errW_none, errW_some] <;> rfl), by repeat (first | (with_reducible first | exact HB.out | apply below_alloc | apply pw_below_drewN | apply below_drew1 | refine below_set ?_ GE184.out) | exact HB.out)⟩
  · replace c3 := Bool.eq_false_iff.mpr c3
    subst c3
    have H1 : (some false) = some r := by rw [if_neg (show ¬ (false = true) by decide)] at H; exact H
    clear H
    have H := H1
    clear H1
    obtain rfl := Option.some.inj H
    go_enter Try.func5, Try.ntmps5
    go_wp2_with (first | ((with_reducible refine gate_callee (f := 7) rfl ?_); refine goesL_ (some 9) rfl rfl Try.func7 (by kernel_rfl) rfl #[] rfl (by (try simp only [List.map_toArray, List.map_cons, List.map_nil]); first | done | rfl | (simp only [List.length_drop, List.length_take]; rfl)) ?_; (with_reducible refine (fuseelaw04_fixed.calls k  false _ A2.out).mono ?_); rintro e w51 ⟨rfl, hb⟩; refine ⟨_, rfl, ?_⟩; have n0_ := Aside0.mk (below_step (by repeat (first | (with_reducible first | exact HB.out | apply below_alloc | apply pw_below_drewN | apply below_drew1) | exact HB.out)) hb); clear HB; have HB := n0_; clear n0_; (try clear hb); (try clear hb2); (try clear hk); (try clear hi)))
    go_ret
    exact ⟨by first | rfl | (simp [errW_none, errW_some] <;> rfl) | (simp [*, errW_none, errW_some] <;> rfl), by repeat (first | (with_reducible first | exact HB.out | apply below_alloc | apply pw_below_drewN | apply below_drew1) | exact HB.out)⟩

/-- THE ONE PURE STATEMENT of fuseelaw04_ScaleMakes: yours. -/
def fuseelaw04_ScaleMakes.Pure : Prop := ∀ (a0 : Int), (Lit.int .i64 a0).wf = true → ∃ k, fuseelaw04_ScaleMakes.f k a0 = some true
theorem fuseelaw04_ScaleMakes.walk (P : fuseelaw04_ScaleMakes.Pure) (a0 : Int) (w : World) (w0 : (Lit.int .i64 a0).wf = true) :
    Calls Try.prog 5 #[.int .i64 a0] w fun e w' => e = .returned (.bool true) ∧ Below w.heap.size w w' := by
  obtain ⟨k, h⟩ := P a0 w0
  refine (fuseelaw04_ScaleMakes.calls k a0 true w h).mono ?_
  rintro e w' ⟨rfl, hd⟩
  exact ⟨rfl, hd⟩

end Go.Proofs.Ytfpheadbcemmiaa.PSc
