-- written by a program of this session (wip/myprint.py) over the kit's printer
import Derived.Test.YtcndjkjlgdidoaaPDlx0
import Derived.Test.YtcndjkjlgdidoaaPDlx1
import Derived.Test.YtcndjkjlgdidoaaPDlx2
import Derived.Test.YtcndjkjlgdidoaaPDlx4
namespace Go.Proofs.Ytcndjkjlgdidoaa.PDl
open Go.RowKit Go.Proofs.YtcndjkjlgdidoaaW.PrintWords Go.Proofs.YtcndjkjlgdidoaaW.PrintLast Go.Proofs.YtcndjkjlgdidoaaW.PrintMore
attribute [local go_sem] max2_int min2_int max_two min_two max_three min_three max_four min_four   -- for this text's walks alone
set_option linter.unusedVariables false
set_option linter.unusedSimpArgs false

/-! ### fuseelaw34_DeadlineMeets: function 5 -/
mutual
def fuseelaw34_DeadlineMeets.j0 : Nat → List (S35) → Int → Bool → Option (Bool)
  | 0, _, _, _ => none
  | k + 1, x0, x1, x17 => if x17 = true then (some true) else ((deadline_Play.f x0 (wrap64 (Int.tmod x1 6000))).bind fun bt204 => (fuseelaw34_DeadlineMeets.l0 k x1 bt204.2.1 (bt204.2.1.length : Int) 0 bt204.1 bt204.2.1 bt204.2.2))
def fuseelaw34_DeadlineMeets.l0 : Nat → Int → List Int → Int → Int → List Int → List Int → Int → Option (Bool)
  | 0, _, _, _, _, _, _, _ => none
  | k + 1, x1, x24, x25, x26, x212000, x212001, x212002 => if x26 < x25 then (if 0 ≤ x26 then (if x26 < (x24.length : Int) then (if (rd x24 x26) = 0 then (fuseelaw34_DeadlineMeets.l0 k x1 x24 x25 (wrap64 (x26 + 1)) x212000 x212001 x212002) else (some false)) else (none)) else (none)) else (if (x212000.length : Int) = (wrap64 (Int.tmod x1 6000)) then (some (decide (x212002 ≤ (x212000.length : Int)))) else (some false))
end
def fuseelaw34_DeadlineMeets.f (k : Nat) (l0 : List (S35)) (a1 : Int) : Option (Bool) := (fuseelaw34_fixed.f).bind fun t202 => (if t202 = true then (if (l0.length : Int) > 30 then (fuseelaw34_DeadlineMeets.j0 k l0 a1 true) else ((deadline_Fits.f k l0).bind fun t203 => (fuseelaw34_DeadlineMeets.j0 k l0 a1 (!t203)))) else (some false))
theorem fuseelaw34_DeadlineMeets.mono_l : ∀ k, (∀ y0 y1 y2, LeO (fuseelaw34_DeadlineMeets.j0 k y0 y1 y2) (fuseelaw34_DeadlineMeets.j0 (k + 1) y0 y1 y2)) ∧ (∀ y0 y1 y2 y3 y4 y5 y6, LeO (fuseelaw34_DeadlineMeets.l0 k y0 y1 y2 y3 y4 y5 y6) (fuseelaw34_DeadlineMeets.l0 (k + 1) y0 y1 y2 y3 y4 y5 y6))
  | 0 => ⟨fun _ _ _ r h => by simp [fuseelaw34_DeadlineMeets.j0] at h, fun _ _ _ _ _ _ _ r h => by simp [fuseelaw34_DeadlineMeets.l0] at h⟩
  | k + 1 => by
    obtain ⟨ih0, ih1⟩ := fuseelaw34_DeadlineMeets.mono_l k
    refine ⟨?_, ?_⟩
    · intro y0 y1 y2
      unfold fuseelaw34_DeadlineMeets.j0
      repeat' first
      | (with_reducible exact ih0 _ _ _)
      | (with_reducible exact ih1 _ _ _ _ _ _ _)
      | (with_reducible exact deadline_Fits.mono _ _)
      | (with_reducible exact LeO.refl _)
      | (with_reducible exact LeO.none _)
      | (with_reducible refine LeO.ite ?_ ?_)
      | (with_reducible refine LeO.bind ?_ (fun _ => ?_))
      | exact ih0 _ _ _
      | exact ih1 _ _ _ _ _ _ _
      | exact deadline_Fits.mono _ _
      | exact LeO.none _
      | refine LeO.ite ?_ ?_
      | refine LeO.bind ?_ (fun _ => ?_)
    · intro y0 y1 y2 y3 y4 y5 y6
      unfold fuseelaw34_DeadlineMeets.l0
      repeat' first
      | (with_reducible exact ih0 _ _ _)
      | (with_reducible exact ih1 _ _ _ _ _ _ _)
      | (with_reducible exact deadline_Fits.mono _ _)
      | (with_reducible exact LeO.refl _)
      | (with_reducible exact LeO.none _)
      | (with_reducible refine LeO.ite ?_ ?_)
      | (with_reducible refine LeO.bind ?_ (fun _ => ?_))
      | exact ih0 _ _ _
      | exact ih1 _ _ _ _ _ _ _
      | exact deadline_Fits.mono _ _
      | exact LeO.none _
      | refine LeO.ite ?_ ?_
      | refine LeO.bind ?_ (fun _ => ?_)
theorem fuseelaw34_DeadlineMeets.mono : ∀ a0 a1 k, LeO (fuseelaw34_DeadlineMeets.f k a0 a1) (fuseelaw34_DeadlineMeets.f (k + 1) a0 a1) := by
  intro a0 a1 k
  obtain ⟨ih0, ih1⟩ := fuseelaw34_DeadlineMeets.mono_l k
  unfold fuseelaw34_DeadlineMeets.f
  repeat' first
      | (with_reducible exact ih0 _ _ _)
      | (with_reducible exact ih1 _ _ _ _ _ _ _)
      | (with_reducible exact deadline_Fits.mono _ _)
      | (with_reducible exact LeO.refl _)
      | (with_reducible exact LeO.none _)
      | (with_reducible refine LeO.ite ?_ ?_)
      | (with_reducible refine LeO.bind ?_ (fun _ => ?_))
      | exact ih0 _ _ _
      | exact ih1 _ _ _ _ _ _ _
      | exact deadline_Fits.mono _ _
      | exact LeO.none _
      | refine LeO.ite ?_ ?_
      | refine LeO.bind ?_ (fun _ => ?_)
set_option maxHeartbeats 8000000 in
set_option maxRecDepth 100000 in
theorem fuseelaw34_DeadlineMeets.calls (k : Nat) (A0 : Option Addr) (c0 : Nat) (l0 : List (S35)) (a1 : Int) (r : Bool) (w : World) (hr0 : Kd.C k35 w A0 l0.length l0) (hc0 : l0.length ≤ c0) (h : fuseelaw34_DeadlineMeets.f k l0 a1 = some r) :
    Calls Try.prog 5 #[.slice A0 l0.length c0, .int .u16 a1] w fun e w' => e = .returned (.bool r) ∧ Below w.heap.size w w' := by
  have hu26 := Try.underlying26
  have HR0 := Aside0.mk hr0
  have HC0 := Aside0.mk hc0
  clear hr0 hc0
  have HB := Aside0.mk (Below.refl w.heap.size w)
  have H : ((fuseelaw34_fixed.f).bind fun t202 => (if t202 = true then (if (l0.length : Int) > 30 then (fuseelaw34_DeadlineMeets.j0 k l0 a1 true) else ((deadline_Fits.f k l0).bind fun t203 => (fuseelaw34_DeadlineMeets.j0 k l0 a1 (!t203)))) else (some false))) = some r := h
  clear h
  replace H := Option.bind_eq_some_iff.mp H
  obtain ⟨t202, A30, H⟩ := H
  replace H : (if t202 = true then (if (l0.length : Int) > 30 then (fuseelaw34_DeadlineMeets.j0 k l0 a1 true) else ((deadline_Fits.f k l0).bind fun t203 => (fuseelaw34_DeadlineMeets.j0 k l0 a1 (!t203)))) else (some false)) = some r := H
  have A3 := Aside0.mk A30
  clear A30
  by_cases c4 : t202 = true
  · subst c4
    have H1 : (if (l0.length : Int) > 30 then (fuseelaw34_DeadlineMeets.j0 k l0 a1 true) else ((deadline_Fits.f k l0).bind fun t203 => (fuseelaw34_DeadlineMeets.j0 k l0 a1 (!t203)))) = some r := by rw [if_pos rfl] at H; exact H
    clear H
    have H := H1
    clear H1
    have HC5 := Aside0.mk H
    clear H
    go_enter Try.func5, Try.ntmps5
    go_upto_region 3 with (first | ((with_reducible refine gate_callee (f := 6) rfl ?_); refine goesL_ (some 8) rfl rfl Try.func6 (by kernel_rfl) rfl #[] rfl (by (try simp only [List.map_toArray, List.map_cons, List.map_nil]); first | done | rfl | (simp only [List.length_drop, List.length_take]; rfl)) ?_; (with_reducible refine (fuseelaw34_fixed.calls  true _ A3.out).mono ?_); rintro e w6 ⟨rfl, hb⟩; refine ⟨_, rfl, ?_⟩; have n0_ := Aside0.mk (below_step (by repeat (first | (with_reducible first | exact HB.out | apply below_alloc | apply pw_below_drewN | apply below_drew1) | exact HB.out)) hb); clear HB; have HB := n0_; clear n0_; (try clear hb); (try clear hb2); (try clear hk); (try clear hi)))
    (try simp only [Act.put, List.setIfInBounds_toArray, List.set_cons_zero, List.set_cons_succ])
    go_cut [17] (fun v17 wc => ∃ (kq : Nat) (x17_4 : Bool), v17 = .bool x17_4 ∧ Aside0 (fuseelaw34_DeadlineMeets.j0 kq l0 a1 x17_4 = some r) ∧ Aside0 (kq ≤ k) ∧ Aside0 (Below w.heap.size w wc))
    case first =>
      have H := HC5.out
      clear HC5
      by_cases c7 : (l0.length : Int) > 30
      · rw [if_pos c7] at H
        have c7b0 : decide (30 < (l0.length : Int)) = true := decide_eq_true c7
        have c7b1 : decide (30 < l0.length) = true := decide_eq_true (by omega)
        clear c7
        (first | rw [c7b0] | (simp only [i64_w, i32_w]; rw [c7b0]) | skip)
        have H' := Aside0.mk H
        clear H
        go_wp2
        go_meet
        case rel => exact ⟨_, (true), (by first | rfl | (simp; done) | (simp [*]; done)), H', ⟨by first | omega | exact Nat.le_refl _⟩, ⟨by repeat (first | (with_reducible first | exact HB.out | apply below_alloc | apply pw_below_drewN | apply below_drew1) | exact HB.out)⟩⟩
      · rw [if_neg c7] at H
        have c7b0 : decide (30 < (l0.length : Int)) = false := decide_eq_false c7
        have c7b1 : decide (30 < l0.length) = false := decide_eq_false (by omega)
        clear c7
        (first | rw [c7b0] | (simp only [i64_w, i32_w]; rw [c7b0]) | skip)
        replace H := Option.bind_eq_some_iff.mp H
        obtain ⟨t203, A80, H⟩ := H
        replace H : (fuseelaw34_DeadlineMeets.j0 k l0 a1 (!t203)) = some r := H
        have A8 := Aside0.mk A80
        clear A80
        have H' := Aside0.mk H
        clear H
        go_wp2_with (first | (go_at_call 11; (with_reducible refine (deadline_Fits.calls k _ _ l0 t203 _ ?side1 ?side2 A8.out).mono ?_); (case side1 => repeat (first | exact (Kd.C_below HR0.out HB.out) | (with_reducible refine Kd.C_alloc ?_ _) | (with_reducible refine Kd.C_drewN ?_ _) | (with_reducible refine Kd.C_drew ?_))); (case side2 => exact HC0.out); rintro e w9 ⟨rfl, hb⟩; have n0_ := Aside0.mk (below_step (by repeat (first | (with_reducible first | exact HB.out | apply below_alloc | apply pw_below_drewN | apply below_drew1) | exact HB.out)) hb); clear HB; have HB := n0_; clear n0_; (try clear hb); (try clear hb2); (try clear hk); (try clear hi)))
        go_meet
        case rel => exact ⟨_, (!t203), (by first | rfl | (simp; done) | (simp [*]; done)), H', ⟨by first | omega | exact Nat.le_refl _⟩, ⟨by repeat (first | (with_reducible first | exact HB.out | apply below_alloc | apply pw_below_drewN | apply below_drew1) | exact HB.out)⟩⟩
    case rest =>
      clear HC5
      try clear p2
      try clear c4
      try clear c5
      try clear c6
      try clear c7
      try clear c7b0
      try clear c7b1
      obtain ⟨kq, x17_4, rfl, HA, HJ4, HB⟩ := hcut
      cases kq with
      | zero => exact absurd HA.out (by simp [fuseelaw34_DeadlineMeets.j0])
      | succ kj4 =>
        have H := HA.out
        clear HA
        simp only [fuseelaw34_DeadlineMeets.j0] at H
        by_cases c10 : x17_4 = true
        · subst c10
          have H1 : (some true) = some r := by rw [if_pos rfl] at H; exact H
          clear H
          have H := H1
          clear H1
          obtain rfl := Option.some.inj H
          go_wp2
          go_ret
          exact ⟨by first | rfl | (simp [errW_none, errW_some] <;> rfl) | (simp [*, errW_none, errW_some] <;> rfl), by repeat (first | (with_reducible first | exact HB.out | apply below_alloc | apply pw_below_drewN | apply below_drew1) | exact HB.out)⟩
        · replace c10 := Bool.eq_false_iff.mpr c10
          subst c10
          have H1 : ((deadline_Play.f l0 (wrap64 (Int.tmod a1 6000))).bind fun bt204 => (fuseelaw34_DeadlineMeets.l0 kj4 a1 bt204.2.1 (bt204.2.1.length : Int) 0 bt204.1 bt204.2.1 bt204.2.2)) = some r := by rw [if_neg (show ¬ (false = true) by decide)] at H; exact H
          clear H
          have H := H1
          clear H1
          replace H := Option.bind_eq_some_iff.mp H
          obtain ⟨⟨t204, t207, t210⟩, A110, H⟩ := H
          replace H : (fuseelaw34_DeadlineMeets.l0 kj4 a1 t207 (t207.length : Int) 0 t204 t207 t210) = some r := H
          have A11 := Aside0.mk A110
          clear A110
          have H' := Aside0.mk H
          clear H
          go_wp2_with (first | ((with_reducible refine gate_callee (f := 7) rfl ?_); refine goesL_ (some 22) rfl rfl Try.func7 (by kernel_rfl) rfl #[.slice A0 l0.length c0, .int .i64 (wrap64 (Int.tmod a1 6000))] rfl (by (try simp only [List.map_toArray, List.map_cons, List.map_nil]); first | done | rfl | (simp only [List.length_drop, List.length_take]; rfl)) ?_; (with_reducible refine (deadline_Play.calls _ _ l0 (wrap64 (Int.tmod a1 6000)) t204 t207 t210 _ ?side1 ?side2 A11.out).mono ?_); (case side1 => repeat (first | exact (Kd.C_below HR0.out HB.out) | (with_reducible refine Kd.C_alloc ?_ _) | (with_reducible refine Kd.C_drewN ?_ _) | (with_reducible refine Kd.C_drew ?_))); (case side2 => exact HC0.out); rintro e w12 ⟨v205, v208, rfl, ho0, ho1, hb⟩; refine ⟨_, rfl, ?_⟩; have n0_ := Aside0.mk (Kd.R_lower ho0 (below_size (by repeat (first | (with_reducible first | exact HB.out | apply below_alloc | apply pw_below_drewN | apply below_drew1) | exact HB.out)))); have n1_ := Aside0.mk (Kd.R_lower ho1 (below_size (by repeat (first | (with_reducible first | exact HB.out | apply below_alloc | apply pw_below_drewN | apply below_drew1) | exact HB.out)))); have n2_ := Aside0.mk (below_step (by repeat (first | (with_reducible first | exact HB.out | apply below_alloc | apply pw_below_drewN | apply below_drew1) | exact HB.out)) hb); clear HB; have HO206 := n0_; have HO209 := n1_; have HB := n2_; clear n0_ n1_ n2_; (try clear hb); (try clear hb2); (try clear hk); (try clear hi); (try clear ho0); (try clear ho1)) | ((with_reducible refine gate_dst (N := 5) rfl ?_); (try (refine gate_guard (by rfl) ?_; dsimp only)); refine box_event ?hg (N := 5) ?hd (cs := #[.slice none 0 0, .slice none 0 0, .int .i64 0]) (t := 26) ?hr ?_; (case hd => rfl); (case hg => rfl); (case hr => first | (go_simp; done) | (go_simp; rfl)); intro gb211 hg w13 hbox hb; have n0_ := Aside0.mk (Kd.R_below (by (with_reducible repeat (first | apply Kd.R_alloc | apply Kd.R_drewN | apply Kd.R_drew)); exact HO206.out) hb); have n1_ := Aside0.mk (Kd.R_below (by (with_reducible repeat (first | apply Kd.R_alloc | apply Kd.R_drewN | apply Kd.R_drew)); exact HO209.out) hb); have n2_ := Aside0.mk (below_step (by repeat (first | (with_reducible first | exact HB.out | apply below_alloc | apply pw_below_drewN | apply below_drew1) | exact HB.out)) hb); have n3_ := Aside0.mk (hbox); have n4_ := Aside0.mk ((by rw [hg]; exact (below_size (by repeat (first | (with_reducible first | exact HB.out | apply below_alloc | apply pw_below_drewN | apply below_drew1) | exact HB.out))) : w.heap.size ≤ gb211)); have n5_ := Aside0.mk ((by rw [hg]; exact (below_size (by repeat (first | (with_reducible first | exact HB.out | apply below_alloc | apply pw_below_drewN | apply below_drew1) | exact HB.out))) : w.heap.size ≤ gb211)); clear HO206; clear HO209; clear HB; have HO206 := n0_; have HO209 := n1_; have HB := n2_; have BK211 := n3_; have GW211 := n4_; have GE211 := n5_; clear n0_ n1_ n2_ n3_ n4_ n5_; clear hb hbox hg; obtain ⟨Ao14, co14, eo14⟩ := Kd.R_slice HO206.out; subst eo14; have hcz15_0 : w13.cell? ⟨gb211, 0, none⟩ = some (.slice none 0 0) := (blk_cell BK211.out 0).trans rfl; have hcz15_1 : w13.cell? ⟨gb211, 1, none⟩ = some (.slice none 0 0) := (blk_cell BK211.out 1).trans rfl; have hcz15_2 : w13.cell? ⟨gb211, 2, none⟩ = some (.int .i64 0) := (blk_cell BK211.out 2).trans rfl; have hfz15_0 := blk_frozen BK211.out 0; have hfz15_1 := blk_frozen BK211.out 1; have hfz15_2 := blk_frozen BK211.out 2; obtain ⟨Ao16, co16, eo16⟩ := Kd.R_slice HO209.out; subst eo16))
          go_loopg [26] kj4 (fun kq v26 w' => ∃ (x26_2 : Int), v26 = .int .i64 x26_2 ∧ Aside0 (fuseelaw34_DeadlineMeets.l0 kq a1 t207 (t207.length : Int) x26_2 t204 t207 t210 = some r) ∧ Aside0 (kq ≤ kj4) ∧ Aside0 (Kd.R (Kd.int .i64) 3 w' w.heap.size (fun k_ => some k_ ≠ ((.slice Ao14 t204.length co14) : Value).ownBlock) (.slice Ao16 t207.length co16) t207) ∧ Aside0 (Kd.R (Kd.int .i64) 3 w' w.heap.size (fun k_ => some k_ ≠ ((.slice Ao16 t207.length co16) : Value).ownBlock ∧ some k_ ≠ ((.slice Ao16 t207.length co16) : Value).ownBlock) (.slice Ao14 t204.length co14) t204) ∧ Aside0 (Kd.R (Kd.int .i64) 3 w' w.heap.size (fun k_ => some k_ ≠ ((.slice Ao14 t204.length co14) : Value).ownBlock) (.slice Ao16 t207.length co16) t207) ∧ Aside0 (w'.heap[gb211]? = some (.cells #[(.slice Ao14 t204.length co14), (.slice Ao16 t207.length co16), .int .i64 t210] 26 (0, 0))) ∧ Aside0 (Below w.heap.size w w'))
          case atStart => exact ⟨(0), (by first | rfl | (simp; done) | (simp [*]; done)), H', ⟨Nat.le_refl _⟩, ⟨by (with_reducible repeat (first | apply Kd.R_alloc | apply Kd.R_drewN | apply Kd.R_drew)); exact Kd.R_mono (Kd.R_far (p := ⟨gb211, 2, none⟩) (Kd.R_far (p := ⟨gb211, 1, none⟩) (Kd.R_far (p := ⟨gb211, 0, none⟩) (Kd.R_types HO209.out BK211.out (by decide)) (fun _ hk => hk.2) (.slice Ao14 t204.length co14)) (fun _ hk => hk.2) (.slice Ao16 t207.length co16)) (fun _ hk => hk.2) (.int .i64 t210)) (fun _ hk => hk.1)⟩, ⟨by (with_reducible repeat (first | apply Kd.R_alloc | apply Kd.R_drewN | apply Kd.R_drew)); exact Kd.R_mono (Kd.R_far (p := ⟨gb211, 2, none⟩) (Kd.R_far (p := ⟨gb211, 1, none⟩) (Kd.R_far (p := ⟨gb211, 0, none⟩) (Kd.R_types HO206.out BK211.out (by decide)) (fun _ hk => hk.2) (.slice Ao14 t204.length co14)) (fun _ hk => hk.2) (.slice Ao16 t207.length co16)) (fun _ hk => hk.2) (.int .i64 t210)) (fun _ hk => ⟨hk.1, hk.1⟩)⟩, ⟨by (with_reducible repeat (first | apply Kd.R_alloc | apply Kd.R_drewN | apply Kd.R_drew)); exact Kd.R_mono (Kd.R_far (p := ⟨gb211, 2, none⟩) (Kd.R_far (p := ⟨gb211, 1, none⟩) (Kd.R_far (p := ⟨gb211, 0, none⟩) (Kd.R_types HO209.out BK211.out (by decide)) (fun _ hk => hk.2) (.slice Ao14 t204.length co14)) (fun _ hk => hk.2) (.slice Ao16 t207.length co16)) (fun _ hk => hk.2) (.int .i64 t210)) (fun _ hk => hk.1)⟩, ⟨by (with_reducible repeat (first | refine blk_drewN ?_ _ | refine blk_drew ?_ | refine blk_alloc ?_ _)); refine blk_put (cs := #[.slice Ao14 t204.length co14, .slice Ao16 t207.length co16, .int .i64 0]) ?_ 2 _ rfl; (with_reducible repeat (first | refine blk_drewN ?_ _ | refine blk_drew ?_ | refine blk_alloc ?_ _)); refine blk_put (cs := #[.slice Ao14 t204.length co14, .slice none 0 0, .int .i64 0]) ?_ 1 _ rfl; (with_reducible repeat (first | refine blk_drewN ?_ _ | refine blk_drew ?_ | refine blk_alloc ?_ _)); refine blk_put (cs := #[.slice none 0 0, .slice none 0 0, .int .i64 0]) ?_ 0 _ rfl; (with_reducible repeat (first | refine blk_drewN ?_ _ | refine blk_drew ?_ | refine blk_alloc ?_ _)); exact BK211.out⟩, ⟨by repeat (first | (with_reducible first | exact HB.out | apply below_alloc | apply pw_below_drewN | apply below_drew1 | refine below_set ?_ GE211.out) | exact HB.out)⟩⟩
          case round =>
            clear H'
            try clear c1
            try clear p2
            try clear c4
            try clear c5
            try clear c6
            try clear p6
            try clear c7
            try clear c7b0
            try clear c7b1
            try clear c10
            try clear hcz15_0
            try clear hcz15_1
            try clear hcz15_2
            try clear hfz15_0
            try clear hfz15_1
            try clear hfz15_2
            try clear p2
            obtain ⟨x26_2, rfl, HA, HK2, HO_24, HO_212000, HO_212001, BK211, HB⟩ := hrel
            cases gk with
            | zero => exact absurd HA.out (by simp [fuseelaw34_DeadlineMeets.l0])
            | succ k2 =>
              have H := HA.out
              clear HA
              simp only [fuseelaw34_DeadlineMeets.l0] at H
              by_cases c17 : x26_2 < (t207.length : Int)
              · rw [if_pos c17] at H
                have c17b0 : decide (x26_2 < (t207.length : Int)) = true := decide_eq_true c17
                clear c17
                by_cases c18 : 0 ≤ x26_2
                · rw [if_pos c18] at H
                  have c18b0 : decide (0 ≤ x26_2) = true := decide_eq_true c18
                  clear c18
                  by_cases c19 : x26_2 < (t207.length : Int)
                  · rw [if_pos c19] at H
                    have c19b0 : decide (x26_2 < (t207.length : Int)) = true := decide_eq_true c19
                    clear c19
                    by_cases c20 : (rd t207 x26_2) = 0
                    · rw [if_pos c20] at H
                      have c20b0 : ((rd t207 x26_2) == 0) = true := beq_iff_eq.mpr c20
                      have c20b1 : ((rd t207 x26_2) != 0) = false := bne_eq_false_iff_eq.mpr c20
                      clear c20
                      have H' := Aside0.mk H
                      clear H
                      have p212 : 0 ≤ (x26_2 : Int) := of_decide_eq_true (by first | (with_reducible assumption) | assumption)
                      have q212 : x26_2 < (t207.length : Int) := of_decide_eq_true (by first | (with_reducible assumption) | assumption)
                      obtain ⟨ad212, e212, hx212_0⟩ := Kd.at_int (Kd.R_reads' HO_24.out).2.2 x26_2 p212 q212
                      cases e212
                      replace p212 := eq_true p212
                      replace q212 := eq_true q212
                      go_wp2
                      go_roundg k2
                      case measure => have := HJ4.out; have := HK2.out; omega
                      case rel => exact ⟨(wrap64 (x26_2 + 1)), (by first | rfl | (simp; done) | (simp [*]; done)), H', ⟨by have := HJ4.out; have := HK2.out; omega⟩, ⟨by (with_reducible repeat (first | apply Kd.R_alloc | apply Kd.R_drewN | apply Kd.R_drew)); exact HO_24.out⟩, ⟨by (with_reducible repeat (first | apply Kd.R_alloc | apply Kd.R_drewN | apply Kd.R_drew)); exact HO_212000.out⟩, ⟨by (with_reducible repeat (first | apply Kd.R_alloc | apply Kd.R_drewN | apply Kd.R_drew)); exact HO_212001.out⟩, ⟨by (with_reducible repeat (first | refine blk_drewN ?_ _ | refine blk_drew ?_ | refine blk_alloc ?_ _)); exact BK211.out⟩, ⟨by repeat (first | (with_reducible first | exact HB.out | apply below_alloc | apply pw_below_drewN | apply below_drew1 | refine below_set ?_ GE211.out) | exact HB.out)⟩⟩
                    · rw [if_neg c20] at H
                      have c20b0 : ((rd t207 x26_2) == 0) = false := beq_eq_false_iff_ne.mpr c20
                      have c20b1 : ((rd t207 x26_2) != 0) = true := bne_iff_ne.mpr c20
                      obtain rfl := Option.some.inj H
                      have p212 : 0 ≤ (x26_2 : Int) := of_decide_eq_true (by first | (with_reducible assumption) | assumption)
                      have q212 : x26_2 < (t207.length : Int) := of_decide_eq_true (by first | (with_reducible assumption) | assumption)
                      obtain ⟨ad212, e212, hx212_0⟩ := Kd.at_int (Kd.R_reads' HO_24.out).2.2 x26_2 p212 q212
                      cases e212
                      replace p212 := eq_true p212
                      replace q212 := eq_true q212
                      go_wp2
                      go_ret
                      exact ⟨by first | rfl | (simp [errW_none, errW_some] <;> rfl) | (simp [*, errW_none, errW_some] <;> rfl), by repeat (first | (with_reducible first | exact HB.out | apply below_alloc | apply pw_below_drewN | apply below_drew1 | refine below_set ?_ GE211.out) | exact HB.out)⟩
                  · rw [if_neg c19] at H
                    exact absurd H (by simp)
                · rw [if_neg c18] at H
                  exact absurd H (by simp)
              · rw [if_neg c17] at H
                have c17b0 : decide (x26_2 < (t207.length : Int)) = false := decide_eq_false c17
                clear c17
                by_cases c21 : (t204.length : Int) = (wrap64 (Int.tmod a1 6000))
                · rw [if_pos c21] at H
                  have c21b0 : ((t204.length : Int) == (wrap64 (Int.tmod a1 6000))) = true := beq_iff_eq.mpr c21
                  have c21b1 : ((t204.length : Int) != (wrap64 (Int.tmod a1 6000))) = false := bne_eq_false_iff_eq.mpr c21
                  clear c21
                  obtain rfl := Option.some.inj H
                  have hcz22_0 : wr.cell? ⟨gb211, 0, none⟩ = some (.slice Ao14 t204.length co14) := (blk_cell BK211.out 0).trans rfl
                  have hcz22_1 : wr.cell? ⟨gb211, 1, none⟩ = some (.slice Ao16 t207.length co16) := (blk_cell BK211.out 1).trans rfl
                  have hcz22_2 : wr.cell? ⟨gb211, 2, none⟩ = some (.int .i64 t210) := (blk_cell BK211.out 2).trans rfl
                  have hfz22_0 := blk_frozen BK211.out 0
                  have hfz22_1 := blk_frozen BK211.out 1
                  have hfz22_2 := blk_frozen BK211.out 2
                  go_wp2
                  go_ret
                  exact ⟨by first | rfl | (simp [errW_none, errW_some] <;> rfl) | (simp [*, errW_none, errW_some] <;> rfl), by repeat (first | (with_reducible first | exact HB.out | apply below_alloc | apply pw_below_drewN | apply below_drew1 | refine below_set ?_ GE211.out) | exact HB.out)⟩
                · rw [if_neg c21] at H
                  have c21b0 : ((t204.length : Int) == (wrap64 (Int.tmod a1 6000))) = false := beq_eq_false_iff_ne.mpr c21
                  have c21b1 : ((t204.length : Int) != (wrap64 (Int.tmod a1 6000))) = true := bne_iff_ne.mpr c21
                  obtain rfl := Option.some.inj H
                  have hcz23_0 : wr.cell? ⟨gb211, 0, none⟩ = some (.slice Ao14 t204.length co14) := (blk_cell BK211.out 0).trans rfl
                  have hcz23_1 : wr.cell? ⟨gb211, 1, none⟩ = some (.slice Ao16 t207.length co16) := (blk_cell BK211.out 1).trans rfl
                  have hcz23_2 : wr.cell? ⟨gb211, 2, none⟩ = some (.int .i64 t210) := (blk_cell BK211.out 2).trans rfl
                  have hfz23_0 := blk_frozen BK211.out 0
                  have hfz23_1 := blk_frozen BK211.out 1
                  have hfz23_2 := blk_frozen BK211.out 2
                  go_wp2
                  go_ret
                  exact ⟨by first | rfl | (simp [errW_none, errW_some] <;> rfl) | (simp [*, errW_none, errW_some] <;> rfl), by repeat (first | (with_reducible first | exact HB.out | apply below_alloc | apply pw_below_drewN | apply below_drew1 | refine below_set ?_ GE211.out) | exact HB.out)⟩
  · replace c4 := Bool.eq_false_iff.mpr c4
    subst c4
    have H1 : (some false) = some r := by rw [if_neg (show ¬ (false = true) by decide)] at H; exact H
    clear H
    have H := H1
    clear H1
    obtain rfl := Option.some.inj H
    go_enter Try.func5, Try.ntmps5
    go_wp2_with (first | ((with_reducible refine gate_callee (f := 6) rfl ?_); refine goesL_ (some 8) rfl rfl Try.func6 (by kernel_rfl) rfl #[] rfl (by (try simp only [List.map_toArray, List.map_cons, List.map_nil]); first | done | rfl | (simp only [List.length_drop, List.length_take]; rfl)) ?_; (with_reducible refine (fuseelaw34_fixed.calls  false _ A3.out).mono ?_); rintro e w24 ⟨rfl, hb⟩; refine ⟨_, rfl, ?_⟩; have n0_ := Aside0.mk (below_step (by repeat (first | (with_reducible first | exact HB.out | apply below_alloc | apply pw_below_drewN | apply below_drew1) | exact HB.out)) hb); clear HB; have HB := n0_; clear n0_; (try clear hb); (try clear hb2); (try clear hk); (try clear hi)))
    go_ret
    exact ⟨by first | rfl | (simp [errW_none, errW_some] <;> rfl) | (simp [*, errW_none, errW_some] <;> rfl), by repeat (first | (with_reducible first | exact HB.out | apply below_alloc | apply pw_below_drewN | apply below_drew1) | exact HB.out)⟩

end Go.Proofs.Ytcndjkjlgdidoaa.PDl
