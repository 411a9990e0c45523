import Derived.Test.YtcndjkjlgdidoaaDc
namespace Go.Proofs.Ytcndjkjlgdidoaa.Da
open Go.RowKit Go.Proofs.YtcndjkjlgdidoaaW.PrintWords Go.Proofs.YtcndjkjlgdidoaaW.PrintLast Go.Proofs.YtcndjkjlgdidoaaW.PrintMore
open PDl
attribute [local go_sem] max2_int min2_int max_two min_two max_three min_three max_four min_four
set_option linter.unusedVariables false
set_option linter.unusedSimpArgs false

def okB (t : S35) : Bool := decide (1 ≤ t.f0 ∧ t.f0 ≤ 1000 ∧ 1 ≤ t.f1 ∧ t.f1 ≤ t.f0 ∧ 0 ≤ t.f2 ∧ t.f2 ≤ 1000)
def rightB (l : List S35) : Bool := l.all okB && decide (1 ≤ l.length ∧ l.length ≤ 16)

def st0 : St := { L := fun _ => 0, D := fun _ => 0, M := fun _ => 0, did := [], idle := 0 }
def run (l : List S35) : Nat → St
  | 0 => st0
  | n + 1 => tickSt l n (run l n)
/-- how many ticks are done -/
def ticksOf (a : Int) : Nat := (mn (mx a 0) 20000).toNat
def playF (l : List S35) (a : Int) : List Int × List Int × Int :=
  if rightB l = true then ((run l (ticksOf a)).did, (List.range l.length).map (run l (ticksOf a)).M, (run l (ticksOf a)).idle) else ([], [], 0)

theorem right_loop (l : List S35) (hl : l.length ≤ 9223372036854775807) : ∀ (n i k : Nat), i + n = l.length → n < k → deadline_Right.l0 k l l (l.length : Int) (i : Int) = some ((l.drop i).all okB && decide (1 ≤ l.length ∧ l.length ≤ 16)) := by
  intro n
  induction n with
  | zero =>
    intro i k hi hk
    obtain ⟨k, rfl⟩ : ∃ m, k = m + 1 := ⟨k - 1, by omega⟩
    rw [deadline_Right.l0, if_neg (by omega), List.drop_of_length_le (by omega)]
    by_cases h1 : (l.length : Int) ≥ 1
    · rw [if_pos h1]; have : 1 ≤ l.length := by omega
      simp [this]; omega
    · rw [if_neg h1]; simp; intro; omega
  | succ n ih =>
    intro i k hi hk
    obtain ⟨k, rfl⟩ : ∃ m, k = m + 1 := ⟨k - 1, by omega⟩
    have hlt : i < l.length := by omega
    have e1 : wrap64 ((i : Int) + 1) = ((i + 1 : Nat) : Int) := by unfold wrap64; omega
    have ed : l.drop i = l[i] :: l.drop (i + 1) := (List.drop_eq_getElem_cons hlt)
    have er : rd_T35 l (i : Int) = l[i] := by unfold rd_T35; simp [hlt]
    rw [deadline_Right.l0, if_pos (by omega), if_pos (by omega), if_pos (by omega), er, e1, ih (i + 1) k (by omega) (by omega), ed, List.all_cons]
    generalize l[i] = t
    unfold okB
    by_cases h1 : t.f0 < 1
    · rw [if_pos h1]; have : ¬ 1 ≤ t.f0 := by omega
      simp [this]
    · rw [if_neg h1]
      by_cases h2 : t.f0 > 1000
      · rw [if_pos h2]; have : ¬ t.f0 ≤ 1000 := by omega
        simp [this]
      · rw [if_neg h2]
        by_cases h3 : t.f1 < 1
        · rw [if_pos h3]; have : ¬ 1 ≤ t.f1 := by omega
          simp [this]
        · rw [if_neg h3]
          by_cases h4 : t.f1 > t.f0
          · rw [if_pos h4]; have : ¬ t.f1 ≤ t.f0 := by omega
            simp [this]
          · rw [if_neg h4]
            by_cases h5 : t.f2 < 0
            · rw [if_pos h5]; have : ¬ 0 ≤ t.f2 := by omega
              simp [this]
            · rw [if_neg h5]
              by_cases h6 : t.f2 > 1000
              · rw [if_pos h6]; have : ¬ t.f2 ≤ 1000 := by omega
                simp [this]
              · rw [if_neg h6]
                have : decide (1 ≤ t.f0 ∧ t.f0 ≤ 1000 ∧ 1 ≤ t.f1 ∧ t.f1 ≤ t.f0 ∧ 0 ≤ t.f2 ∧ t.f2 ≤ 1000) = true := by simp; omega
                rw [this, Bool.true_and]
theorem right_eq (l : List S35) (hl : l.length ≤ 9223372036854775807) (k : Nat) (hk : l.length < k) : deadline_Right.f k l = some (rightB l) := by
  unfold deadline_Right.f
  exact right_loop l hl l.length 0 k (by omega) hk

theorem made_row (n : Nat) : madeCells (Value.int .i64 0).cells n = row n (fun _ => 0) := by
  apply Array.ext
  · simp [madeCells, row]
  · intro i h1 h2
    simp [madeCells, row, Value.cells, Nat.mod_one]
theorem make_run (n : Nat) (hn : n ≤ 16) (w : World) : (Instr.makeSlice 24 (.int .i64 (n : Int)) (.int .i64 (n : Int))).run Try.prog w = .ok (.slice (some ⟨w.heap.size, 0, none⟩) n n) (w.alloc (.cells (row n (fun _ => 0)) 3)) := by
  obtain ⟨i0, hi, hz0, hz1, hz2⟩ := info_parts Try.info3
  have := run_makeSlice (P := Try.prog) (w := w) 24 3 i0 (.int .i64 0) Try.underlying24 hi hz0 .i64 .i64 (n : Int) (n : Int) (by omega) (by omega) (by rw [hz1]; omega) (by rw [hz2]; omega) (by omega)
  rw [hz1, Int.toNat_natCast, Nat.mul_one, made_row] at this
  exact this
theorem best_pos (L D : Nat → Int) : ∀ k : Nat, 0 ≤ best L D k → 0 < L (best L D k).toNat
  | 0 => by intro h; simp [best] at h
  | k + 1 => by
    unfold best
    split
    · rename_i h; intro _; simpa using h.1
    · exact best_pos L D k
theorem okB_ok {t : S35} (h : okB t = true) : okTask t := by unfold okB at h; unfold okTask; exact of_decide_eq_true h
theorem right_tasks {l : List S35} (h : rightB l = true) : ∀ t ∈ l, okTask t := by
  unfold rightB at h
  simp only [Bool.and_eq_true, List.all_eq_true] at h
  exact fun t ht => okB_ok (h.1 t ht)
theorem stL_bd {l : List S35} {t : Int} {L : Nat → Int} (hr : ∀ t ∈ l, okTask t) (h : ∀ i, 0 ≤ L i ∧ L i ≤ 1000) (k : Nat) (hk : k ≤ l.length) : ∀ i, 0 ≤ stL l t L k i ∧ stL l t L k i ≤ 1000 := by
  intro i
  unfold stL
  split
  · rename_i hh
    have := hr _ (rd35_mem (xs := l) (i := i) (by omega)); unfold okTask at this; omega
  · exact h i
theorem bounds_step {l : List S35} {t : Int} {s : St} (hr : ∀ t ∈ l, okTask t) (h : Bounds l t s) : Bounds l (t + 1) (tickSt l t s) := by
  have hL := stL_bd (t := t) hr h.L l.length (Nat.le_refl _)
  have hp := best_pos (stL l t s.L l.length) (stD l t s.D l.length) l.length
  refine ⟨fun i => ?_, ?_, ?_, fun i => ?_⟩
  · have := h.M i
    simp only [tickSt]; unfold stM; split <;> omega
  · have := h.I
    simp only [tickSt]; split <;> omega
  · have := h.d
    simp [tickSt]; omega
  · simp only [tickSt]
    have := hL i
    split
    · rename_i hh
      have := hp hh.1
      rw [← hh.2] at this; omega
    · exact this
theorem run_bounds {l : List S35} (hr : ∀ t ∈ l, okTask t) : ∀ n : Nat, Bounds l n (run l n)
  | 0 => ⟨fun i => by simp [run, st0], by simp [run, st0], by simp [run, st0], fun i => by simp [run, st0]⟩
  | n + 1 => by have := bounds_step hr (run_bounds hr n); simpa [run] using this

theorem rv (w : World) (b : Nat) : World.ownsRow w b 3 1 (.slice none 0 0) 0 [] := World.ownsRow_nil w b 3 1
theorem pl_start {w1 : World} {n c0 : Nat} {A0 : Option Addr} {gl gd gm : Nat} {W : World} (hG : W.heap[w1.heap.size + 3]? = some (.cells #[.slice A0 n c0, .slice (some ⟨gl, 0, none⟩) n n, .slice (some ⟨gd, 0, none⟩) n n, .slice none 0 0, .slice (some ⟨gm, 0, none⟩) n n, .int .i64 0] 43 (0, 0)))
    (h1 : W.heap[gl]? = some (.cells (row n fun _ => 0) 3 (0, 0))) (h2 : W.heap[gd]? = some (.cells (row n fun _ => 0) 3 (0, 0))) (h3 : W.heap[gm]? = some (.cells (row n fun _ => 0) 3 (0, 0)))
    (ne : w1.heap.size + 3 ≠ gl ∧ w1.heap.size + 3 ≠ gd ∧ w1.heap.size + 3 ≠ gm ∧ gl ≠ gd ∧ gl ≠ gm ∧ gd ≠ gm) : Pl W (w1.heap.size + 3) gl gd gm n A0 c0 st0.L st0.D st0.M (.slice none 0 0) st0.idle := ⟨hG, h1, h2, h3, ne⟩

-- PLAY
theorem own_lower {w : World} {b b' : Nat} {e : TypeId} {size n : Nat} {v : Value} {xs : List Value} (h : w.ownsRow b e size v n xs) (hb : b' ≤ b) : w.ownsRow b' e size v n xs := by
  obtain ⟨h1, h2⟩ := h
  refine ⟨h1, ?_⟩
  rcases h2 with h2 | ⟨g, cap, cur, rfl, hg, r⟩
  · exact Or.inl h2
  · exact Or.inr ⟨g, cap, cur, rfl, by omega, r⟩
theorem own_row {w : World} {b g n : Nat} {f : Nat → Int} (h : Rw w g n f) (hb : b ≤ g) (hn : n ≤ 16) : w.ownsRow b 3 1 (.slice (some ⟨g, 0, none⟩) n n) n (((List.range n).map f).map (Value.int .i64)) := by
  refine ⟨by simp, Or.inr ⟨g, n, row n f, rfl, hb, h, Nat.le_refl _, by unfold maxLen; omega, by simp [row_size], ?_⟩⟩
  rw [List.take_of_length_le (by simp [row_size])]
  apply List.ext_getElem?
  intro j
  by_cases hj : j < n
  · rw [← Array.getElem?_toList.symm, row_get f hj]; simp [hj]
  · simp [row, hj]
theorem heap_at (W : World) (o : Obj) {n : Nat} (h : W.heap.size = n) : (W.alloc o).heap[n]? = some o := by subst h; exact heap_alloc_new W o

theorem drewH (w : World) : w.drew.heap = w.heap := rfl
set_option maxHeartbeats 4000000 in
set_option maxRecDepth 100000 in
theorem play_up (A0 : Option Addr) (c0 : Nat) (l : List S35) (N : Nat) (hN : N ≤ 20000) (w : World) (hr : Kd.C k35 w A0 l.length l) (hc : l.length ≤ c0) (hR : rightB l = true) :
    Calls Try.prog 7 #[.slice A0 l.length c0, .int .i64 (N : Int)] w fun e w' => ∃ v0_ v1_ : Value, e = .returned (.agg #[v0_, v1_, .int .i64 (run l N).idle]) ∧ Kd.R (Kd.int .i64) 3 w' w.heap.size (fun k_ => some k_ ≠ (v1_ : Value).ownBlock) v0_ (run l N).did ∧ Kd.R (Kd.int .i64) 3 w' w.heap.size (fun k_ => some k_ ≠ (v0_ : Value).ownBlock) v1_ ((List.range l.length).map (run l N).M) ∧ Below w.heap.size w w' := by
  have hn : 1 ≤ l.length ∧ l.length ≤ 16 := by unfold rightB at hR; simp at hR; omega
  have HR0 := Aside0.mk hr
  have HRB := Aside0.mk hR
  have HQ := Aside0.mk (right_eq l (by omega) 100 (by omega))
  clear hr
  go_enter Try.func7, Try.ntmps7
  go_wp2_with fail
  refine (deadline_Right.calls 100 A0 c0 l true _ (Kd.C_below HR0.out (below_alloc (Below.refl _ _) _)) hc (by rw [HQ.out, HRB.out])).mono ?_
  rintro e w1 ⟨rfl, hb1⟩
  have HB1 : Aside0 (Below w.heap.size w w1) := ⟨(below_alloc (Below.refl w.heap.size w) (.cells #[.slice none 0 0, .slice none 0 0, .int .i64 0] 26)).trans (hb1.mono (by simp))⟩
  have HRC : Aside0 (w1.heap[w.heap.size]? = some (.cells #[.slice none 0 0, .slice none 0 0, .int .i64 0] 26 (0, 0))) := ⟨(hb1.block w.heap.size (by simp)).trans (heap_alloc_new w _)⟩
  have hwlt := lt_of_block HRC.out
  clear hb1
  go_wp2_with fail
  have hmk := fun w => make_run l.length hn.2 w
  go_region
  all_goals
    clear hmk
    go_wp2_with fail
    go_loopw [27] (fun v wr => ∃ (gl gd gm k : Nat), k ≤ N ∧ v = .int .i64 k ∧ Aside0 (PlS w wr (w1.heap.size + 4) (w1.heap.size + 3) gl gd gm A0 c0 l (run l k)) ∧ Aside0 (w.heap.size < gl ∧ w.heap.size < gd ∧ w.heap.size < gm ∧ gl < w1.heap.size + 4 ∧ gd < w1.heap.size + 4 ∧ gm < w1.heap.size + 4 ∧ w1.heap.size + 4 ≤ wr.heap.size) ∧ Aside0 (wr.heap[w.heap.size]? = some (.cells #[.slice none 0 0, .slice none 0 0, .int .i64 0] 26 (0, 0)))) (fun v _ => N - (intOf v).toNat)
    case atStart =>
      have hsz : w.heap.size ≤ w1.heap.size := HB1.out.size
      have a0 := heap_alloc_new w1 (.cells (row l.length fun _ => 0) 3)
      have a1 := heap_alloc_new (w1.alloc (.cells (row l.length fun _ => 0) 3)) (.cells (row l.length fun _ => 0) 3)
      have a2 := heap_alloc_new ((w1.alloc (.cells (row l.length fun _ => 0) 3)).alloc (.cells (row l.length fun _ => 0) 3)) (.cells (row l.length fun _ => 0) 3)
      have hBel := HB1.out
      have hRc := HRC.out
      first
      | exact ⟨w1.heap.size, w1.heap.size + 1, w1.heap.size + 1 + 1, 0, Nat.zero_le _, rfl, ⟨_, pl_start (heap_at _ _ (by simp)) (blk_alloc (blk_alloc (blk_alloc a0))) (blk_alloc (blk_alloc (by simpa using a1))) (blk_alloc (by simpa using a2)) (by omega), rv _ _, (((((hBel.alloc (by omega) _).alloc (by simp; omega) _).alloc (by simp; omega) _).alloc (by simp; omega) _).drew)⟩, ⟨by simp; omega⟩, ⟨blk_alloc (blk_alloc (blk_alloc (blk_alloc hRc)))⟩⟩
      | exact ⟨w1.heap.size, w1.heap.size + 1 + 1, w1.heap.size + 1, 0, Nat.zero_le _, rfl, ⟨_, pl_start (heap_at _ _ (by simp)) (blk_alloc (blk_alloc (blk_alloc a0))) (blk_alloc (by simpa using a2)) (blk_alloc (blk_alloc (by simpa using a1))) (by omega), rv _ _, (((((hBel.alloc (by omega) _).alloc (by simp; omega) _).alloc (by simp; omega) _).alloc (by simp; omega) _).drew)⟩, ⟨by simp; omega⟩, ⟨blk_alloc (blk_alloc (blk_alloc (blk_alloc hRc)))⟩⟩
      | exact ⟨w1.heap.size + 1, w1.heap.size, w1.heap.size + 1 + 1, 0, Nat.zero_le _, rfl, ⟨_, pl_start (heap_at _ _ (by simp)) (blk_alloc (blk_alloc (by simpa using a1))) (blk_alloc (blk_alloc (blk_alloc a0))) (blk_alloc (by simpa using a2)) (by omega), rv _ _, (((((hBel.alloc (by omega) _).alloc (by simp; omega) _).alloc (by simp; omega) _).alloc (by simp; omega) _).drew)⟩, ⟨by simp; omega⟩, ⟨blk_alloc (blk_alloc (blk_alloc (blk_alloc hRc)))⟩⟩
      | exact ⟨w1.heap.size + 1, w1.heap.size + 1 + 1, w1.heap.size, 0, Nat.zero_le _, rfl, ⟨_, pl_start (heap_at _ _ (by simp)) (blk_alloc (blk_alloc (by simpa using a1))) (blk_alloc (by simpa using a2)) (blk_alloc (blk_alloc (blk_alloc a0))) (by omega), rv _ _, (((((hBel.alloc (by omega) _).alloc (by simp; omega) _).alloc (by simp; omega) _).alloc (by simp; omega) _).drew)⟩, ⟨by simp; omega⟩, ⟨blk_alloc (blk_alloc (blk_alloc (blk_alloc hRc)))⟩⟩
      | exact ⟨w1.heap.size + 1 + 1, w1.heap.size, w1.heap.size + 1, 0, Nat.zero_le _, rfl, ⟨_, pl_start (heap_at _ _ (by simp)) (blk_alloc (by simpa using a2)) (blk_alloc (blk_alloc (blk_alloc a0))) (blk_alloc (blk_alloc (by simpa using a1))) (by omega), rv _ _, (((((hBel.alloc (by omega) _).alloc (by simp; omega) _).alloc (by simp; omega) _).alloc (by simp; omega) _).drew)⟩, ⟨by simp; omega⟩, ⟨blk_alloc (blk_alloc (blk_alloc (blk_alloc hRc)))⟩⟩
      | exact ⟨w1.heap.size + 1 + 1, w1.heap.size + 1, w1.heap.size, 0, Nat.zero_le _, rfl, ⟨_, pl_start (heap_at _ _ (by simp)) (blk_alloc (by simpa using a2)) (blk_alloc (blk_alloc (by simpa using a1))) (blk_alloc (blk_alloc (blk_alloc a0))) (by omega), rv _ _, (((((hBel.alloc (by omega) _).alloc (by simp; omega) _).alloc (by simp; omega) _).alloc (by simp; omega) _).drew)⟩, ⟨by simp; omega⟩, ⟨blk_alloc (blk_alloc (blk_alloc (blk_alloc hRc)))⟩⟩
    case round =>
      obtain ⟨gl, gd, gm, k, hk, rfl, HP, HG, HC⟩ := hrel
      by_cases hlt : k < N
      · have HBd := Aside0.mk (run_bounds (right_tasks HRB.out) k)
        go_wp2_with fail
        refine (tick_any (w1.heap.size + 4) (w1.heap.size + 3) gl gd gm A0 c0 l (run l k) k w wr HR0.out hn.2 HP.out ⟨by omega, by have := HG.out; omega, by have := HG.out; omega, by have := HG.out; omega⟩ ⟨by omega, by have := HG.out; omega, by have := HG.out; omega, by have := HG.out; omega, by have := HG.out; omega⟩ ⟨by omega, by omega⟩ (right_tasks HRB.out) HBd.out).mono ?_
        rintro e w2 ⟨rfl, hP2, hF2, hS2⟩
        have HP2 := Aside0.mk hP2
        have HF2 := Aside0.mk hF2
        have HS2 := Aside0.mk hS2
        clear hP2 hF2 hS2
        go_wp2_with fail
        go_roundw
        case rel =>
          refine ⟨gl, gd, gm, k + 1, by omega, by go_num, HP2, ⟨by have := HG.out; have := HS2.out; omega⟩, ⟨?_⟩⟩
          rw [HF2.out w.heap.size (by omega) (by omega) (by have := HG.out; omega) (by have := HG.out; omega) (by have := HG.out; omega)]
          exact HC.out
        case measure => first | (simp [intOf]; omega) | simp [intOf]
      · have hkN : N = k := by omega
        subst hkN
        obtain ⟨did, hP, ho, hB⟩ := HP.out
        have HP' := Aside0.mk hP
        have HO' := Aside0.mk ho
        have HB' := Aside0.mk hB
        clear hP ho hB
        have hcz3 := HP'.out.G3
        have hcz4 := HP'.out.G4
        have hcz5 := HP'.out.G5
        have hrl := lt_of_block HC.out
        have hrc0 : wr.cell? ⟨w.heap.size, 0, none⟩ = some (.slice none 0 0) := (blk_cell HC.out 0).trans rfl
        have hrc1 : wr.cell? ⟨w.heap.size, 1, none⟩ = some (.slice none 0 0) := (blk_cell HC.out 1).trans rfl
        have hrc2 : wr.cell? ⟨w.heap.size, 2, none⟩ = some (.int .i64 0) := (blk_cell HC.out 2).trans rfl
        have hrf0 := blk_frozen HC.out 0
        have hrf1 := blk_frozen HC.out 1
        have hrf2 := blk_frozen HC.out 2
        have hne : w1.heap.size + 3 ≠ w.heap.size := by omega
        obtain ⟨Ad, cd, hdid⟩ : ∃ Ad cd, did = .slice Ad (run l N).did.length cd := by
          rcases HO'.out.2 with ⟨h, h0⟩ | ⟨gq, cap, _, h, _⟩
          · exact ⟨none, 0, by rw [h, h0]⟩
          · exact ⟨_, cap, h⟩
        subst hdid
        go_wp2_with fail
        refine bodyPost_ret (v := .agg #[.slice Ad (run l N).did.length cd, .slice (some ⟨gm, 0, none⟩) l.length l.length, .int .i64 (run l N).idle]) (by simp [results, Try.results7, go_sem, hrl, hrc0, hrc1, hrc2]) rfl ⟨_, _, rfl, ?_, ?_, ?_⟩
        · refine Kd.R_of_own (own_lower (own_set (own_set (own_set HO'.out (p := ⟨w.heap.size, 0, none⟩) (by show w.heap.size < _; omega)) (p := ⟨w.heap.size, 1, none⟩) (by show w.heap.size < _; omega)) (p := ⟨w.heap.size, 2, none⟩) (by show w.heap.size < _; omega)) (by omega)) ?_
          intro k hk
          have := (HO'.out.lt k hk).1
          have := HG.out
          simp [Value.ownBlock]; omega
        · have hM := ((HP'.out.M.other (p := ⟨w.heap.size, 0, none⟩) (v := .slice Ad (run l N).did.length cd) (by have := HG.out; show gm ≠ w.heap.size; omega)).other (p := ⟨w.heap.size, 1, none⟩) (v := .slice (some ⟨gm, 0, none⟩) l.length l.length) (by have := HG.out; show gm ≠ w.heap.size; omega)).other (p := ⟨w.heap.size, 2, none⟩) (v := .int .i64 (run l N).idle) (by have := HG.out; show gm ≠ w.heap.size; omega)
          have h9 := own_row hM (b := w.heap.size) (by have := HG.out; omega) hn.2
          have e9 : ((List.range l.length).map (run l N).M).length = l.length := by simp
          refine Kd.R_of_own (xs := (List.range l.length).map (run l N).M) (by rw [e9]; exact h9) ?_
          intro k hk hk2
          have := (HO'.out.lt k hk2.symm).1
          have := HG.out
          simp [Value.ownBlock] at hk; omega
        · exact ((HB'.out.setCell (p := ⟨w.heap.size, 0, none⟩) (Nat.le_refl _) _).setCell (p := ⟨w.heap.size, 1, none⟩) (Nat.le_refl _) _).setCell (p := ⟨w.heap.size, 2, none⟩) (Nat.le_refl _) _

set_option maxHeartbeats 4000000 in
set_option maxRecDepth 100000 in
theorem play_down (A0 : Option Addr) (c0 : Nat) (l : List S35) (a : Int) (ha : a < 0) (w : World) (hr : Kd.C k35 w A0 l.length l) (hc : l.length ≤ c0) (hR : rightB l = true) :
    Calls Try.prog 7 #[.slice A0 l.length c0, .int .i64 a] w fun e w' => ∃ v0_ v1_ : Value, e = .returned (.agg #[v0_, v1_, .int .i64 (run l 0).idle]) ∧ Kd.R (Kd.int .i64) 3 w' w.heap.size (fun k_ => some k_ ≠ (v1_ : Value).ownBlock) v0_ (run l 0).did ∧ Kd.R (Kd.int .i64) 3 w' w.heap.size (fun k_ => some k_ ≠ (v0_ : Value).ownBlock) v1_ ((List.range l.length).map (run l 0).M) ∧ Below w.heap.size w w' := by
  have hn : 1 ≤ l.length ∧ l.length ≤ 16 := by unfold rightB at hR; simp at hR; omega
  have HR0 := Aside0.mk hr
  have HRB := Aside0.mk hR
  have HQ := Aside0.mk (right_eq l (by omega) 100 (by omega))
  clear hr
  go_enter Try.func7, Try.ntmps7
  go_wp2_with fail
  refine (deadline_Right.calls 100 A0 c0 l true _ (Kd.C_below HR0.out (below_alloc (Below.refl _ _) _)) hc (by rw [HQ.out, HRB.out])).mono ?_
  rintro e w1 ⟨rfl, hb1⟩
  have HB1 : Aside0 (Below w.heap.size w w1) := ⟨(below_alloc (Below.refl w.heap.size w) (.cells #[.slice none 0 0, .slice none 0 0, .int .i64 0] 26)).trans (hb1.mono (by simp))⟩
  have HRC : Aside0 (w1.heap[w.heap.size]? = some (.cells #[.slice none 0 0, .slice none 0 0, .int .i64 0] 26 (0, 0))) := ⟨(hb1.block w.heap.size (by simp)).trans (heap_alloc_new w _)⟩
  have hwlt := lt_of_block HRC.out
  clear hb1
  go_wp2_with fail
  have hmk := fun w => make_run l.length hn.2 w
  go_region
  all_goals
    clear hmk
    go_wp2_with fail
    go_loopw [27] (fun v wr => ∃ (gl gd gm k : Nat), k ≤ 0 ∧ v = .int .i64 k ∧ Aside0 (PlS w wr (w1.heap.size + 4) (w1.heap.size + 3) gl gd gm A0 c0 l (run l k)) ∧ Aside0 (w.heap.size < gl ∧ w.heap.size < gd ∧ w.heap.size < gm ∧ gl < w1.heap.size + 4 ∧ gd < w1.heap.size + 4 ∧ gm < w1.heap.size + 4 ∧ w1.heap.size + 4 ≤ wr.heap.size) ∧ Aside0 (wr.heap[w.heap.size]? = some (.cells #[.slice none 0 0, .slice none 0 0, .int .i64 0] 26 (0, 0)))) (fun v _ => 0 - (intOf v).toNat)
    case atStart =>
      have hsz : w.heap.size ≤ w1.heap.size := HB1.out.size
      have a0 := heap_alloc_new w1 (.cells (row l.length fun _ => 0) 3)
      have a1 := heap_alloc_new (w1.alloc (.cells (row l.length fun _ => 0) 3)) (.cells (row l.length fun _ => 0) 3)
      have a2 := heap_alloc_new ((w1.alloc (.cells (row l.length fun _ => 0) 3)).alloc (.cells (row l.length fun _ => 0) 3)) (.cells (row l.length fun _ => 0) 3)
      have hBel := HB1.out
      have hRc := HRC.out
      first
      | exact ⟨w1.heap.size, w1.heap.size + 1, w1.heap.size + 1 + 1, 0, Nat.zero_le _, rfl, ⟨_, pl_start (heap_at _ _ (by simp)) (blk_alloc (blk_alloc (blk_alloc a0))) (blk_alloc (blk_alloc (by simpa using a1))) (blk_alloc (by simpa using a2)) (by omega), rv _ _, (((((hBel.alloc (by omega) _).alloc (by simp; omega) _).alloc (by simp; omega) _).alloc (by simp; omega) _).drew)⟩, ⟨by simp; omega⟩, ⟨blk_alloc (blk_alloc (blk_alloc (blk_alloc hRc)))⟩⟩
      | exact ⟨w1.heap.size, w1.heap.size + 1 + 1, w1.heap.size + 1, 0, Nat.zero_le _, rfl, ⟨_, pl_start (heap_at _ _ (by simp)) (blk_alloc (blk_alloc (blk_alloc a0))) (blk_alloc (by simpa using a2)) (blk_alloc (blk_alloc (by simpa using a1))) (by omega), rv _ _, (((((hBel.alloc (by omega) _).alloc (by simp; omega) _).alloc (by simp; omega) _).alloc (by simp; omega) _).drew)⟩, ⟨by simp; omega⟩, ⟨blk_alloc (blk_alloc (blk_alloc (blk_alloc hRc)))⟩⟩
      | exact ⟨w1.heap.size + 1, w1.heap.size, w1.heap.size + 1 + 1, 0, Nat.zero_le _, rfl, ⟨_, pl_start (heap_at _ _ (by simp)) (blk_alloc (blk_alloc (by simpa using a1))) (blk_alloc (blk_alloc (blk_alloc a0))) (blk_alloc (by simpa using a2)) (by omega), rv _ _, (((((hBel.alloc (by omega) _).alloc (by simp; omega) _).alloc (by simp; omega) _).alloc (by simp; omega) _).drew)⟩, ⟨by simp; omega⟩, ⟨blk_alloc (blk_alloc (blk_alloc (blk_alloc hRc)))⟩⟩
      | exact ⟨w1.heap.size + 1, w1.heap.size + 1 + 1, w1.heap.size, 0, Nat.zero_le _, rfl, ⟨_, pl_start (heap_at _ _ (by simp)) (blk_alloc (blk_alloc (by simpa using a1))) (blk_alloc (by simpa using a2)) (blk_alloc (blk_alloc (blk_alloc a0))) (by omega), rv _ _, (((((hBel.alloc (by omega) _).alloc (by simp; omega) _).alloc (by simp; omega) _).alloc (by simp; omega) _).drew)⟩, ⟨by simp; omega⟩, ⟨blk_alloc (blk_alloc (blk_alloc (blk_alloc hRc)))⟩⟩
      | exact ⟨w1.heap.size + 1 + 1, w1.heap.size, w1.heap.size + 1, 0, Nat.zero_le _, rfl, ⟨_, pl_start (heap_at _ _ (by simp)) (blk_alloc (by simpa using a2)) (blk_alloc (blk_alloc (blk_alloc a0))) (blk_alloc (blk_alloc (by simpa using a1))) (by omega), rv _ _, (((((hBel.alloc (by omega) _).alloc (by simp; omega) _).alloc (by simp; omega) _).alloc (by simp; omega) _).drew)⟩, ⟨by simp; omega⟩, ⟨blk_alloc (blk_alloc (blk_alloc (blk_alloc hRc)))⟩⟩
      | exact ⟨w1.heap.size + 1 + 1, w1.heap.size + 1, w1.heap.size, 0, Nat.zero_le _, rfl, ⟨_, pl_start (heap_at _ _ (by simp)) (blk_alloc (by simpa using a2)) (blk_alloc (blk_alloc (by simpa using a1))) (blk_alloc (blk_alloc (blk_alloc a0))) (by omega), rv _ _, (((((hBel.alloc (by omega) _).alloc (by simp; omega) _).alloc (by simp; omega) _).alloc (by simp; omega) _).drew)⟩, ⟨by simp; omega⟩, ⟨blk_alloc (blk_alloc (blk_alloc (blk_alloc hRc)))⟩⟩
    case round =>
      obtain ⟨gl, gd, gm, k, hk, rfl, HP, HG, HC⟩ := hrel
      by_cases hlt : k < 0
      · exact absurd hlt (by omega)
      · have hkN : 0 = k := by omega
        subst hkN
        obtain ⟨did, hP, ho, hB⟩ := HP.out
        have HP' := Aside0.mk hP
        have HO' := Aside0.mk ho
        have HB' := Aside0.mk hB
        clear hP ho hB
        have hcz3 := HP'.out.G3
        have hcz4 := HP'.out.G4
        have hcz5 := HP'.out.G5
        have hrl := lt_of_block HC.out
        have hrc0 : wr.cell? ⟨w.heap.size, 0, none⟩ = some (.slice none 0 0) := (blk_cell HC.out 0).trans rfl
        have hrc1 : wr.cell? ⟨w.heap.size, 1, none⟩ = some (.slice none 0 0) := (blk_cell HC.out 1).trans rfl
        have hrc2 : wr.cell? ⟨w.heap.size, 2, none⟩ = some (.int .i64 0) := (blk_cell HC.out 2).trans rfl
        have hrf0 := blk_frozen HC.out 0
        have hrf1 := blk_frozen HC.out 1
        have hrf2 := blk_frozen HC.out 2
        have hne : w1.heap.size + 3 ≠ w.heap.size := by omega
        obtain ⟨Ad, cd, hdid⟩ : ∃ Ad cd, did = .slice Ad (run l 0).did.length cd := by
          rcases HO'.out.2 with ⟨h, h0⟩ | ⟨gq, cap, _, h, _⟩
          · exact ⟨none, 0, by rw [h, h0]⟩
          · exact ⟨_, cap, h⟩
        subst hdid
        go_wp2_with fail
        refine bodyPost_ret (v := .agg #[.slice Ad (run l 0).did.length cd, .slice (some ⟨gm, 0, none⟩) l.length l.length, .int .i64 (run l 0).idle]) (by simp [results, Try.results7, go_sem, hrl, hrc0, hrc1, hrc2]) rfl ⟨_, _, rfl, ?_, ?_, ?_⟩
        · refine Kd.R_of_own (own_lower (own_set (own_set (own_set HO'.out (p := ⟨w.heap.size, 0, none⟩) (by show w.heap.size < _; omega)) (p := ⟨w.heap.size, 1, none⟩) (by show w.heap.size < _; omega)) (p := ⟨w.heap.size, 2, none⟩) (by show w.heap.size < _; omega)) (by omega)) ?_
          intro k hk
          have := (HO'.out.lt k hk).1
          have := HG.out
          simp [Value.ownBlock]; omega
        · have hM := ((HP'.out.M.other (p := ⟨w.heap.size, 0, none⟩) (v := .slice Ad (run l 0).did.length cd) (by have := HG.out; show gm ≠ w.heap.size; omega)).other (p := ⟨w.heap.size, 1, none⟩) (v := .slice (some ⟨gm, 0, none⟩) l.length l.length) (by have := HG.out; show gm ≠ w.heap.size; omega)).other (p := ⟨w.heap.size, 2, none⟩) (v := .int .i64 (run l 0).idle) (by have := HG.out; show gm ≠ w.heap.size; omega)
          have h9 := own_row hM (b := w.heap.size) (by have := HG.out; omega) hn.2
          have e9 : ((List.range l.length).map (run l 0).M).length = l.length := by simp
          refine Kd.R_of_own (xs := (List.range l.length).map (run l 0).M) (by rw [e9]; exact h9) ?_
          intro k hk hk2
          have := (HO'.out.lt k hk2.symm).1
          have := HG.out
          simp [Value.ownBlock] at hk; omega
        · exact ((HB'.out.setCell (p := ⟨w.heap.size, 0, none⟩) (Nat.le_refl _) _).setCell (p := ⟨w.heap.size, 1, none⟩) (Nat.le_refl _) _).setCell (p := ⟨w.heap.size, 2, none⟩) (Nat.le_refl _) _
end Go.Proofs.Ytcndjkjlgdidoaa.Da
