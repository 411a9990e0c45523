import Derived.Test.YtdibbcmfgdgdfaaLa
namespace Go.Proofs.Ytdibbcmfgdgdfaa.Le
open Go.RowKit Go.Proofs.YtdibbcmfgdgdfaaW.PrintWords Go.Proofs.YtdibbcmfgdgdfaaW.PrintLast Go.Proofs.YtdibbcmfgdgdfaaW.PrintMore
open PLe
attribute [local go_sem] max2_int min2_int max_two min_two max_three min_three max_four min_four
set_option linter.unusedVariables false
set_option linter.unusedSimpArgs false

section
variable {w : World} {g : Nat} {s : Dk}
def Dsk (w : World) (g : Nat) (s : Dk) : Prop := w.heap[g]? = some (.cells (arr s) 51 (0, 0))
theorem Dsk.cell (h : Dsk w g s) {o : Nat} (ho : o < 1026) : w.cell? ⟨g, o, none⟩ = some (cellOf s o) := by rw [blk_cell h]; exact arr_get s ho
theorem Dsk.grace (h : Dsk w g s) : w.cell? ⟨g, 0, none⟩ = some (.int .i64 s.grace) := h.cell (o := 0) (by decide)
theorem Dsk.now (h : Dsk w g s) : w.cell? ⟨g, 1, none⟩ = some (.int .i64 s.now) := h.cell (o := 1) (by decide)
theorem Dsk.who (h : Dsk w g s) {i : Nat} (hi : i < 256) : w.cell? ⟨g, 2 + i * 3, none⟩ = some (.int .i64 (s.who i)) := by
  rw [h.cell (by omega)]; unfold cellOf
  rw [if_neg (by omega), if_neg (by omega), if_pos (by omega), if_pos (by omega), show (2 + i * 3 - 2) / 3 = i by omega]
theorem Dsk.tok (h : Dsk w g s) {i : Nat} (hi : i < 256) : w.cell? ⟨g, 2 + i * 3 + 1, none⟩ = some (.int .i64 (s.tok i)) := by
  rw [h.cell (by omega)]; unfold cellOf
  rw [if_neg (by omega), if_neg (by omega), if_pos (by omega), if_neg (by omega), if_pos (by omega), show (2 + i * 3 + 1 - 2) / 3 = i by omega]
theorem Dsk.en (h : Dsk w g s) {i : Nat} (hi : i < 256) : w.cell? ⟨g, 2 + i * 3 + 2, none⟩ = some (.int .i64 (s.en i)) := by
  rw [h.cell (by omega)]; unfold cellOf
  rw [if_neg (by omega), if_neg (by omega), if_pos (by omega), if_neg (by omega), if_neg (by omega), show (2 + i * 3 + 2 - 2) / 3 = i by omega]
theorem Dsk.giv (h : Dsk w g s) {i : Nat} (hi : i < 256) : w.cell? ⟨g, 770 + i, none⟩ = some (.bool (s.giv i)) := by
  rw [h.cell (by omega)]; unfold cellOf
  rw [if_neg (by omega), if_neg (by omega), if_neg (by omega), show 770 + i - 770 = i by omega]
theorem Dsk.frozen (h : Dsk w g s) (o : Nat) : w.frozen? ⟨g, o, none⟩ = false := blk_frozen h o
theorem Dsk.lt (h : Dsk w g s) : g < w.heap.size := lt_of_block h
def up {α : Type} (f : Nat → α) (i : Nat) (x : α) : Nat → α := fun j => if j = i then x else f j
theorem arr_set (s s' : Dk) (o : Nat) (v : Value) (ho : o < 1026) (h1 : cellOf s' o = v) (h2 : ∀ j, j < 1026 → j ≠ o → cellOf s' j = cellOf s j) : (arr s).setIfInBounds o v = arr s' := by
  apply Array.ext_getElem?
  intro j
  rw [Array.getElem?_setIfInBounds]
  by_cases hj : j < 1026
  · by_cases e : o = j
    · subst e; rw [if_pos rfl, if_pos (by simp [arr]; omega), arr_get s' hj, h1]
    · rw [if_neg e, arr_get s hj, arr_get s' hj, h2 j hj (fun h => e h.symm)]
  · have e1 : (arr s)[j]? = none := by simp [arr]; omega
    have e2 : (arr s')[j]? = none := by simp [arr]; omega
    rw [if_neg (by omega), e1, e2]
theorem Dsk.set (h : Dsk w g s) (s' : Dk) (o : Nat) (v : Value) (ho : o < 1026) (h1 : cellOf s' o = v) (h2 : ∀ j, j < 1026 → j ≠ o → cellOf s' j = cellOf s j) : Dsk (w.setCell ⟨g, o, none⟩ v) g s' := by
  have := blk_set h o v
  rw [arr_set s s' o v ho h1 h2] at this
  exact this
theorem Dsk.setNow (h : Dsk w g s) (n : Int) : Dsk (w.setCell ⟨g, 1, none⟩ (.int .i64 n)) g { s with now := n } :=
  h.set _ 1 _ (by decide) rfl (fun j hj hne => by unfold cellOf; simp only [hne, if_false])
theorem Dsk.setWho (h : Dsk w g s) {i : Nat} (hi : i < 256) (n : Int) : Dsk (w.setCell ⟨g, 2 + i * 3, none⟩ (.int .i64 n)) g { s with who := up s.who i n } := by
  refine h.set _ _ _ (by omega) ?_ (fun j hj hne => ?_)
  · unfold cellOf
    rw [if_neg (by omega), if_neg (by omega), if_pos (by omega), if_pos (by omega), show (2 + i * 3 - 2) / 3 = i by omega]; simp [up]
  · unfold cellOf
    by_cases h0 : j = 0
    · rw [if_pos h0, if_pos h0]
    · by_cases h1 : j = 1
      · rw [if_neg h0, if_neg h0, if_pos h1, if_pos h1]
      · rw [if_neg h0, if_neg h0, if_neg h1, if_neg h1]
        by_cases h2 : j < 770
        · rw [if_pos h2, if_pos h2]
          by_cases h3 : (j - 2) % 3 = 0
          · rw [if_pos h3, if_pos h3]; simp only [up]; rw [if_neg (by omega)]
          · rw [if_neg h3, if_neg h3]
        · rw [if_neg h2, if_neg h2]
theorem Dsk.setTok (h : Dsk w g s) {i : Nat} (hi : i < 256) (n : Int) : Dsk (w.setCell ⟨g, 2 + i * 3 + 1, none⟩ (.int .i64 n)) g { s with tok := up s.tok i n } := by
  refine h.set _ _ _ (by omega) ?_ (fun j hj hne => ?_)
  · unfold cellOf
    rw [if_neg (by omega), if_neg (by omega), if_pos (by omega), if_neg (by omega), if_pos (by omega), show (2 + i * 3 + 1 - 2) / 3 = i by omega]; simp [up]
  · unfold cellOf
    by_cases h0 : j = 0
    · rw [if_pos h0, if_pos h0]
    · by_cases h1 : j = 1
      · rw [if_neg h0, if_neg h0, if_pos h1, if_pos h1]
      · rw [if_neg h0, if_neg h0, if_neg h1, if_neg h1]
        by_cases h2 : j < 770
        · rw [if_pos h2, if_pos h2]
          by_cases h3 : (j - 2) % 3 = 0
          · rw [if_pos h3, if_pos h3]
          · rw [if_neg h3, if_neg h3]
            by_cases h4 : (j - 2) % 3 = 1
            · rw [if_pos h4, if_pos h4]; simp only [up]; rw [if_neg (by omega)]
            · rw [if_neg h4, if_neg h4]
        · rw [if_neg h2, if_neg h2]
theorem Dsk.setEn (h : Dsk w g s) {i : Nat} (hi : i < 256) (n : Int) : Dsk (w.setCell ⟨g, 2 + i * 3 + 2, none⟩ (.int .i64 n)) g { s with en := up s.en i n } := by
  refine h.set _ _ _ (by omega) ?_ (fun j hj hne => ?_)
  · unfold cellOf
    rw [if_neg (by omega), if_neg (by omega), if_pos (by omega), if_neg (by omega), if_neg (by omega), show (2 + i * 3 + 2 - 2) / 3 = i by omega]; simp [up]
  · unfold cellOf
    by_cases h0 : j = 0
    · rw [if_pos h0, if_pos h0]
    · by_cases h1 : j = 1
      · rw [if_neg h0, if_neg h0, if_pos h1, if_pos h1]
      · rw [if_neg h0, if_neg h0, if_neg h1, if_neg h1]
        by_cases h2 : j < 770
        · rw [if_pos h2, if_pos h2]
          by_cases h3 : (j - 2) % 3 = 0
          · rw [if_pos h3, if_pos h3]
          · rw [if_neg h3, if_neg h3]
            by_cases h4 : (j - 2) % 3 = 1
            · rw [if_pos h4, if_pos h4]
            · rw [if_neg h4, if_neg h4]; simp only [up]; rw [if_neg (by omega)]
        · rw [if_neg h2, if_neg h2]
theorem Dsk.setGiv (h : Dsk w g s) {i : Nat} (hi : i < 256) (b : Bool) : Dsk (w.setCell ⟨g, 770 + i, none⟩ (.bool b)) g { s with giv := up s.giv i b } := by
  refine h.set _ _ _ (by omega) ?_ (fun j hj hne => ?_)
  · unfold cellOf
    rw [if_neg (by omega), if_neg (by omega), if_neg (by omega), show 770 + i - 770 = i by omega]; simp [up]
  · unfold cellOf
    by_cases h0 : j = 0
    · rw [if_pos h0, if_pos h0]
    · by_cases h1 : j = 1
      · rw [if_neg h0, if_neg h0, if_pos h1, if_pos h1]
      · rw [if_neg h0, if_neg h0, if_neg h1, if_neg h1]
        by_cases h2 : j < 770
        · rw [if_pos h2, if_pos h2]
        · rw [if_neg h2, if_neg h2]; simp only [up]; rw [if_neg (by omega)]
theorem Dsk.to (h : Dsk w g s) {s' : Dk} (e : s = s') : Dsk w g s' := by subst e; exact h
theorem Dsk.drewN (h : Dsk w g s) (n : Nat) : Dsk (w.drewN n) g s := h
theorem Dsk.drew (h : Dsk w g s) : Dsk w.drew g s := h
theorem blk_alloc {w : World} {b : Nat} {o o' : Obj} (h : w.heap[b]? = some o) : (w.alloc o').heap[b]? = some o := by
  rw [Below.heap_alloc _ _ _ (lt_of_block h)]; exact h
theorem Dsk.alloc (h : Dsk w g s) (o : Obj) : Dsk (w.alloc o) g s := blk_alloc h
end

def newD (gr : Int) (k : Nat) : Dk := ⟨gr, -4611686018427387903, fun _ => 0, fun _ => 0, fun _ => 0, fun i => decide (i < k)⟩

set_option maxHeartbeats 1000000 in
set_option maxRecDepth 100000 in
theorem new_any (gr : Int) (w : World) (h0 : 0 ≤ gr) (h1 : gr ≤ 1099511627776) :
    Calls Try.prog 6 #[.int .i64 gr] w fun e w' => ∃ g, e = .returned (.pointer (some ⟨g, 0, none⟩)) ∧ w.heap.size ≤ g ∧ Dsk w' g (newD gr 256) ∧ Below w.heap.size w w' := by
  go_enter Try.func6, Try.ntmps6
  go_wp2_with ((with_reducible refine gate_dst (N := 12) rfl ?_); refine wpList_built rfl 51 _ (arr (new0 gr)) rfl ?hc ?_)
  case hc => exact built51 gr
  have HD : Aside0 (Dsk (w.alloc (.cells (arr (new0 gr)) 51)) w.heap.size (newD gr 0)) := ⟨by
    have e : new0 gr = newD gr 0 := by unfold new0 newD; congr 1
    rw [← e]; exact heap_alloc_new w _⟩
  have HB : Aside0 (Below w.heap.size w (w.alloc (.cells (arr (new0 gr)) 51))) := ⟨below_alloc (Below.refl _ _) _⟩
  go_loopw [14] (fun v wr => ∃ k : Nat, k ≤ 256 ∧ v = .int .i64 k ∧ Aside0 (Dsk wr w.heap.size (newD gr k)) ∧ Aside0 (Below w.heap.size w wr)) (fun v _ => 256 - (intOf v).toNat)
  case atStart => exact ⟨0, by omega, rfl, HD, HB⟩
  case round =>
    clear HD HB
    obtain ⟨k, hk, rfl, HD, HB⟩ := hrel
    have hlt := HD.out.lt
    by_cases hk2 : k < 256
    · have hc := HD.out.giv hk2
      have hf := HD.out.frozen (770 + k)
      go_wp2_with fail
      go_roundw
      case rel =>
        refine ⟨k + 1, by omega, by go_num, ⟨(HD.out.setGiv hk2 true).to ?_⟩, ⟨HB.out.setCell (p := ⟨w.heap.size, 770 + k, none⟩) (Nat.le_refl _) _⟩⟩
        unfold newD up
        congr 1
        funext j
        by_cases e : j = k
        · subst e; simp
        · rw [if_neg e]
          have : j < k ↔ j < k + 1 := by omega
          simp only [this]
      case measure => simp [intOf]; omega
    · have : k = 256 := by omega
      subst this
      go_wp2_with fail
      go_ret
      exact ⟨_, rfl, Nat.le_refl _, HD.out, HB.out⟩
end Go.Proofs.Ytdibbcmfgdgdfaa.Le
