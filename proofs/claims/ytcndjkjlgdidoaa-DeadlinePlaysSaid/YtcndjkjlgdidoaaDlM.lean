/- Jobs by their deadlines, as plain lists of numbers. Conditions: none. -/
import Derived.Test.YtcndjkjlgdidoaaS7
set_option linter.unusedVariables false
set_option linter.unusedSimpArgs false
set_option linter.unnecessarySimpa false
namespace Go.Dl
open Go Go.Sp
structure Task where
  p : Int
  c : Int
  b : Int
def encT (t : Task) : List Value := [.int .i64 t.p, .int .i64 t.c, .int .i64 t.b]
def t0 : Task := ⟨0, 0, 0⟩
def tasks (l : List Task) : List Value := l.flatMap encT
def okB (t : Task) : Bool := decide (1 ≤ t.p ∧ t.p ≤ 1000 ∧ 1 ≤ t.c ∧ t.c ≤ t.p ∧ 0 ≤ t.b ∧ t.b ≤ 1000)
def rightB (l : List Task) : Bool := l.all okB && decide (1 ≤ l.length ∧ l.length ≤ 16)
theorem rightB_no {l : List Task} {n k : Nat} (hl : l.length = n) (hk : k < n) (h : okB (l.getD k t0) = false) : rightB l = false := by
  have hk' : k < l.length := by omega
  have : l.all okB = false := by
    rw [List.all_eq_false]
    refine ⟨l[k], List.getElem_mem _, ?_⟩
    simp [hk'] at h; simp [h]
  simp [rightB, this]
theorem rightB_end {l : List Task} {n : Nat} (hl : l.length = n) (h : ∀ i, i < n → okB (l.getD i t0) = true) : rightB l = decide (1 ≤ n ∧ n ≤ 16) := by
  have : l.all okB = true := by
    rw [List.all_eq_true]
    intro x hx
    obtain ⟨i, hi, rfl⟩ := List.getElem_of_mem hx
    have := h i (by omega)
    simpa [hi] using this
  simp [rightB, this, hl]
theorem rightB_ok {l : List Task} (h : rightB l = true) {i : Nat} (hi : i < l.length) : 1 ≤ (l.getD i t0).p ∧ (l.getD i t0).p ≤ 1000 ∧ 1 ≤ (l.getD i t0).c ∧ (l.getD i t0).c ≤ (l.getD i t0).p ∧ 0 ≤ (l.getD i t0).b ∧ (l.getD i t0).b ≤ 1000 := by
  unfold rightB at h
  simp only [Bool.and_eq_true, List.all_eq_true] at h
  have := h.1 _ (List.getElem_mem hi)
  unfold okB at this
  have h2 := of_decide_eq_true this
  simpa [hi] using h2
theorem rightB_len {l : List Task} (h : rightB l = true) : 1 ≤ l.length ∧ l.length ≤ 16 := by
  unfold rightB at h
  simp only [Bool.and_eq_true] at h
  exact of_decide_eq_true h.2
theorem tasks_len (l : List Task) : (tasks l).length = l.length * 3 := flat_len encT 3 (fun _ => rfl) l

structure L3 where
  left : List Int
  dl : List Int
  mis : List Int
/-- does a task's job come at a tick? -/
def fires (t : Task) (tick : Int) : Bool := decide (t.b ≤ tick ∧ (tick - t.b) % t.p = 0)
def comeR (l : List Task) (tick : Int) (s : L3) : Nat → L3
  | 0 => s
  | k + 1 => if fires (l.getD k t0) tick = true then
      ⟨(comeR l tick s k).left.set k (l.getD k t0).c, (comeR l tick s k).dl.set k (tick + (l.getD k t0).p), if 0 < (comeR l tick s k).left.getD k 0 then (comeR l tick s k).mis.set k ((comeR l tick s k).mis.getD k 0 + 1) else (comeR l tick s k).mis⟩
    else comeR l tick s k
theorem comeR_no {l : List Task} {tick : Int} {s r : L3} {k : Nat} (hs : comeR l tick s k = r) (h : fires (l.getD k t0) tick = false) : comeR l tick s (k + 1) = r := by
  rw [comeR, h, hs]; rfl
theorem comeR_yes {l : List Task} {tick : Int} {s : L3} {a b c : List Int} {k : Nat} (hs : comeR l tick s k = ⟨a, b, c⟩) (h : fires (l.getD k t0) tick = true) (hp : a.getD k 0 > 0) : comeR l tick s (k + 1) = ⟨a.set k (l.getD k t0).c, b.set k (tick + (l.getD k t0).p), c.set k (c.getD k 0 + 1)⟩ := by
  rw [comeR, h, hs]; simp only [if_true, if_pos hp]
theorem comeR_yes0 {l : List Task} {tick : Int} {s : L3} {a b c : List Int} {k : Nat} (hs : comeR l tick s k = ⟨a, b, c⟩) (h : fires (l.getD k t0) tick = true) (hp : a.getD k 0 ≤ 0) : comeR l tick s (k + 1) = ⟨a.set k (l.getD k t0).c, b.set k (tick + (l.getD k t0).p), c⟩ := by
  rw [comeR, h, hs]; simp only [if_true, if_neg (show ¬ 0 < a.getD k 0 by omega)]
theorem getD_set (l : List Int) (k i : Nat) (x : Int) : (l.set k x).getD i 0 = if i = k ∧ k < l.length then x else l.getD i 0 := by
  rw [List.getD_eq_getElem?_getD, List.getElem?_set]
  by_cases h : k = i
  · subst h
    by_cases hk : k < l.length
    · simp [hk]
    · simp [hk]
  · rw [if_neg h, if_neg (fun x => h x.1.symm)]; rfl
theorem comeR_ge (l : List Task) (tick : Int) (s : L3) : ∀ (k i : Nat), k ≤ i → (comeR l tick s k).left.getD i 0 = s.left.getD i 0 ∧ (comeR l tick s k).dl.getD i 0 = s.dl.getD i 0 ∧ (comeR l tick s k).mis.getD i 0 = s.mis.getD i 0
  | 0, i, _ => ⟨rfl, rfl, rfl⟩
  | k + 1, i, h => by
    have h1 := comeR_ge l tick s k i (by omega)
    have hne : ¬ (i = k) := by omega
    rw [comeR]
    split
    · simp only [getD_set, hne, false_and, if_false]
      refine ⟨h1.1, h1.2.1, ?_⟩
      split
      · rw [getD_set, if_neg (fun x => hne x.1)]; exact h1.2.2
      · exact h1.2.2
    · exact h1
def bestR (a b : List Int) : Nat → Int
  | 0 => -1
  | k + 1 => if 0 < a.getD k 0 ∧ (bestR a b k < 0 ∨ b.getD k 0 < b.getD (bestR a b k).toNat 0) then (k : Int) else bestR a b k
theorem bestR_bd (a b : List Int) : ∀ k : Nat, -1 ≤ bestR a b k ∧ bestR a b k < k
  | 0 => by simp [bestR]
  | k + 1 => by
    have := bestR_bd a b k
    rw [bestR]; split <;> omega
theorem bestR_yes {a b : List Int} {k : Nat} {r : Int} (h : bestR a b k = r) (h1 : a.getD k 0 > 0) (h2 : r < 0 ∨ b.getD k 0 < b.getD r.toNat 0) : bestR a b (k + 1) = k := by
  rw [bestR, h, if_pos ⟨h1, h2⟩]
theorem bestR_no {a b : List Int} {k : Nat} {r : Int} (h : bestR a b k = r) (h1 : a.getD k 0 ≤ 0 ∨ (r ≥ 0 ∧ b.getD k 0 ≥ b.getD r.toNat 0)) : bestR a b (k + 1) = r := by
  rw [bestR, h, if_neg (fun x => by rcases h1 with h | h <;> omega)]
structure St where
  left : List Int
  dl : List Int
  mis : List Int
  did : List Int
  idle : Int
def tickR (l : List Task) (n : Nat) (tick : Int) (s : St) : St :=
  let r := comeR l tick ⟨s.left, s.dl, s.mis⟩ n
  let b := bestR r.left r.dl n
  if b < 0 then ⟨r.left, r.dl, r.mis, s.did ++ [b], s.idle + 1⟩ else ⟨r.left.set b.toNat (r.left.getD b.toNat 0 - 1), r.dl, r.mis, s.did ++ [b], s.idle⟩

structure Good (n : Nat) (t : Int) (s : St) : Prop where
  l1 : s.left.length = n
  l2 : s.dl.length = n
  l3 : s.mis.length = n
  M : ∀ i, 0 ≤ s.mis.getD i 0 ∧ s.mis.getD i 0 ≤ t
  L : ∀ i, 0 ≤ s.left.getD i 0 ∧ s.left.getD i 0 ≤ 1000
  I : 0 ≤ s.idle ∧ s.idle ≤ t
  d : (s.did.length : Int) = t
theorem comeR_len (l : List Task) (t : Int) (s : L3) : ∀ k : Nat, (comeR l t s k).left.length = s.left.length ∧ (comeR l t s k).dl.length = s.dl.length ∧ (comeR l t s k).mis.length = s.mis.length
  | 0 => ⟨rfl, rfl, rfl⟩
  | k + 1 => by
    have h := comeR_len l t s k
    rw [comeR]
    split
    · refine ⟨by simp [h.1], by simp [h.2.1], ?_⟩
      show List.length (if _ then _ else _) = _
      split <;> simp [h.2.2]
    · exact h
theorem comeR_left {l : List Task} {t : Int} {s : L3} (hs : ∀ i, 0 ≤ s.left.getD i 0 ∧ s.left.getD i 0 ≤ 1000) : ∀ k : Nat, (∀ i, i < k → 0 ≤ (l.getD i t0).c ∧ (l.getD i t0).c ≤ 1000) → ∀ i, 0 ≤ (comeR l t s k).left.getD i 0 ∧ (comeR l t s k).left.getD i 0 ≤ 1000
  | 0, _, i => hs i
  | k + 1, hc, i => by
    have h := comeR_left (t := t) hs k (fun i hi => hc i (by omega)) i
    rw [comeR]
    split
    · simp only [getD_set]
      split
      · exact hc k (by omega)
      · exact h
    · exact h
theorem comeR_mis {l : List Task} {t : Int} {s : L3} (hs : ∀ i, 0 ≤ s.mis.getD i 0 ∧ s.mis.getD i 0 ≤ t) : ∀ k i : Nat, 0 ≤ (comeR l t s k).mis.getD i 0 ∧ (comeR l t s k).mis.getD i 0 ≤ t + 1
  | 0, i => by have := hs i; simp only [comeR]; omega
  | k + 1, i => by
    have h := comeR_mis (l := l) hs k i
    have hk := comeR_ge l t s k k (Nat.le_refl _)
    have hsk := hs k
    rw [comeR]
    split
    · simp only
      split
      · rw [getD_set]
        split
        · omega
        · exact h
      · exact h
    · exact h
theorem good_step {l : List Task} {n : Nat} {t : Int} {s : St} (h : Good n t s) (hc : ∀ i, i < n → 0 ≤ (l.getD i t0).c ∧ (l.getD i t0).c ≤ 1000) : Good n (t + 1) (tickR l n t s) := by
  have h1 := comeR_len l t ⟨s.left, s.dl, s.mis⟩ n
  have h2 := comeR_left (l := l) (t := t) (s := ⟨s.left, s.dl, s.mis⟩) h.L n hc
  have h3 := comeR_mis (l := l) (t := t) (s := ⟨s.left, s.dl, s.mis⟩) h.M n
  have hI := h.I
  have hd := h.d
  unfold tickR
  simp only
  split
  · exact ⟨h1.1.trans h.l1, h1.2.1.trans h.l2, h1.2.2.trans h.l3, h3, h2, by simp only; omega, by simp; omega⟩
  · rename_i hb
    refine ⟨by simp [h1.1, h.l1], h1.2.1.trans h.l2, h1.2.2.trans h.l3, h3, fun i => ?_, by simp only; omega, by simp; omega⟩
    rw [getD_set]
    have h4 := h2 i
    split
    · rename_i hi
      rw [hi.1] at h4
      have hpos : 0 < (comeR l t ⟨s.left, s.dl, s.mis⟩ n).left.getD (bestR (comeR l t ⟨s.left, s.dl, s.mis⟩ n).left (comeR l t ⟨s.left, s.dl, s.mis⟩ n).dl n).toNat 0 := by
        have key : ∀ (a b : List Int) (k : Nat), ¬ bestR a b k < 0 → 0 < a.getD (bestR a b k).toNat 0 := by
          intro a b k
          induction k with
          | zero => intro h; simp [bestR] at h
          | succ k ih =>
            rw [bestR]
            by_cases hh : 0 < a.getD k 0 ∧ (bestR a b k < 0 ∨ b.getD k 0 < b.getD (bestR a b k).toNat 0)
            · rw [if_pos hh]; intro _; simpa using hh.1
            · rw [if_neg hh]; exact ih
        exact key _ _ n hb
      omega
    · exact h4
def s0 (n : Nat) : St := ⟨List.replicate n 0, List.replicate n 0, List.replicate n 0, [], 0⟩
theorem good_s0 (n : Nat) : Good n 0 (s0 n) := by
  have h : ∀ i, (List.replicate n (0 : Int)).getD i 0 = 0 := by intro i; simp [List.getD_eq_getElem?_getD, List.getElem?_replicate]; split <;> rfl
  exact ⟨by simp [s0], by simp [s0], by simp [s0], fun i => by simp only [s0, h]; omega, fun i => by simp only [s0, h]; omega, by simp [s0], by simp [s0]⟩
def runR (l : List Task) (n : Nat) : Nat → St
  | 0 => s0 n
  | k + 1 => tickR l n k (runR l n k)
theorem good_run {l : List Task} {n : Nat} (hc : ∀ i, i < n → 0 ≤ (l.getD i t0).c ∧ (l.getD i t0).c ≤ 1000) : ∀ k : Nat, Good n k (runR l n k)
  | 0 => good_s0 n
  | k + 1 => by have := good_step (good_run hc k) hc; simpa [runR] using this
def ticksOf (a : Int) : Nat := (min (max a 0) 20000).toNat
end Go.Dl
