/- The desk: what is held for a while, as plain things; its block of cells; how many are held, and the earliest end. Conditions: none. -/
import Derived.Test.YtdibbcmfgdgdfaaS12
set_option linter.unnecessarySimpa false
set_option linter.unusedVariables false
set_option linter.unusedSimpArgs false
namespace Go.Le
open Go Go.Sp
structure Th where
  who : Int
  tok : Int
  fin : Int
  given : Bool
structure De where
  grace : Int
  now : Int
  th : Nat → Th
def t0 : Th := ⟨0, 0, 0, true⟩
def clampI (x : Int) : Int := min (max x (-4611686018427387903)) 4611686018427387903
def addI (a b : Int) : Int := if a ≥ 4611686018427387903 then 4611686018427387903 else clampI (clampI a + clampI b)
def subI (a b : Int) : Int := if a ≥ 4611686018427387903 then 4611686018427387903 else clampI (clampI a - clampI b)
theorem clamp_range (x : Int) : -4611686018427387903 ≤ clampI x ∧ clampI x ≤ 4611686018427387903 := by unfold clampI; omega
def De.tick (s : De) (t : Int) : De := ⟨s.grace, max s.now (clampI t), s.th⟩
def De.put (s : De) (k : Nat) (t : Th) : De := ⟨s.grace, s.now, fun j => if j = k then t else s.th j⟩
def De.held (s : De) (k : Nat) : Bool := !(s.th k).given && decide ((s.th k).fin > s.now)
def De.busy (s : De) (k : Nat) (who : Int) : Bool := s.held k || (!(s.th k).given && decide ((s.th k).who ≠ who) && decide (subI s.now (s.th k).fin < s.grace))
theorem put_put (s : De) (k : Nat) (a b : Th) : (s.put k a).put k b = s.put k b := by
  unfold De.put; congr 1; funext j; by_cases h : j = k <;> simp [h]
theorem put_at (s : De) (k : Nat) (a : Th) : (s.put k a).th k = a := by simp [De.put]
theorem put_now (s : De) (k : Nat) (a : Th) : (s.put k a).now = s.now := rfl
theorem put_same (s : De) (k : Nat) : s.put k (s.th k) = s := by
  unfold De.put
  have : (fun j => if j = k then s.th k else s.th j) = s.th := by funext j; by_cases h : j = k <;> simp [h]
  rw [this]
def newD (grace : Int) : De := ⟨grace, -4611686018427387903, fun _ => t0⟩

/-! ### its block -/
def Th.at_ (t : Th) : Nat → Int
  | 0 => t.who
  | 1 => t.tok
  | _ => t.fin
def deskV (s : De) (o : Nat) : Option Value :=
  if o = 0 then some (.int .i64 s.grace) else if o = 1 then some (.int .i64 s.now)
  else if o < 770 then some (.int .i64 ((s.th ((o - 2) / 3)).at_ ((o - 2) % 3)))
  else if o < 1026 then some (.bool (s.th (o - 770)).given) else none
def DeskC (d : Nat) (s : De) : Asn := fun h => ∃ cs : List Value, h d = some (.cells cs.toArray 51 (0, 0)) ∧ cs.length = 1026 ∧ ∀ o v, deskV s o = some v → cs[o]? = some v
theorem Rd.desk {d : Nat} {s : De} {o : Nat} {v : Value} (h : deskV s o = some v) : Rd (DeskC d s) d o v := by
  rintro h' ⟨cs, h1, h2, h3⟩
  exact ⟨_, _, _, h1, by simpa using h3 o v h⟩
theorem Rd.grace {d : Nat} {s : De} : Rd (DeskC d s) d 0 (.int .i64 s.grace) := Rd.desk rfl
theorem Rd.now {d : Nat} {s : De} : Rd (DeskC d s) d 1 (.int .i64 s.now) := Rd.desk rfl
theorem deskV_hold {s : De} {k c : Nat} (hk : k < 256) (hc : c < 3) : deskV s (2 + k * 3 + c) = some (.int .i64 ((s.th k).at_ c)) := by
  unfold deskV
  rw [if_neg (by omega), if_neg (by omega), if_pos (by omega), show (2 + k * 3 + c - 2) % 3 = c by omega, show (2 + k * 3 + c - 2) / 3 = k by omega]
theorem deskV_given {s : De} {k : Nat} (hk : k < 256) : deskV s (770 + k) = some (.bool (s.th k).given) := by
  unfold deskV
  rw [if_neg (by omega), if_neg (by omega), if_neg (by omega), if_pos (by omega), show 770 + k - 770 = k by omega]
theorem Rd.who {d : Nat} {s : De} {k : Nat} (hk : k < 256) : Rd (DeskC d s) d (2 + k * 3) (.int .i64 (s.th k).who) := Rd.desk (deskV_hold (c := 0) hk (by omega))
theorem Rd.tok {d : Nat} {s : De} {k : Nat} (hk : k < 256) : Rd (DeskC d s) d (2 + k * 3 + 1) (.int .i64 (s.th k).tok) := Rd.desk (deskV_hold (c := 1) hk (by omega))
theorem Rd.fin {d : Nat} {s : De} {k : Nat} (hk : k < 256) : Rd (DeskC d s) d (2 + k * 3 + 2) (.int .i64 (s.th k).fin) := Rd.desk (deskV_hold (c := 2) hk (by omega))
theorem Rd.given {d : Nat} {s : De} {k : Nat} (hk : k < 256) : Rd (DeskC d s) d (770 + k) (.bool (s.th k).given) := Rd.desk (deskV_given hk)
theorem upd_get : ∀ (vs cs : List Value) (o j : Nat), o + vs.length ≤ cs.length → (upd cs o vs)[j]? = if o ≤ j ∧ j < o + vs.length then vs[j - o]? else cs[j]?
  | [], cs, o, j, h => by simp only [upd, List.length_nil]; rw [if_neg (by omega)]
  | v :: r, cs, o, j, h => by
    simp only [List.length_cons] at h
    simp only [upd]
    rw [upd_get r (cs.set o v) (o + 1) j (by simp; omega)]
    by_cases h1 : j = o
    · subst h1
      rw [if_neg (by omega), if_pos (by simp only [List.length_cons]; omega)]
      simp [show j < cs.length by omega]
    · by_cases h2 : o + 1 ≤ j ∧ j < o + 1 + r.length
      · rw [if_pos h2, if_pos (by simp only [List.length_cons]; omega), show j - o = (j - (o + 1)) + 1 by omega, List.getElem?_cons_succ]
      · rw [if_neg h2, if_neg (by simp only [List.length_cons]; omega), List.getElem?_set_ne (fun h => h1 h.symm)]
theorem Wr.desk {d : Nat} {s s' : De} {o : Nat} {vs : List Value} (hl : o + vs.length ≤ 1026) (h : ∀ j v, deskV s' j = some v → if o ≤ j ∧ j < o + vs.length then vs[j - o]? = some v else deskV s j = some v) : Wr (DeskC d s) d o vs (DeskC d s') := by
  rintro h' ⟨cs, h1, h2, h3⟩
  refine ⟨cs, 51, h1, by omega, upd cs o vs, by simp, by rw [upd_length]; exact h2, fun j v hv => ?_⟩
  rw [upd_get vs cs o j (by omega)]
  have := h j v hv
  split at this
  · rename_i hj; rw [if_pos hj]; exact this
  · rename_i hj; rw [if_neg hj]; exact h3 j v this
theorem Wr.now {d : Nat} {s : De} (x : Int) : Wr (DeskC d s) d 1 [.int .i64 x] (DeskC d ⟨s.grace, x, s.th⟩) := by
  refine Wr.desk (by simp) (fun j v hv => ?_)
  by_cases hj : j = 1
  · subst hj; rw [if_pos (by simp)]; simpa [deskV] using hv
  · rw [if_neg (by simp; omega)]
    unfold deskV at hv ⊢
    rw [if_neg hj] at hv ⊢; exact hv
theorem deskV_put {s : De} {k : Nat} {t : Th} {j : Nat} (hk : k < 256) (hj : ¬ (2 + k * 3 ≤ j ∧ j < 2 + k * 3 + 3)) (hj2 : j ≠ 770 + k) : deskV (s.put k t) j = deskV s j := by
  unfold deskV
  split
  · rfl
  · split
    · rfl
    · split
      · have : (j - 2) / 3 ≠ k := by omega
        simp only [De.put, if_neg this]
      · have : j - 770 ≠ k := by omega
        simp only [De.put, if_neg this]
theorem Wr.hold {d : Nat} {s : De} {k : Nat} (hk : k < 256) (a b c : Int) : Wr (DeskC d s) d (2 + k * 3) [.int .i64 a, .int .i64 b, .int .i64 c] (DeskC d (s.put k ⟨a, b, c, (s.th k).given⟩)) := by
  refine Wr.desk (by simp; omega) (fun j v hv => ?_)
  by_cases hj : 2 + k * 3 ≤ j ∧ j < 2 + k * 3 + 3
  · rw [if_pos (by simpa using hj)]
    obtain ⟨c', hc, rfl⟩ : ∃ c', c' < 3 ∧ j = 2 + k * 3 + c' := ⟨j - (2 + k * 3), by omega, by omega⟩
    rw [deskV_hold hk hc, put_at] at hv
    rw [show 2 + k * 3 + c' - (2 + k * 3) = c' by omega, ← hv]
    match c', hc with
    | 0, _ => rfl
    | 1, _ => rfl
    | 2, _ => rfl
  · rw [if_neg (by simpa using hj)]
    by_cases h2 : j = 770 + k
    · subst h2; rw [deskV_given hk, put_at] at hv; rw [deskV_given hk]; exact hv
    · rw [deskV_put hk hj h2] at hv; exact hv
theorem Wr.fin {d : Nat} {s : De} {k : Nat} (hk : k < 256) (c : Int) : Wr (DeskC d s) d (2 + k * 3 + 2) [.int .i64 c] (DeskC d (s.put k ⟨(s.th k).who, (s.th k).tok, c, (s.th k).given⟩)) := by
  refine Wr.desk (by simp; omega) (fun j v hv => ?_)
  by_cases h0 : j = 2 + k * 3 + 2
  · subst h0
    rw [if_pos (by simp)]
    rw [deskV_hold (c := 2) hk (by omega), put_at] at hv
    simpa [Th.at_] using hv
  · rw [if_neg (by simp; omega)]
    by_cases hj : 2 + k * 3 ≤ j ∧ j < 2 + k * 3 + 3
    · obtain ⟨c', hc, rfl⟩ : ∃ c', c' < 3 ∧ j = 2 + k * 3 + c' := ⟨j - (2 + k * 3), by omega, by omega⟩
      rw [deskV_hold hk hc, put_at] at hv
      rw [deskV_hold hk hc, ← hv]
      match c', hc with
      | 0, _ => rfl
      | 1, _ => rfl
      | 2, _ => exact absurd rfl h0
    · by_cases h2 : j = 770 + k
      · subst h2; rw [deskV_given hk, put_at] at hv; rw [deskV_given hk]; exact hv
      · rw [deskV_put hk hj h2] at hv; exact hv
theorem Wr.given {d : Nat} {s : De} {k : Nat} (hk : k < 256) (g : Bool) : Wr (DeskC d s) d (770 + k) [.bool g] (DeskC d (s.put k ⟨(s.th k).who, (s.th k).tok, (s.th k).fin, g⟩)) := by
  refine Wr.desk (by simp; omega) (fun j v hv => ?_)
  by_cases h0 : j = 770 + k
  · subst h0
    rw [if_pos (by simp)]
    rw [deskV_given hk, put_at] at hv
    simpa using hv
  · rw [if_neg (by simp; omega)]
    by_cases hj : 2 + k * 3 ≤ j ∧ j < 2 + k * 3 + 3
    · obtain ⟨c', hc, rfl⟩ : ∃ c', c' < 3 ∧ j = 2 + k * 3 + c' := ⟨j - (2 + k * 3), by omega, by omega⟩
      rw [deskV_hold hk hc, put_at] at hv
      rw [deskV_hold hk hc, ← hv]
      match c', hc with
      | 0, _ => rfl
      | 1, _ => rfl
      | 2, _ => rfl
    · rw [deskV_put hk hj h0] at hv; exact hv

theorem DeskC.same {d : Nat} {s s' : De} (hg : s.grace = s'.grace) (hn : s.now = s'.now) (ht : ∀ k, k < 256 → s.th k = s'.th k) {A : List Asn} {F : Hp} {w : World} (ho : Owns (DeskC d s :: A) F w) : Owns (DeskC d s' :: A) F w := by
  obtain ⟨h, ⟨cs, h1, h2, h3⟩, h4, h5⟩ := ho
  refine ⟨h, ⟨cs, h1, h2, fun o v hv => h3 o v ?_⟩, h4, h5⟩
  unfold deskV at hv ⊢
  split
  · rename_i h; rw [if_pos h] at hv; rw [hg]; exact hv
  · rename_i h; rw [if_neg h] at hv
    split
    · rename_i h; rw [if_pos h] at hv; rw [hn]; exact hv
    · rename_i h; rw [if_neg h] at hv
      split
      · rename_i h; rw [if_pos h] at hv; rw [ht _ (by omega)]; exact hv
      · rename_i h; rw [if_neg h] at hv
        split
        · rename_i h; rw [if_pos h] at hv; rw [ht _ (by omega)]; exact hv
        · rename_i h; rw [if_neg h] at hv; exact hv
/-- the cells of a new one -/
def deskZ (g : Int) : List Value := [.int .i64 g, .int .i64 (-4611686018427387903)] ++ (List.replicate 768 (.int .i64 0) ++ List.replicate 256 (.bool false))
theorem desk_open {d : Nat} {g : Int} {A : List Asn} {F : Hp} {w : World} (ho : Owns (Cells d 51 (deskZ g) :: A) F w) : Owns (DeskC d ⟨g, -4611686018427387903, fun j => ⟨0, 0, 0, decide (j < 0)⟩⟩ :: A) F w := by
  obtain ⟨h, h1, h2⟩ := ho
  refine ⟨h, ⟨deskZ g, h1, by unfold deskZ; simp only [List.length_append, List.length_replicate, List.length_cons, List.length_nil], fun o v hv => ?_⟩, h2⟩
  unfold deskV at hv
  unfold deskZ
  split at hv
  · rename_i h; subst h; exact hv
  · split at hv
    · rename_i h; subst h; exact hv
    · rename_i h0 h1
      rw [List.getElem?_append_right (by simp only [List.length_replicate, List.length_cons, List.length_nil]; omega)]
      split at hv
      · rw [List.getElem?_append_left (by simp only [List.length_replicate, List.length_cons, List.length_nil]; omega), List.getElem?_replicate, if_pos (by simp only [List.length_replicate, List.length_cons, List.length_nil]; omega), ← hv]
        have : ∀ c, (⟨0, 0, 0, decide ((o - 2) / 3 < 0)⟩ : Th).at_ c = 0 := by intro c; unfold Th.at_; split <;> rfl
        show some (Value.int .i64 0) = some (Value.int .i64 ((⟨0, 0, 0, decide ((o - 2) / 3 < 0)⟩ : Th).at_ ((o - 2) % 3)))
        rw [this]
      · split at hv
        · rw [List.getElem?_append_right (by simp only [List.length_replicate, List.length_cons, List.length_nil]; omega), List.getElem?_replicate, if_pos (by simp only [List.length_replicate, List.length_cons, List.length_nil]; omega), ← hv]; rfl
        · cases hv
theorem tick_tick (s : De) (t : Int) : (s.tick t).tick t = s.tick t := by
  unfold De.tick; simp only [De.mk.injEq, and_true, true_and]; omega
theorem held_tick (s : De) (t : Int) (k : Nat) (h : s.tick t = s) : (s.tick t).held k = s.held k := by rw [h]

/-! ### counts -/
def cntP (p : Nat → Bool) : Nat → Nat
  | 0 => 0
  | n + 1 => cntP p n + if p n = true then 1 else 0
def minP (p : Nat → Bool) (f : Nat → Int) : Nat → Int
  | 0 => 4611686018427387903
  | n + 1 => if p n = true then min (minP p f n) (f n) else minP p f n
theorem cntP_congr {p q : Nat → Bool} : ∀ {n : Nat}, (∀ i, i < n → p i = q i) → cntP p n = cntP q n
  | 0, _ => rfl
  | n + 1, h => by simp only [cntP]; rw [cntP_congr (n := n) (fun i hi => h i (by omega)), h n (by omega)]
theorem minP_congr {p q : Nat → Bool} {f g : Nat → Int} : ∀ {n : Nat}, (∀ i, i < n → p i = q i ∧ (p i = true → f i = g i)) → minP p f n = minP q g n
  | 0, _ => rfl
  | n + 1, h => by
    simp only [minP]; rw [minP_congr (n := n) (fun i hi => h i (by omega)), (h n (by omega)).1]
    split
    · rename_i hq; rw [(h n (by omega)).2 (by rw [(h n (by omega)).1]; exact hq)]
    · rfl
theorem cntP_le (p : Nat → Bool) : ∀ n, cntP p n ≤ n
  | 0 => Nat.le_refl _
  | n + 1 => by simp only [cntP]; have := cntP_le p n; split <;> omega
theorem cntP_more {p q : Nat → Bool} {x : Nat} (hx : p x = false) (hq : q x = true) (he : ∀ i, i ≠ x → q i = p i) : ∀ {n : Nat}, x < n → cntP q n = cntP p n + 1
  | 0, h => by omega
  | n + 1, h => by
    simp only [cntP]
    rcases Nat.lt_or_eq_of_le (Nat.le_of_lt_succ h) with h1 | h1
    · rw [cntP_more hx hq he h1, he n (by omega)]; omega
    · subst h1
      rw [cntP_congr (fun i hi => he i (by omega)), hx, hq]; simp
theorem minP_more {p q : Nat → Bool} {f : Nat → Int} {x : Nat} (hx : p x = false) (hq : q x = true) (he : ∀ i, i ≠ x → q i = p i) : ∀ {n : Nat}, x < n → minP q f n = min (minP p f n) (f x)
  | 0, h => by omega
  | n + 1, h => by
    simp only [minP]
    rcases Nat.lt_or_eq_of_le (Nat.le_of_lt_succ h) with h1 | h1
    · rw [minP_more hx hq he h1, he n (by omega)]
      split <;> omega
    · subst h1
      rw [minP_congr (q := p) (g := f) (fun i hi => ⟨he i (by omega), fun _ => rfl⟩), hx, hq]; simp
theorem cntP_none (n : Nat) : cntP (fun _ => false) n = 0 := by
  induction n with
  | zero => rfl
  | succ n ih => simp [cntP, ih]
theorem minP_none (f : Nat → Int) (n : Nat) : minP (fun _ => false) f n = 4611686018427387903 := by
  induction n with
  | zero => rfl
  | succ n ih => simp [minP, ih]
end Go.Le
