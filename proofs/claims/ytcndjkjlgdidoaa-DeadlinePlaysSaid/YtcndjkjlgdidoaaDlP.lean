/- A plain row of jobs tells what the play by tasks tells. Conditions: none. -/
import Derived.Test.YtcndjkjlgdidoaaDlM
set_option linter.unnecessarySimpa false
set_option linter.unusedVariables false
set_option linter.unusedSimpArgs false
namespace Go.Dl
open Go Go.Sp
structure Job where
  left : Int
  dl : Int
  task : Int
def encJ (j : Job) : List Value := [.int .i64 j.left, .int .i64 j.dl, .int .i64 j.task]
def j0 : Job := ⟨0, 0, 0⟩
/-- a row's loops, round by round -/
def keepN (row : List Job) (tick : Int) : Nat → List Job
  | 0 => []
  | i + 1 => if (row.getD i j0).dl ≤ tick then keepN row tick i else keepN row tick i ++ [row.getD i j0]
def missN (row : List Job) (tick : Int) (mis : List Int) : Nat → List Int
  | 0 => mis
  | i + 1 => if (row.getD i j0).dl ≤ tick then (missN row tick mis i).set (row.getD i j0).task.toNat ((missN row tick mis i).getD (row.getD i j0).task.toNat 0 + 1) else missN row tick mis i
def addN (l : List Task) (tick : Int) (row : List Job) : Nat → List Job
  | 0 => row
  | i + 1 => if fires (l.getD i t0) tick = true then addN l tick row i ++ [⟨(l.getD i t0).c, tick + (l.getD i t0).p, i⟩] else addN l tick row i
def bestN (row : List Job) : Nat → Int
  | 0 => -1
  | k + 1 => if bestN row k < 0 ∨ (row.getD k j0).dl < (row.getD (bestN row k).toNat j0).dl ∨ ((row.getD k j0).dl = (row.getD (bestN row k).toNat j0).dl ∧ (row.getD k j0).task < (row.getD (bestN row k).toNat j0).task) then (k : Int) else bestN row k

theorem take_snoc {α : Type} {l : List α} {d : α} {i : Nat} (h : i < l.length) : l.take (i + 1) = l.take i ++ [l.getD i d] := by
  rw [List.take_succ_eq_append_getElem h]; simp [h]
theorem keepN_eq (row : List Job) (tick : Int) : ∀ i : Nat, i ≤ row.length → keepN row tick i = (row.take i).filter fun j => decide (tick < j.dl)
  | 0, _ => by simp [keepN]
  | i + 1, h => by
    rw [keepN, keepN_eq row tick i (by omega), take_snoc (d := j0) (by omega), List.filter_append]
    generalize row.getD i j0 = x
    split
    · rename_i hh; simp [show ¬ tick < x.dl by omega]
    · rename_i hh
      rw [List.filter_cons, if_pos (by simp; omega)]; simp
theorem keepN_len (row : List Job) (tick : Int) : ∀ i : Nat, (keepN row tick i).length ≤ i
  | 0 => by simp [keepN]
  | i + 1 => by have := keepN_len row tick i; rw [keepN]; split <;> simp <;> omega
theorem addN_len (l : List Task) (tick : Int) (row : List Job) : ∀ i : Nat, (addN l tick row i).length ≤ row.length + i
  | 0 => by simp [addN]
  | i + 1 => by have := addN_len l tick row i; rw [addN]; split <;> simp <;> omega
theorem missN_len (row : List Job) (tick : Int) (mis : List Int) : ∀ i : Nat, (missN row tick mis i).length = mis.length
  | 0 => rfl
  | i + 1 => by have := missN_len row tick mis i; rw [missN]; split <;> simp [this]
theorem mem_addN {l : List Task} {tick : Int} {row : List Job} {j : Job} : ∀ i : Nat, j ∈ addN l tick row i ↔ j ∈ row ∨ ∃ q : Nat, q < i ∧ fires (l.getD q t0) tick = true ∧ j = ⟨(l.getD q t0).c, tick + (l.getD q t0).p, q⟩
  | 0 => by simp [addN]
  | i + 1 => by
    rw [addN]
    split
    · rename_i hf
      rw [List.mem_append, mem_addN i, List.mem_singleton]
      constructor
      · rintro ((h | ⟨q, h1, h2, h3⟩) | h)
        · exact .inl h
        · exact .inr ⟨q, by omega, h2, h3⟩
        · exact .inr ⟨i, by omega, hf, h⟩
      · rintro (h | ⟨q, h1, h2, h3⟩)
        · exact .inl (.inl h)
        · by_cases hq : q = i
          · subst hq; exact .inr h3
          · exact .inl (.inr ⟨q, by omega, h2, h3⟩)
    · rename_i hf
      rw [mem_addN i]
      constructor
      · rintro (h | ⟨q, h1, h2, h3⟩)
        · exact .inl h
        · exact .inr ⟨q, by omega, h2, h3⟩
      · rintro (h | ⟨q, h1, h2, h3⟩)
        · exact .inl h
        · refine .inr ⟨q, ?_, h2, h3⟩
          rcases Nat.lt_or_ge q i with h | h
          · exact h
          · have hq : q = i := by omega
            subst hq; exact absurd h2 hf

/-- at the head of tick k: the row of jobs that wait, and the play's state -/
structure Rel (l : List Task) (n k : Nat) (row : List Job) (s : St) : Prop where
  inr : ∀ j ∈ row, 0 ≤ j.task ∧ j.task < n
  val : ∀ j ∈ row, s.left.getD j.task.toNat 0 = j.left ∧ s.dl.getD j.task.toNat 0 = j.dl ∧ 0 < j.left
  inj : (row.map Job.task).Nodup
  sur : ∀ i : Nat, i < n → 0 < s.left.getD i 0 → ∃ j ∈ row, j.task = i
  tim : ∀ i : Nat, i < n → 0 < s.left.getD i 0 → (k : Int) ≤ s.dl.getD i 0 ∧ (l.getD i t0).b ≤ s.dl.getD i 0 - (l.getD i t0).p ∧ (s.dl.getD i 0 - (l.getD i t0).p - (l.getD i t0).b) % (l.getD i t0).p = 0 ∧ s.dl.getD i 0 - (l.getD i t0).p < k

theorem Rel.start (l : List Task) (n : Nat) : Rel l n 0 [] (s0 n) := by
  have h : ∀ i, (List.replicate n (0 : Int)).getD i 0 = 0 := by intro i; simp [List.getD_eq_getElem?_getD, List.getElem?_replicate]; split <;> rfl
  exact ⟨by simp, by simp, by simp, fun i _ hp => by simp only [s0, h] at hp; omega, fun i _ hp => by simp only [s0, h] at hp; omega⟩

theorem mod_mid {x p : Int} (hp : 1 ≤ p) (h : x % p = 0) (h1 : -p < x) (h2 : x < p) : x = 0 := by
  have hd : p ∣ x := Int.dvd_of_emod_eq_zero h
  obtain ⟨q, rfl⟩ := hd
  rcases Int.lt_trichotomy q 0 with hq | hq | hq
  · have : p * q ≤ p * (-1) := Int.mul_le_mul_of_nonneg_left (by omega) (by omega); omega
  · subst hq; simp
  · have : p * 1 ≤ p * q := Int.mul_le_mul_of_nonneg_left (by omega) (by omega); omega
/-- who has a job left: its deadline is now if and only if its next job comes now -/
theorem Rel.due {l : List Task} {n k : Nat} {row : List Job} {s : St} (h : Rel l n k row s) {i : Nat} (hi : i < n) (hp : 1 ≤ (l.getD i t0).p) (hl : 0 < s.left.getD i 0) : s.dl.getD i 0 ≤ k ↔ fires (l.getD i t0) k = true := by
  obtain ⟨h1, h2, h3, h4⟩ := h.tim i hi hl
  unfold fires
  simp only [decide_eq_true_eq]
  constructor
  · intro h5
    have h6 : s.dl.getD i 0 = k := by omega
    refine ⟨by omega, ?_⟩
    rw [h6] at h3
    rw [show (k : Int) - (l.getD i t0).p - (l.getD i t0).b = (k : Int) - (l.getD i t0).b - (l.getD i t0).p by omega] at h3
    rwa [Int.sub_emod_right] at h3
  · rintro ⟨h5, h6⟩
    rcases Int.lt_or_le (k : Int) (s.dl.getD i 0) with h7 | h7
    · exfalso
      have hm : ((k : Int) - (s.dl.getD i 0 - (l.getD i t0).p)) % (l.getD i t0).p = 0 := by
        have : (k : Int) - (s.dl.getD i 0 - (l.getD i t0).p) = ((k : Int) - (l.getD i t0).b) - (s.dl.getD i 0 - (l.getD i t0).p - (l.getD i t0).b) := by omega
        rw [this, Int.sub_emod, h6, h3]; simp
      have := mod_mid hp hm (by omega) (by omega)
      omega
    · exact h7
theorem getD_mem {α : Type} {l : List α} {d : α} {i : Nat} (h : i < l.length) : l.getD i d ∈ l := by simp [h]
theorem lt_succ_ne {i k : Nat} (h : ¬ i = k) (p : Prop) : (i < k + 1 ∧ p) ↔ (i < k ∧ p) := by
  constructor
  · rintro ⟨a, b⟩; exact ⟨by omega, b⟩
  · rintro ⟨a, b⟩; exact ⟨by omega, b⟩
theorem comeR_val (l : List Task) (t : Int) (s : L3) (n : Nat) (hl : s.left.length = n) (hd : s.dl.length = n) : ∀ k : Nat, k ≤ n → ∀ i : Nat, i < n →
    (comeR l t s k).left.getD i 0 = (if i < k ∧ fires (l.getD i t0) t = true then (l.getD i t0).c else s.left.getD i 0) ∧
    (comeR l t s k).dl.getD i 0 = (if i < k ∧ fires (l.getD i t0) t = true then t + (l.getD i t0).p else s.dl.getD i 0)
  | 0, _, i, _ => by simp [comeR]
  | k + 1, hk, i, hi => by
    have h := comeR_val l t s n hl hd k (by omega) i hi
    have hlen := comeR_len l t s k
    rw [comeR]
    by_cases hf : fires (l.getD k t0) t = true
    · rw [if_pos hf]
      simp only [getD_set, hlen.1, hlen.2.1, hl, hd]
      by_cases hik : i = k
      · subst hik
        rw [if_pos ⟨rfl, by omega⟩, if_pos ⟨by omega, hf⟩, if_pos ⟨rfl, by omega⟩, if_pos ⟨by omega, hf⟩]; exact ⟨rfl, rfl⟩
      · simp only [hik, false_and, if_false, lt_succ_ne hik, h.1, h.2, and_self]
    · rw [if_neg hf, h.1, h.2]
      by_cases hik : i = k
      · subst hik; rw [if_neg (fun x => hf x.2), if_neg (fun x => hf x.2), if_neg (fun x => hf x.2), if_neg (fun x => hf x.2)]; exact ⟨rfl, rfl⟩
      · simp only [lt_succ_ne hik, and_self]
theorem comeR_mval (l : List Task) (t : Int) (s : L3) (n : Nat) (hm : s.mis.length = n) : ∀ k : Nat, k ≤ n → ∀ i : Nat, i < n →
    (comeR l t s k).mis.getD i 0 = s.mis.getD i 0 + (if i < k ∧ fires (l.getD i t0) t = true ∧ 0 < s.left.getD i 0 then 1 else 0)
  | 0, _, i, _ => by simp [comeR]
  | k + 1, hk, i, hi => by
    have h := comeR_mval l t s n hm k (by omega) i hi
    have hlen := comeR_len l t s k
    have hge := comeR_ge l t s k k (Nat.le_refl _)
    rw [comeR]
    by_cases hf : fires (l.getD k t0) t = true
    · rw [if_pos hf]
      simp only
      by_cases hp : 0 < (comeR l t s k).left.getD k 0
      · rw [if_pos hp, getD_set, hlen.2.2, hm]
        by_cases hik : i = k
        · subst hik
          rw [if_pos ⟨rfl, by omega⟩, if_pos ⟨by omega, hf, by rw [← hge.1]; exact hp⟩, h, if_neg (fun x => by omega)]; omega
        · rw [if_neg (fun x => hik x.1), h]
          simp only [lt_succ_ne hik]
      · rw [if_neg hp, h]
        by_cases hik : i = k
        · subst hik; rw [hge.1] at hp; rw [if_neg (fun x => hp x.2.2), if_neg (fun x => hp x.2.2)]
        · simp only [lt_succ_ne hik]
    · rw [if_neg hf, h]
      by_cases hik : i = k
      · subst hik; rw [if_neg (fun x => hf x.2.1), if_neg (fun x => hf x.2.1)]
      · simp only [lt_succ_ne hik]
theorem missN_val {row : List Job} {tick : Int} {mis : List Int} {n : Nat} (hm : mis.length = n) (hin : ∀ j ∈ row, 0 ≤ j.task ∧ j.task < n) (hnd : (row.map Job.task).Nodup) : ∀ m : Nat, m ≤ row.length → ∀ i : Nat, i < n →
    (missN row tick mis m).getD i 0 = mis.getD i 0 + (if ∃ j ∈ row.take m, j.task = i ∧ j.dl ≤ tick then 1 else 0)
  | 0, _, i, _ => by simp [missN]
  | m + 1, hk, i, hi => by
    have h := missN_val (tick := tick) hm hin hnd m (by omega) i hi
    have hlen := missN_len row tick mis m
    have hj := hin _ (getD_mem (d := j0) (show m < row.length by omega))
    have hts := take_snoc (d := j0) (show m < row.length by omega)
    have hfresh : ∀ j ∈ row.take m, j.task ≠ (row.getD m j0).task := by
      intro j hjm heq
      rw [← List.take_append_drop (m + 1) row, hts] at hnd
      simp only [List.map_append, List.append_assoc] at hnd
      have := (List.nodup_append.1 hnd).2.2 j.task (List.mem_map_of_mem hjm) (row.getD m j0).task (by simp)
      exact this heq
    rw [missN]
    generalize hx : row.getD m j0 = x at *
    by_cases hd : x.dl ≤ tick
    · rw [if_pos hd, getD_set, hlen, hm]
      have hcast : ((x.task.toNat : Nat) : Int) = x.task := Int.toNat_of_nonneg hj.1
      by_cases hik : i = x.task.toNat
      · subst hik
        rw [if_pos ⟨rfl, hi⟩, if_pos ⟨x, by rw [hts]; simp, hcast.symm, hd⟩, h, if_neg]
        · rw [Int.add_zero]
        · rintro ⟨j, h1, h2, _⟩; exact hfresh j h1 (h2.trans hcast)
      · rw [if_neg (fun x => hik x.1), h]
        congr 1
        have : (∃ j ∈ row.take (m + 1), j.task = i ∧ j.dl ≤ tick) ↔ (∃ j ∈ row.take m, j.task = i ∧ j.dl ≤ tick) := by
          rw [hts]
          constructor
          · rintro ⟨j, h1, h2, h3⟩
            rcases List.mem_append.1 h1 with h4 | h4
            · exact ⟨j, h4, h2, h3⟩
            · simp at h4; subst h4; exact absurd (by rw [h2]; rfl) hik
          · rintro ⟨j, h1, h2, h3⟩; exact ⟨j, List.mem_append_left _ h1, h2, h3⟩
        simp only [this]
    · rw [if_neg hd, h]
      congr 1
      have : (∃ j ∈ row.take (m + 1), j.task = i ∧ j.dl ≤ tick) ↔ (∃ j ∈ row.take m, j.task = i ∧ j.dl ≤ tick) := by
        rw [hts]
        constructor
        · rintro ⟨j, h1, h2, h3⟩
          rcases List.mem_append.1 h1 with h4 | h4
          · exact ⟨j, h4, h2, h3⟩
          · simp at h4; subst h4; exact absurd h3 hd
        · rintro ⟨j, h1, h2, h3⟩; exact ⟨j, List.mem_append_left _ h1, h2, h3⟩
      simp only [this]
/-- what is missed in a tick is the same -/
theorem Rel.miss {l : List Task} {n k : Nat} {row : List Job} {s : St} (h : Rel l n k row s) (hg : Good n k s) (hp : ∀ i : Nat, i < n → 1 ≤ (l.getD i t0).p) : missN row k s.mis row.length = (comeR l k ⟨s.left, s.dl, s.mis⟩ n).mis := by
  have h1 := missN_len row k s.mis row.length
  have h2 := (comeR_len l k ⟨s.left, s.dl, s.mis⟩ n).2.2
  apply List.ext_getElem
  · rw [h1, h2]
  · intro i hi hi'
    have hin : i < n := by rw [h1, hg.l3] at hi; exact hi
    have e1 := missN_val (tick := k) hg.l3 h.inr h.inj row.length (Nat.le_refl _) i hin
    have e2 := comeR_mval l k ⟨s.left, s.dl, s.mis⟩ n hg.l3 n (Nat.le_refl _) i hin
    have a1 : (missN row k s.mis row.length).getD i 0 = (missN row k s.mis row.length)[i] := by simp [hi]
    have a2 : (comeR l k ⟨s.left, s.dl, s.mis⟩ n).mis.getD i 0 = (comeR l k ⟨s.left, s.dl, s.mis⟩ n).mis[i] := by simp [hi']
    rw [← a1, ← a2, e1, e2]
    simp only
    congr 1
    rw [List.take_length]
    have : (∃ j ∈ row, j.task = i ∧ j.dl ≤ (k : Int)) ↔ (i < n ∧ fires (l.getD i t0) k = true ∧ 0 < s.left.getD i 0) := by
      constructor
      · rintro ⟨j, j1, j2, j3⟩
        have hv := h.val j j1
        have e : j.task.toNat = i := by omega
        rw [e] at hv
        exact ⟨hin, (h.due hin (hp i hin) (by omega)).1 (by omega), by omega⟩
      · rintro ⟨_, f1, f2⟩
        obtain ⟨j, j1, j2⟩ := h.sur i hin f2
        have hv := h.val j j1
        have e : j.task.toNat = i := by omega
        rw [e] at hv
        exact ⟨j, j1, j2, by have := (h.due hin (hp i hin) f2).2 f1; omega⟩
    simp only [this]

theorem addN_nodup {l : List Task} {tick : Int} {row : List Job} (hnd : (row.map Job.task).Nodup) (hnf : ∀ j ∈ row, ∀ q : Nat, j.task = q → fires (l.getD q t0) tick = false) : ∀ i : Nat, ((addN l tick row i).map Job.task).Nodup
  | 0 => hnd
  | i + 1 => by
    have ih := addN_nodup hnd hnf i
    rw [addN]
    split
    · rename_i hf
      rw [List.map_append, List.nodup_append]
      refine ⟨ih, by simp, fun a ha b hb => ?_⟩
      simp only [List.map_cons, List.map_nil, List.mem_singleton] at hb
      subst hb
      obtain ⟨j, hj, rfl⟩ := List.mem_map.1 ha
      rcases (mem_addN i).1 hj with h | ⟨q, h1, h2, rfl⟩
      · intro heq
        have := hnf j h i heq
        rw [this] at hf; cases hf
      · intro heq; simp only at heq; omega
    · exact ih
theorem Rel.mid {l : List Task} {n k : Nat} {row : List Job} {s s2 : St} (h : Rel l n k row s) (hg : Good n k s) (hp : ∀ i : Nat, i < n → 1 ≤ (l.getD i t0).p ∧ 1 ≤ (l.getD i t0).c)
    (h2 : s2.left = (comeR l k ⟨s.left, s.dl, s.mis⟩ n).left) (h3 : s2.dl = (comeR l k ⟨s.left, s.dl, s.mis⟩ n).dl) : Rel l n (k + 1) (addN l k (keepN row k row.length) n) s2 := by
  have hv : ∀ i : Nat, i < n → (fires (l.getD i t0) k = true → s2.left.getD i 0 = (l.getD i t0).c ∧ s2.dl.getD i 0 = k + (l.getD i t0).p) ∧ (fires (l.getD i t0) k = false → s2.left.getD i 0 = s.left.getD i 0 ∧ s2.dl.getD i 0 = s.dl.getD i 0) := by
    intro i hi
    have := comeR_val l k ⟨s.left, s.dl, s.mis⟩ n hg.l1 hg.l2 n (Nat.le_refl _) i hi
    rw [← h2, ← h3] at this
    refine ⟨fun hf => ?_, fun hf => ?_⟩
    · rw [if_pos ⟨hi, hf⟩, if_pos ⟨hi, hf⟩] at this; exact this
    · rw [if_neg (fun x => by rw [hf] at x; cases x.2), if_neg (fun x => by rw [hf] at x; cases x.2)] at this; exact this
  have hkeep : ∀ j, j ∈ keepN row k row.length ↔ j ∈ row ∧ (k : Int) < j.dl := by
    intro j
    rw [keepN_eq row k row.length (Nat.le_refl _), List.take_length, List.mem_filter]; simp
  have hnf : ∀ j ∈ keepN row k row.length, fires (l.getD j.task.toNat t0) k = false := by
    intro j hj
    obtain ⟨h4, h5⟩ := (hkeep j).1 hj
    have h6 := h.inr j h4
    have h7 := h.val j h4
    have hd := h.due (i := j.task.toNat) (by omega) (hp _ (by omega)).1 (by omega)
    rw [h7.2.1] at hd
    cases hc : fires (l.getD j.task.toNat t0) k with
    | false => rfl
    | true => exact absurd (hd.2 hc) (by omega)
  refine ⟨fun j hj => ?_, fun j hj => ?_, ?_, fun i hi hl => ?_, fun i hi hl => ?_⟩
  · rcases (mem_addN n).1 hj with h4 | ⟨q, h4, h5, rfl⟩
    · exact h.inr j ((hkeep j).1 h4).1
    · simp only; omega
  · rcases (mem_addN n).1 hj with h4 | ⟨q, h4, h5, rfl⟩
    · have h5 := h.inr j ((hkeep j).1 h4).1
      have h6 := (hv j.task.toNat (by omega)).2 (hnf j h4)
      have h7 := h.val j ((hkeep j).1 h4).1
      rw [h6.1, h6.2]; exact h7
    · have h6 := (hv q h4).1 h5
      have h7 := hp q h4
      simp only [Int.toNat_natCast]
      exact ⟨h6.1, h6.2, by omega⟩
  · refine addN_nodup ?_ (fun j hj q hq => ?_) n
    · rw [keepN_eq row k row.length (Nat.le_refl _), List.take_length]
      exact h.inj.sublist (List.Sublist.map _ List.filter_sublist)
    · have := hnf j hj; rw [hq] at this; simpa using this
  · cases hf : fires (l.getD i t0) k with
    | true => exact ⟨_, (mem_addN n).2 (.inr ⟨i, hi, hf, rfl⟩), rfl⟩
    | false =>
      have h6 := (hv i hi).2 hf
      rw [h6.1] at hl
      obtain ⟨j, h7, h8⟩ := h.sur i hi hl
      have hd := h.due hi (hp i hi).1 hl
      have h9 := h.val j h7
      have e : j.task.toNat = i := by omega
      rw [e] at h9
      refine ⟨j, (mem_addN n).2 (.inl ((hkeep j).2 ⟨h7, ?_⟩)), h8⟩
      rw [hf] at hd
      rcases Int.lt_or_le (k : Int) j.dl with h10 | h10
      · exact h10
      · exact absurd (hd.1 (by omega)) (by simp)
  · cases hf : fires (l.getD i t0) k with
    | true =>
      have h6 := (hv i hi).1 hf
      have h7 := hp i hi
      unfold fires at hf
      simp only [decide_eq_true_eq] at hf
      rw [h6.2]
      rw [show (k : Int) + (l.getD i t0).p - (l.getD i t0).p = k by omega]
      refine ⟨by omega, hf.1, hf.2, by omega⟩
    | false =>
      have h6 := (hv i hi).2 hf
      rw [h6.1] at hl
      have hd := h.due hi (hp i hi).1 hl
      have ht := h.tim i hi hl
      rw [h6.2]
      refine ⟨?_, ht.2.1, ht.2.2.1, by omega⟩
      rw [hf] at hd
      rcases Int.lt_or_le (k : Int) (s.dl.getD i 0) with h10 | h10
      · omega
      · exact absurd (hd.1 h10) (by simp)

theorem bestN_spec (row : List Job) : ∀ m : Nat, (bestN row m < 0 → m = 0) ∧ -1 ≤ bestN row m ∧ bestN row m < m ∧ (0 ≤ bestN row m → ∀ q : Nat, q < m → (row.getD (bestN row m).toNat j0).dl < (row.getD q j0).dl ∨ ((row.getD (bestN row m).toNat j0).dl = (row.getD q j0).dl ∧ (row.getD (bestN row m).toNat j0).task ≤ (row.getD q j0).task))
  | 0 => ⟨fun _ => rfl, by simp [bestN], by simp [bestN], fun h => by simp [bestN] at h⟩
  | m + 1 => by
    obtain ⟨h1, h2, h3, h4⟩ := bestN_spec row m
    rw [bestN]
    by_cases hc : bestN row m < 0 ∨ (row.getD m j0).dl < (row.getD (bestN row m).toNat j0).dl ∨ ((row.getD m j0).dl = (row.getD (bestN row m).toNat j0).dl ∧ (row.getD m j0).task < (row.getD (bestN row m).toNat j0).task)
    · rw [if_pos hc]
      refine ⟨fun h => by omega, by omega, by omega, fun _ q hq => ?_⟩
      rw [Int.toNat_natCast]
      by_cases hqm : q = m
      · subst hqm; exact .inr ⟨rfl, Int.le_refl _⟩
      · rcases hc with hc | hc
        · have := h1 hc; omega
        · have := h4 (by rcases Int.lt_or_le (bestN row m) 0 with h | h; have := h1 h; omega; exact h) q (by omega)
          omega
    · rw [if_neg hc]
      refine ⟨fun h => absurd (.inl h) hc, h2, by omega, fun h q hq => ?_⟩
      by_cases hqm : q = m
      · subst hqm
        have : ¬ (row.getD q j0).dl < (row.getD (bestN row q).toNat j0).dl := fun x => hc (.inr (.inl x))
        have h6 : ¬ ((row.getD q j0).dl = (row.getD (bestN row q).toNat j0).dl ∧ (row.getD q j0).task < (row.getD (bestN row q).toNat j0).task) := fun x => hc (.inr (.inr x))
        omega
      · exact h4 h q (by omega)
theorem bestR_spec (a b : List Int) : ∀ m : Nat, (bestR a b m < 0 → ∀ q : Nat, q < m → a.getD q 0 ≤ 0) ∧ (0 ≤ bestR a b m → 0 < a.getD (bestR a b m).toNat 0 ∧ ∀ q : Nat, q < m → 0 < a.getD q 0 → b.getD (bestR a b m).toNat 0 ≤ b.getD q 0 ∧ (q < (bestR a b m).toNat → b.getD (bestR a b m).toNat 0 < b.getD q 0))
  | 0 => ⟨fun _ q h => by omega, fun h => by simp [bestR] at h⟩
  | m + 1 => by
    obtain ⟨h1, h2⟩ := bestR_spec a b m
    have hb := bestR_bd a b m
    rw [bestR]
    by_cases hc : 0 < a.getD m 0 ∧ (bestR a b m < 0 ∨ b.getD m 0 < b.getD (bestR a b m).toNat 0)
    · rw [if_pos hc]
      refine ⟨fun h => by omega, fun _ => ?_⟩
      rw [Int.toNat_natCast]
      refine ⟨hc.1, fun q hq hl => ?_⟩
      by_cases hqm : q = m
      · subst hqm; exact ⟨Int.le_refl _, fun h => by omega⟩
      · rcases hc.2 with h3 | h3
        · have := h1 h3 q (by omega); omega
        · have h4 : 0 ≤ bestR a b m := by
            rcases Int.lt_or_le (bestR a b m) 0 with h | h
            · have := h1 h q (by omega); omega
            · exact h
          have := ((h2 h4).2 q (by omega) hl).1
          exact ⟨by omega, fun _ => by omega⟩
    · rw [if_neg hc]
      refine ⟨fun h q hq => ?_, fun h => ⟨(h2 h).1, fun q hq hl => ?_⟩⟩
      · by_cases hqm : q = m
        · subst hqm
          rcases Int.lt_or_le 0 (a.getD q 0) with h3 | h3
          · exact absurd ⟨h3, .inl h⟩ hc
          · exact h3
        · exact h1 h q (by omega)
      · by_cases hqm : q = m
        · subst hqm
          have : ¬ b.getD q 0 < b.getD (bestR a b q).toNat 0 := fun x => hc ⟨hl, .inr x⟩
          exact ⟨by omega, fun h9 => by omega⟩
        · exact (h2 h).2 q (by omega) hl
/-- who is next is the same -/
theorem Rel.best {l : List Task} {n k : Nat} {row : List Job} {s : St} (h : Rel l n k row s) :
    (bestN row row.length < 0 → bestR s.left s.dl n < 0) ∧ (0 ≤ bestN row row.length → bestR s.left s.dl n = (row.getD (bestN row row.length).toNat j0).task) := by
  obtain ⟨h1, h2, h3, h4⟩ := bestN_spec row row.length
  obtain ⟨r1, r2⟩ := bestR_spec s.left s.dl n
  have rb := bestR_bd s.left s.dl n
  constructor
  · intro hb
    have hr : row = [] := List.eq_nil_of_length_eq_zero (h1 hb)
    rcases Int.lt_or_le (bestR s.left s.dl n) 0 with h5 | h5
    · exact h5
    · obtain ⟨j, hj, _⟩ := h.sur (bestR s.left s.dl n).toNat (by omega) (r2 h5).1
      rw [hr] at hj; simp at hj
  · intro hb
    have hlt : (bestN row row.length).toNat < row.length := by omega
    have hm := getD_mem (d := j0) hlt
    have hin := h.inr _ hm
    have hv := h.val _ hm
    have hz : 0 ≤ bestR s.left s.dl n := by
      rcases Int.lt_or_le (bestR s.left s.dl n) 0 with h5 | h5
      · have := r1 h5 (row.getD (bestN row row.length).toNat j0).task.toNat (by omega); omega
      · exact h5
    obtain ⟨z1, z2⟩ := r2 hz
    obtain ⟨j, hj, hjt⟩ := h.sur (bestR s.left s.dl n).toNat (by omega) z1
    obtain ⟨q, hq, hjq⟩ := List.getElem_of_mem hj
    have hq' : row.getD q j0 = j := by simp [hq, hjq]
    have h6 := h4 hb q hq
    rw [hq'] at h6
    have h7 := h.val j hj
    have e : j.task.toNat = (bestR s.left s.dl n).toNat := by omega
    rw [e] at h7
    generalize row.getD (bestN row row.length).toNat j0 = x at *
    have h8 := z2 x.task.toNat (by omega) (by omega)
    have h9 := h8.1
    have h10 := h8.2
    rw [hv.2.1] at h9 h10
    rw [h7.2.1] at h9 h10
    rcases h6 with h6 | ⟨h6, h11⟩
    · omega
    · rcases Int.lt_or_le x.task j.task with h12 | h12
      · have := h10 (by omega); omega
      · omega

theorem erase_mem {row : List Job} {b : Nat} (hb : b < row.length) (hnd : (row.map Job.task).Nodup) {j : Job} (hj : j ∈ row.take b ++ row.drop (b + 1)) : j ∈ row ∧ j.task ≠ (row.getD b j0).task := by
  have hsp : row = row.take b ++ (row.getD b j0 :: row.drop (b + 1)) := by
    rw [show row.getD b j0 = row[b] by simp [hb], ← List.drop_eq_getElem_cons hb, List.take_append_drop]
  have hnd' := hnd
  rw [hsp] at hnd'
  simp only [List.map_append, List.map_cons] at hnd'
  obtain ⟨n1, n2, n3⟩ := List.nodup_append.1 hnd'
  rcases List.mem_append.1 hj with h | h
  · exact ⟨List.mem_of_mem_take h, fun heq => n3 j.task (List.mem_map_of_mem h) (row.getD b j0).task (by simp) heq⟩
  · refine ⟨List.mem_of_mem_drop h, fun heq => ?_⟩
    have := (List.nodup_cons.1 n2).1
    exact this (heq ▸ List.mem_map_of_mem h)
theorem mem_erase {row : List Job} {b : Nat} (hb : b < row.length) {j : Job} (hj : j ∈ row) (hne : j.task ≠ (row.getD b j0).task) : j ∈ row.take b ++ row.drop (b + 1) := by
  have hsp : row = row.take b ++ (row.getD b j0 :: row.drop (b + 1)) := by
    rw [show row.getD b j0 = row[b] by simp [hb], ← List.drop_eq_getElem_cons hb, List.take_append_drop]
  rw [hsp] at hj
  rcases List.mem_append.1 hj with h | h
  · exact List.mem_append_left _ h
  · rcases List.mem_cons.1 h with h | h
    · exact absurd (by rw [h]) hne
    · exact List.mem_append_right _ h
/-- who is next has done one tick more, and is done -/
theorem Rel.drop {l : List Task} {n k : Nat} {row : List Job} {s s2 : St} (h : Rel l n k row s) (hlen : s.left.length = n) {b : Nat} (hb : b < row.length) (h1 : (row.getD b j0).left = 1) (h2 : s2.left = s.left.set (row.getD b j0).task.toNat (s.left.getD (row.getD b j0).task.toNat 0 - 1)) (h3 : s2.dl = s.dl) :
    Rel l n k (row.take b ++ row.drop (b + 1)) s2 := by
  have hm := getD_mem (d := j0) hb
  have hin := h.inr _ hm
  have hv := h.val _ hm
  have hl : ∀ i : Nat, s2.left.getD i 0 = if i = (row.getD b j0).task.toNat then 0 else s.left.getD i 0 := by
    intro i
    rw [h2, getD_set]
    by_cases hi : i = (row.getD b j0).task.toNat
    · rw [if_pos ⟨hi, by omega⟩, if_pos hi]; omega
    · rw [if_neg (fun x => hi x.1), if_neg hi]
  refine ⟨fun j hj => h.inr j (erase_mem hb h.inj hj).1, fun j hj => ?_, ?_, fun i hi hp => ?_, fun i hi hp => ?_⟩
  · obtain ⟨h4, h5⟩ := erase_mem hb h.inj hj
    have h6 := h.inr j h4
    have h7 := h.val j h4
    rw [hl, if_neg (fun x => h5 (by omega)), h3]; exact h7
  · refine h.inj.sublist (List.Sublist.map _ ?_)
    rw [← List.eraseIdx_eq_take_drop_succ]; exact List.eraseIdx_sublist _ _
  · rw [hl] at hp
    split at hp
    · omega
    · rename_i hne
      obtain ⟨j, h4, h5⟩ := h.sur i hi hp
      exact ⟨j, mem_erase hb h4 (fun x => hne (by omega)), h5⟩
  · rw [hl] at hp
    split at hp
    · omega
    · rw [h3]; exact h.tim i hi hp
theorem map_set_same {row : List Job} {b : Nat} {j : Job} (hb : b < row.length) (ht : j.task = (row.getD b j0).task) : (row.set b j).map Job.task = row.map Job.task := by
  rw [List.map_set, ht]
  apply List.ext_getElem
  · simp
  · intro i h1 h2
    rw [List.getElem_set]
    split
    · rename_i hbi; subst hbi; simp [hb]
    · rfl
/-- who is next has done one tick more, and isn't done -/
theorem Rel.dec {l : List Task} {n k : Nat} {row : List Job} {s s2 : St} (h : Rel l n k row s) (hlen : s.left.length = n) {b : Nat} (hb : b < row.length) (h1 : (row.getD b j0).left ≠ 1) (h2 : s2.left = s.left.set (row.getD b j0).task.toNat (s.left.getD (row.getD b j0).task.toNat 0 - 1)) (h3 : s2.dl = s.dl) :
    Rel l n k (row.set b (⟨(row.getD b j0).left - 1, (row.getD b j0).dl, (row.getD b j0).task⟩ : Job)) s2 := by
  have hm := getD_mem (d := j0) hb
  have hin := h.inr _ hm
  have hv := h.val _ hm
  have hl : ∀ i : Nat, s2.left.getD i 0 = if i = (row.getD b j0).task.toNat then (row.getD b j0).left - 1 else s.left.getD i 0 := by
    intro i
    rw [h2, getD_set]
    by_cases hi : i = (row.getD b j0).task.toNat
    · rw [if_pos ⟨hi, by omega⟩, if_pos hi]; omega
    · rw [if_neg (fun x => hi x.1), if_neg hi]
  have hmem : ∀ j, j ∈ row.set b (⟨(row.getD b j0).left - 1, (row.getD b j0).dl, (row.getD b j0).task⟩ : Job) → j = (⟨(row.getD b j0).left - 1, (row.getD b j0).dl, (row.getD b j0).task⟩ : Job) ∨ (j ∈ row ∧ j.task ≠ (row.getD b j0).task) := by
    intro j hj
    rw [List.set_eq_take_append_cons_drop, if_pos hb] at hj
    rcases List.mem_append.1 hj with h4 | h4
    · exact .inr (erase_mem hb h.inj (List.mem_append_left _ h4))
    · rcases List.mem_cons.1 h4 with h4 | h4
      · exact .inl h4
      · exact .inr (erase_mem hb h.inj (List.mem_append_right _ h4))
  have hmem' : ∀ j, j ∈ row → j.task ≠ (row.getD b j0).task → j ∈ row.set b (⟨(row.getD b j0).left - 1, (row.getD b j0).dl, (row.getD b j0).task⟩ : Job) := by
    intro j hj hne
    rw [List.set_eq_take_append_cons_drop, if_pos hb]
    rcases List.mem_append.1 (mem_erase hb hj hne) with h4 | h4
    · exact List.mem_append_left _ h4
    · exact List.mem_append_right _ (List.mem_cons_of_mem _ h4)
  refine ⟨fun j hj => ?_, fun j hj => ?_, ?_, fun i hi hp => ?_, fun i hi hp => ?_⟩
  · rcases hmem j hj with rfl | h4
    · exact hin
    · exact h.inr j h4.1
  · rcases hmem j hj with rfl | ⟨h4, h5⟩
    · simp only
      rw [hl, if_pos rfl, h3]; exact ⟨rfl, hv.2.1, by omega⟩
    · have h6 := h.inr j h4
      have h7 := h.val j h4
      rw [hl, if_neg (fun x => h5 (by omega)), h3]; exact h7
  · rw [map_set_same (j := (⟨(row.getD b j0).left - 1, (row.getD b j0).dl, (row.getD b j0).task⟩ : Job)) hb rfl]; exact h.inj
  · rw [hl] at hp
    split at hp
    · rename_i he
      refine ⟨⟨(row.getD b j0).left - 1, (row.getD b j0).dl, (row.getD b j0).task⟩, ?_, ?_⟩
      · rw [List.set_eq_take_append_cons_drop, if_pos hb]; simp
      · simp only; omega
    · rename_i hne
      obtain ⟨j, h4, h5⟩ := h.sur i hi hp
      exact ⟨j, hmem' j h4 (fun x => hne (by omega)), h5⟩
  · rw [h3]
    refine h.tim i hi ?_
    rw [hl] at hp
    split at hp
    · rename_i he; rw [he]; omega
    · exact hp
/-- who is next at tick k -/
def zOf (l : List Task) (n k : Nat) : Int := bestR (comeR l k ⟨(runR l n k).left, (runR l n k).dl, (runR l n k).mis⟩ n).left (comeR l k ⟨(runR l n k).left, (runR l n k).dl, (runR l n k).mis⟩ n).dl n
theorem run_did (l : List Task) (n k : Nat) : (runR l n (k + 1)).did = (runR l n k).did ++ [zOf l n k] := by
  show (tickR l n k (runR l n k)).did = _
  unfold tickR zOf
  simp only
  split <;> rfl
theorem did_len (l : List Task) (n : Nat) : ∀ k : Nat, (runR l n k).did.length = k
  | 0 => rfl
  | k + 1 => by rw [run_did, List.length_append, did_len l n k]; rfl
theorem did_get (l : List Task) (n : Nat) {k : Nat} : ∀ T : Nat, k < T → (runR l n T).did.getD k 0 = zOf l n k
  | 0, h => by omega
  | T + 1, h => by
    rw [run_did, List.getD_eq_getElem?_getD]
    by_cases hk : k = T
    · subst hk; rw [List.getElem?_append_right (by rw [did_len]; exact Nat.le_refl _)]; simp [did_len]
    · rw [List.getElem?_append_left (by rw [did_len]; omega), ← List.getD_eq_getElem?_getD]; exact did_get l n T (by omega)
/-- the state with the jobs that came -/
def midS (l : List Task) (n k : Nat) : St := ⟨(comeR l k ⟨(runR l n k).left, (runR l n k).dl, (runR l n k).mis⟩ n).left, (comeR l k ⟨(runR l n k).left, (runR l n k).dl, (runR l n k).mis⟩ n).dl, (comeR l k ⟨(runR l n k).left, (runR l n k).dl, (runR l n k).mis⟩ n).mis, (runR l n k).did, (runR l n k).idle⟩
theorem run_idle {l : List Task} {n k : Nat} (h : zOf l n k < 0) : runR l n (k + 1) = ⟨(midS l n k).left, (midS l n k).dl, (midS l n k).mis, (runR l n k).did ++ [zOf l n k], (runR l n k).idle + 1⟩ := by
  show tickR l n k (runR l n k) = _
  unfold zOf at h ⊢
  unfold tickR
  simp only
  rw [if_pos h]; rfl
theorem run_work {l : List Task} {n k : Nat} (h : 0 ≤ zOf l n k) : runR l n (k + 1) = ⟨(midS l n k).left.set (zOf l n k).toNat ((midS l n k).left.getD (zOf l n k).toNat 0 - 1), (midS l n k).dl, (midS l n k).mis, (runR l n k).did ++ [zOf l n k], (runR l n k).idle⟩ := by
  show tickR l n k (runR l n k) = _
  unfold zOf at h ⊢
  unfold tickR
  simp only
  rw [if_neg (by omega)]; rfl
end Go.Dl
