import Derived.Test.YtcndjkjlgdidoaaPDlx5
import Derived.Test.YtcndjkjlgdidoaaPDlx6
namespace Go.Proofs.Ytcndjkjlgdidoaa.Da
open Go.RowKit Go.Proofs.YtcndjkjlgdidoaaW.PrintWords Go.Proofs.YtcndjkjlgdidoaaW.PrintLast Go.Proofs.YtcndjkjlgdidoaaW.PrintMore
open PDl
set_option linter.unusedVariables false
set_option linter.unusedSimpArgs false

theorem wrap64_in {n : Int} (h0 : -9223372036854775808 ≤ n) (h1 : n < 9223372036854775808) : wrap64 n = n := by unfold wrap64; omega

theorem right2_loop (l : List S35) (hl : l.length ≤ 9223372036854775807) : ∀ (n i k : Nat), i + n = l.length → n < k → fuseelaw34_right.l0 k l l (l.length : Int) (i : Int) = some ((l.drop i).all okB && decide (1 ≤ l.length ∧ l.length ≤ 16)) := by
  intro n
  induction n with
  | zero =>
    intro i k hi hk
    obtain ⟨k, rfl⟩ : ∃ m, k = m + 1 := ⟨k - 1, by omega⟩
    rw [fuseelaw34_right.l0, if_neg (by omega), List.drop_of_length_le (by omega)]
    by_cases h1 : (l.length : Int) > 0
    · rw [if_pos h1]; have : 1 ≤ l.length := by omega
      simp [this]; omega
    · rw [if_neg h1]; simp; intro; omega
  | succ n ih =>
    intro i k hi hk
    obtain ⟨k, rfl⟩ : ∃ m, k = m + 1 := ⟨k - 1, by omega⟩
    have hlt : i < l.length := by omega
    have e1 : wrap64 ((i : Int) + 1) = ((i + 1 : Nat) : Int) := by unfold wrap64; omega
    have ed : l.drop i = l[i] :: l.drop (i + 1) := (List.drop_eq_getElem_cons hlt)
    have er : rd_T35 l (i : Int) = l[i] := by unfold rd_T35; simp [hlt]
    rw [fuseelaw34_right.l0, if_pos (by omega), if_pos (by omega), if_pos (by omega), er, e1, ih (i + 1) k (by omega) (by omega), ed, List.all_cons]
    generalize l[i] = t
    unfold okB
    by_cases h1 : t.f0 < 1
    · rw [if_pos h1]; have : ¬ 1 ≤ t.f0 := by omega
      simp [this]
    · rw [if_neg h1]
      by_cases h2 : t.f0 > 1000
      · rw [if_pos h2]; have : ¬ t.f0 ≤ 1000 := by omega
        simp [this]
      · rw [if_neg h2]
        by_cases h3 : t.f1 < 1
        · rw [if_pos h3]; have : ¬ 1 ≤ t.f1 := by omega
          simp [this]
        · rw [if_neg h3]
          by_cases h4 : t.f1 > t.f0
          · rw [if_pos h4]; have : ¬ t.f1 ≤ t.f0 := by omega
            simp [this]
          · rw [if_neg h4]
            by_cases h5 : t.f2 < 0
            · rw [if_pos h5]; have : ¬ 0 ≤ t.f2 := by omega
              simp [this]
            · rw [if_neg h5]
              by_cases h6 : t.f2 > 1000
              · rw [if_pos h6]; have : ¬ t.f2 ≤ 1000 := by omega
                simp [this]
              · rw [if_neg h6]
                have : decide (1 ≤ t.f0 ∧ t.f0 ≤ 1000 ∧ 1 ≤ t.f1 ∧ t.f1 ≤ t.f0 ∧ 0 ≤ t.f2 ∧ t.f2 ≤ 1000) = true := by simp; omega
                rw [this, Bool.true_and]
theorem right2_eq (l : List S35) (hl : l.length ≤ 9223372036854775807) (k : Nat) (hk : l.length < k) : fuseelaw34_right.f k l = some (rightB l) := by
  unfold fuseelaw34_right.f
  exact right2_loop l hl l.length 0 k (by omega) hk

theorem gcd_eq : ∀ (k b a : Nat), b < k → deadline_gcd.l0 k (a : Int) (b : Int) = some ((Nat.gcd a b : Nat) : Int) := by
  intro k
  induction k with
  | zero => intro b a h; omega
  | succ k ih =>
    intro b a h
    rw [deadline_gcd.l0]
    by_cases h0 : b = 0
    · subst h0; rw [if_pos (by rfl)]; simp
    · rw [if_neg (by omega)]
      have e : Int.tmod (a : Int) (b : Int) = ((a % b : Nat) : Int) := by rw [Int.tmod_eq_emod_of_nonneg (by omega)]; simp
      have hlt : a % b < b := Nat.mod_lt _ (by omega)
      rw [e, ih (a % b) b (by omega), Nat.gcd_comm a b, Nat.gcd_rec b a, Nat.gcd_comm]

def per (t : S35) : Nat := t.f0.toNat
def lcmF (n : Nat) (l : List S35) : Nat := l.foldl (fun n t => Nat.lcm n (per t)) n
theorem lcmF_dvd (m : Nat) : ∀ (l : List S35) (n : Nat), lcmF n l ∣ m ↔ n ∣ m ∧ ∀ t ∈ l, per t ∣ m
  | [], n => by simp [lcmF]
  | t :: r, n => by
    have := lcmF_dvd m r (Nat.lcm n (per t))
    simp only [lcmF, List.foldl_cons, List.mem_cons, forall_eq_or_imp] at *
    rw [this, Nat.lcm_dvd_iff]
    constructor
    · rintro ⟨⟨a, b⟩, c⟩; exact ⟨a, b, c⟩
    · rintro ⟨a, b, c⟩; exact ⟨⟨a, b⟩, c⟩
theorem lcmF_pos : ∀ (l : List S35) (n : Nat), 0 < n → (∀ t ∈ l, okTask t) → 0 < lcmF n l
  | [], n, h, _ => h
  | t :: r, n, h, ho => by
    have ht := ho t (by simp)
    unfold okTask at ht
    exact lcmF_pos r _ (Nat.lcm_pos h (by unfold per; omega)) (fun t h => ho t (by simp [h]))
theorem lcmF_ge (l : List S35) (n : Nat) (h : 0 < n) (ho : ∀ t ∈ l, okTask t) : n ≤ lcmF n l :=
  Nat.le_of_dvd (lcmF_pos l n h ho) (((lcmF_dvd (lcmF n l) l n).1 (Nat.dvd_refl _)).1)

theorem rd35_eq {l : List S35} {i : Nat} (h : i < l.length) : rd_T35 l (i : Int) = l[i] := by unfold rd_T35; simp [h]
theorem drop35 {l : List S35} {i : Nat} (h : i < l.length) : l.drop i = l[i] :: l.drop (i + 1) := List.drop_eq_getElem_cons h

theorem cyc_loop (l : List S35) (hl : l.length ≤ 16) (ho : ∀ t ∈ l, okTask t) : ∀ (n i k m : Nat), i + n = l.length → n + 1002 ≤ k → 1 ≤ m → m ≤ 1000000000 →
    deadline_Cycle.l0 k (m : Int) l (l.length : Int) (i : Int) = some (if lcmF m (l.drop i) ≤ 1000000000 then (((lcmF m (l.drop i) : Nat) : Int), true) else (0, false)) := by
  intro n
  induction n with
  | zero =>
    intro i k m hi hk hm0 hm
    obtain ⟨k, rfl⟩ : ∃ m, k = m + 1 := ⟨k - 1, by omega⟩
    rw [deadline_Cycle.l0, if_neg (by omega), List.drop_of_length_le (by omega)]
    simp [lcmF, hm]
  | succ n ih =>
    intro i k m hi hk hm0 hm
    obtain ⟨k, rfl⟩ : ∃ m, k = m + 1 := ⟨k - 1, by omega⟩
    have hlt : i < l.length := by omega
    have e1 : wrap64 ((i : Int) + 1) = ((i + 1 : Nat) : Int) := by rw [wrap64_in (by omega) (by omega)]; omega
    rw [deadline_Cycle.l0, if_pos (by omega), if_pos (by omega), if_pos (by omega), rd35_eq hlt, e1, drop35 hlt]
    clear e1
    have ht := ho l[i] (List.getElem_mem hlt)
    unfold okTask at ht
    obtain ⟨p, hp⟩ : ∃ p : Nat, l[i].f0 = p := ⟨l[i].f0.toNat, by omega⟩
    have hpp : per l[i] = p := by unfold per; omega
    rw [hp]
    have hp1 : 1 ≤ p := by omega
    have hp2 : p ≤ 1000 := by omega
    have eg : deadline_gcd.f k (m : Int) (p : Int) = some ((Nat.gcd m p : Nat) : Int) := gcd_eq k p m (by omega)
    have hg : 0 < Nat.gcd m p := Nat.gcd_pos_of_pos_left _ (by omega)
    rw [eg]
    simp only [Option.bind_some]
    rw [if_neg (by omega)]
    have hd1 : m / Nat.gcd m p ≤ m := Nat.div_le_self _ _
    have hmul : m / Nat.gcd m p * p ≤ 1000000000 * 1000 := Nat.mul_le_mul (by omega) hp2
    have el : Nat.lcm m p = m / Nat.gcd m p * p := by
      rw [Nat.lcm, Nat.mul_comm m p, Nat.mul_div_assoc _ (Nat.gcd_dvd_left m p), Nat.mul_comm]
    have ev : wrap64 ((wrap64 (Int.tdiv (m : Int) ((Nat.gcd m p : Nat) : Int))) * (p : Int)) = ((Nat.lcm m p : Nat) : Int) := by
      have e2 : Int.tdiv (m : Int) ((Nat.gcd m p : Nat) : Int) = ((m / Nat.gcd m p : Nat) : Int) := by rw [Int.tdiv_eq_ediv_of_nonneg (by omega)]; simp
      rw [e2, el]
      clear e2 el eg
      generalize m / Nat.gcd m p = q0 at *
      rw [wrap64_in (n := (q0 : Int)) (by omega) (by omega)]
      have e3 : ((q0 : Int) * (p : Int)) = ((q0 * p : Nat) : Int) := by simp
      rw [e3]
      generalize q0 * p = q at *
      exact wrap64_in (by omega) (by omega)
    have hlp : 1 ≤ Nat.lcm m p := Nat.lcm_pos (by omega) (by omega)
    have ef : lcmF m (l[i] :: l.drop (i + 1)) = lcmF (Nat.lcm m p) (l.drop (i + 1)) := by unfold lcmF; rw [List.foldl_cons, hpp]
    rw [ev, ef]
    clear ev el eg ef
    by_cases hgt : ((Nat.lcm m p : Nat) : Int) > 1000000000
    · rw [if_pos hgt]
      have hge := lcmF_ge (l.drop (i + 1)) (Nat.lcm m p) (by omega) (fun t h => ho t (List.mem_of_mem_drop h))
      rw [if_neg (by omega)]
    · rw [if_neg hgt]
      exact ih (i + 1) k _ (by omega) (by omega) hlp (by omega)
theorem cycle_eq (l : List S35) (hr : rightB l = true) (k : Nat) (hk : 1030 ≤ k) : deadline_Cycle.f k l = some (if lcmF 1 l ≤ 1000000000 then (((lcmF 1 l : Nat) : Int), true) else (0, false)) := by
  have hn : l.length ≤ 16 := by unfold rightB at hr; simp at hr; omega
  unfold deadline_Cycle.f
  rw [right_eq l (by omega) k (by omega), hr]
  simp only [Option.bind_some, if_true]
  exact cyc_loop l hn (right_tasks hr) l.length 0 k 1 (by omega) (by omega) (by omega) (by omega)

def sumOf (c : Int) : List S35 → Int
  | [] => 0
  | t :: r => c / t.f0 * t.f1 + sumOf c r
theorem term_bd {c : Int} {t : S35} (h : okTask t) (hc : 0 ≤ c) (hc1 : c ≤ 1000000000) : 0 ≤ c / t.f0 * t.f1 ∧ c / t.f0 * t.f1 ≤ c := by
  unfold okTask at h
  have h1 : 0 ≤ c / t.f0 := Int.ediv_nonneg hc (by omega)
  have h2 : c / t.f0 * t.f0 ≤ c := Int.ediv_mul_le _ (by omega)
  have h3 : c / t.f0 * t.f1 ≤ c / t.f0 * t.f0 := Int.mul_le_mul_of_nonneg_left (by omega) h1
  exact ⟨Int.mul_nonneg h1 (by omega), by omega⟩
theorem sumOf_bd {c : Int} (hc : 0 ≤ c) (hc1 : c ≤ 1000000000) : ∀ (l : List S35), (∀ t ∈ l, okTask t) → 0 ≤ sumOf c l ∧ sumOf c l ≤ l.length * 1000000000
  | [], _ => by simp [sumOf]
  | t :: r, h => by
    have h1 := term_bd (h t (by simp)) hc hc1
    have h2 := sumOf_bd hc hc1 r (fun t ht => h t (by simp [ht]))
    simp only [sumOf, List.length_cons]
    omega
theorem load_loop (l : List S35) (hl : l.length ≤ 16) (ho : ∀ t ∈ l, okTask t) (c : Int) (hc : 0 ≤ c) (hc1 : c ≤ 1000000000) : ∀ (n i k : Nat) (a : Int), i + n = l.length → n < k → 0 ≤ a → a ≤ i * 1000000000 →
    deadline_Load.l0 k a c l (l.length : Int) (i : Int) = some (a + sumOf c (l.drop i), c, true) := by
  intro n
  induction n with
  | zero =>
    intro i k a hi hk _ _
    obtain ⟨k, rfl⟩ : ∃ m, k = m + 1 := ⟨k - 1, by omega⟩
    rw [deadline_Load.l0, if_neg (by omega), List.drop_of_length_le (by omega)]
    simp [sumOf]
  | succ n ih =>
    intro i k a hi hk ha0 ha
    obtain ⟨k, rfl⟩ : ∃ m, k = m + 1 := ⟨k - 1, by omega⟩
    have hlt : i < l.length := by omega
    have e1 : wrap64 ((i : Int) + 1) = ((i + 1 : Nat) : Int) := by rw [wrap64_in (by omega) (by omega)]; omega
    rw [deadline_Load.l0, if_pos (by omega), if_pos (by omega), if_pos (by omega), rd35_eq hlt, e1, drop35 hlt]
    clear e1
    have hok := ho l[i] (List.getElem_mem hlt)
    have hb := term_bd hok hc hc1
    unfold okTask at hok
    rw [if_neg (by omega), Int.tdiv_eq_ediv_of_nonneg hc]
    have h1 : 0 ≤ c / l[i].f0 := Int.ediv_nonneg hc (by omega)
    have h2 : c / l[i].f0 ≤ c := Int.ediv_le_self _ hc
    rw [wrap64_in (n := c / l[i].f0) (by omega) (by omega), sumOf]
    generalize c / l[i].f0 * l[i].f1 = z at *
    rw [wrap64_in (n := z) (by omega) (by omega), wrap64_in (n := a + z) (by omega) (by omega), ih (i + 1) k (a + z) (by omega) (by omega) (by omega) (by omega), Int.add_assoc]
/-- what Load tells -/
def loadV (l : List S35) : Int × Int × Bool := if lcmF 1 l ≤ 1000000000 then (sumOf (lcmF 1 l : Nat) l, ((lcmF 1 l : Nat) : Int), true) else (0, 0, false)
theorem load_eq (l : List S35) (hr : rightB l = true) (k : Nat) (hk : 1030 ≤ k) : deadline_Load.f k l = some (loadV l) := by
  have hn : l.length ≤ 16 := by unfold rightB at hr; simp at hr; omega
  unfold deadline_Load.f
  rw [cycle_eq l hr k hk]
  simp only [Option.bind_some]
  unfold loadV
  by_cases h : lcmF 1 l ≤ 1000000000
  · have h2 := load_loop l hn (right_tasks hr) ((lcmF 1 l : Nat) : Int) (by omega) (by omega) l.length 0 k 0 (by omega) (by omega) (by omega) (by omega)
    rw [Int.zero_add, List.drop_zero] at h2
    rw [if_pos h, if_pos h, if_pos rfl]
    exact h2
  · rw [if_neg h, if_neg h]; rfl
def fitsB (l : List S35) : Bool := if lcmF 1 l ≤ 1000000000 then decide (sumOf (lcmF 1 l : Nat) l ≤ ((lcmF 1 l : Nat) : Int)) else false
theorem fits_eq (l : List S35) (hr : rightB l = true) (k : Nat) (hk : 1030 ≤ k) : deadline_Fits.f k l = some (fitsB l) := by
  unfold deadline_Fits.f
  rw [load_eq l hr k hk]
  simp only [Option.bind_some]
  unfold loadV fitsB
  by_cases h : lcmF 1 l ≤ 1000000000
  · rw [if_pos h, if_pos h]; rfl
  · rw [if_neg h, if_neg h]; rfl
theorem cycle_no (l : List S35) (hl : l.length ≤ 9223372036854775807) (hr : rightB l = false) (k : Nat) (hk : l.length < k) : deadline_Cycle.f k l = some (0, false) := by
  unfold deadline_Cycle.f
  rw [right_eq l hl k hk, hr]; rfl
theorem fits_no (l : List S35) (hl : l.length ≤ 9223372036854775807) (hr : rightB l = false) (k : Nat) (hk : l.length < k) : deadline_Fits.f k l = some false := by
  unfold deadline_Fits.f deadline_Load.f
  rw [cycle_no l hl hr k hk]; rfl

def divAll (l : List S35) (kk : Nat) : Bool := l.all fun t => decide (per t ∣ kk)
theorem divAll_iff (l : List S35) (kk : Nat) : divAll l kk = true ↔ lcmF 1 l ∣ kk := by
  rw [lcmF_dvd]; simp [divAll]

theorem tmod_per {t : S35} (h : okTask t) (kk : Nat) : (Int.tmod (kk : Int) t.f0 == 0) = decide (per t ∣ kk) := by
  unfold okTask at h
  have e : t.f0 = (per t : Int) := by unfold per; omega
  rw [e, Int.tmod_eq_emod_of_nonneg (by omega), Bool.eq_iff_iff]
  simp only [beq_iff_eq, decide_eq_true_eq]
  rw [← Int.natCast_dvd_natCast]
  exact ⟨Int.dvd_of_emod_eq_zero, Int.emod_eq_zero_of_dvd⟩

section
variable (l : List S35) (c n d : Int) (ok : Bool)
theorem law_l1 (hl : l.length ≤ 16) (ho : ∀ t ∈ l, okTask t) (kk F : Nat) (hkk : kk ≤ 20000) (R : Option Bool)
    (yes : divAll l kk = true → ∀ k, F ≤ k → fuseelaw34_DeadlineLoads.l2 k l c ok n d (kk : Int) 0 l (l.length : Int) 0 = R)
    (no : divAll l kk = false → ∀ k, F ≤ k → fuseelaw34_DeadlineLoads.l0 k l c ok n d ((kk + 1 : Nat) : Int) = R) :
    ∀ (m i k : Nat) (b : Bool), i + m = l.length → m + 1 + F ≤ k → (b && divAll (l.drop i) kk) = divAll l kk →
      fuseelaw34_DeadlineLoads.l1 k l c ok n d (kk : Int) b l (l.length : Int) (i : Int) = R := by
  intro m
  induction m with
  | zero =>
    intro i k b hi hk hb
    obtain ⟨k, rfl⟩ : ∃ m, k = m + 1 := ⟨k - 1, by omega⟩
    rw [List.drop_of_length_le (by omega)] at hb
    have hb' : b = divAll l kk := by rw [← hb]; simp [divAll]
    have e1 : wrap64 ((kk : Int) + 1) = ((kk + 1 : Nat) : Int) := by rw [wrap64_in (by omega) (by omega)]; omega
    rw [fuseelaw34_DeadlineLoads.l1, if_neg (by omega), e1]
    clear e1
    cases b with
    | true => rw [if_pos rfl]; exact yes hb'.symm k (by omega)
    | false => rw [if_neg (by decide)]; exact no hb'.symm k (by omega)
  | succ m ih =>
    intro i k b hi hk hb
    obtain ⟨k, rfl⟩ : ∃ m, k = m + 1 := ⟨k - 1, by omega⟩
    have hlt : i < l.length := by omega
    have e1 : wrap64 ((i : Int) + 1) = ((i + 1 : Nat) : Int) := by rw [wrap64_in (by omega) (by omega)]; omega
    have hok := ho l[i] (List.getElem_mem hlt)
    rw [fuseelaw34_DeadlineLoads.l1, if_pos (by omega), if_pos (by omega), if_pos (by omega), rd35_eq hlt, e1, tmod_per hok]
    clear e1
    rw [drop35 hlt] at hb
    unfold okTask at hok
    cases b with
    | true =>
      rw [if_pos rfl, if_neg (by omega)]
      exact ih (i + 1) k _ (by omega) (by omega) hb
    | false =>
      rw [if_neg (by decide)]
      exact ih (i + 1) k _ (by omega) (by omega) hb

theorem law_l2 (hl : l.length ≤ 16) (ho : ∀ t ∈ l, okTask t) (hr : rightB l = true) (kk : Nat) (hkk : kk ≤ 20000) (hc : lcmF 1 l = kk) :
    ∀ (m i k : Nat) (a : Int), i + m = l.length → m + 1100 ≤ k → 0 ≤ a → a ≤ i * 1000000000 → a + sumOf kk (l.drop i) = sumOf kk l →
      fuseelaw34_DeadlineLoads.l2 k l (kk : Int) true (sumOf kk l) (kk : Int) (kk : Int) a l (l.length : Int) (i : Int) = some true := by
  intro m
  induction m with
  | zero =>
    intro i k a hi hk _ _ hs
    obtain ⟨k, rfl⟩ : ∃ m, k = m + 1 := ⟨k - 1, by omega⟩
    rw [List.drop_of_length_le (by omega)] at hs
    have hs' : sumOf kk l = a := by rw [← hs]; simp [sumOf]
    rw [fuseelaw34_DeadlineLoads.l2, if_neg (by omega), if_pos rfl, if_pos rfl, if_pos rfl, if_pos hs', fits_eq l hr k (by omega)]
    simp only [Option.bind_some]
    unfold fitsB
    rw [hc, if_pos (by omega), hs']
    simp
  | succ m ih =>
    intro i k a hi hk ha0 ha hs
    obtain ⟨k, rfl⟩ : ∃ m, k = m + 1 := ⟨k - 1, by omega⟩
    have hlt : i < l.length := by omega
    have e1 : wrap64 ((i : Int) + 1) = ((i + 1 : Nat) : Int) := by rw [wrap64_in (by omega) (by omega)]; omega
    have hok := ho l[i] (List.getElem_mem hlt)
    have hb := term_bd (c := (kk : Int)) hok (by omega) (by omega)
    rw [fuseelaw34_DeadlineLoads.l2, if_pos (by omega), if_pos (by omega), if_pos (by omega), rd35_eq hlt, e1]
    clear e1
    rw [drop35 hlt, sumOf] at hs
    unfold okTask at hok
    rw [if_neg (by omega), Int.tdiv_eq_ediv_of_nonneg (by omega)]
    have h1 : 0 ≤ (kk : Int) / l[i].f0 := Int.ediv_nonneg (by omega) (by omega)
    have h2 : (kk : Int) / l[i].f0 ≤ kk := Int.ediv_le_self _ (by omega)
    rw [wrap64_in (n := (kk : Int) / l[i].f0) (by omega) (by omega)]
    obtain ⟨z, hz⟩ : ∃ z, (kk : Int) / l[i].f0 * l[i].f1 = z := ⟨_, rfl⟩
    rw [hz] at hs hb ⊢
    rw [wrap64_in (n := z) (by omega) (by omega), wrap64_in (n := a + z) (by omega) (by omega)]
    exact ih (i + 1) k (a + z) (by omega) (by omega) (by omega) (by omega) (by omega)

theorem law_l3 (hl : l.length ≤ 16) (ho : ∀ t ∈ l, okTask t) (hr : rightB l = true) (hc : lcmF 1 l ≤ 1000000000) (hc2 : 20000 < lcmF 1 l) :
    ∀ (m i k : Nat), i + m = l.length → m + 1100 ≤ k →
      fuseelaw34_DeadlineLoads.l3 k l ((lcmF 1 l : Nat) : Int) (sumOf (lcmF 1 l : Nat) l) ((lcmF 1 l : Nat) : Int) l (l.length : Int) (i : Int) = some true := by
  intro m
  induction m with
  | zero =>
    intro i k hi hk
    obtain ⟨k, rfl⟩ : ∃ m, k = m + 1 := ⟨k - 1, by omega⟩
    rw [fuseelaw34_DeadlineLoads.l3, if_neg (by omega), if_pos (by omega), if_pos rfl, fits_eq l hr k (by omega)]
    simp only [Option.bind_some]
    unfold fitsB
    rw [if_pos hc]
    simp
  | succ m ih =>
    intro i k hi hk
    obtain ⟨k, rfl⟩ : ∃ m, k = m + 1 := ⟨k - 1, by omega⟩
    have hlt : i < l.length := by omega
    have e1 : wrap64 ((i : Int) + 1) = ((i + 1 : Nat) : Int) := by rw [wrap64_in (by omega) (by omega)]; omega
    have hok := ho l[i] (List.getElem_mem hlt)
    have ht := tmod_per hok (lcmF 1 l)
    have hd : per l[i] ∣ lcmF 1 l := ((lcmF_dvd (lcmF 1 l) l 1).1 (Nat.dvd_refl _)).2 _ (List.getElem_mem hlt)
    rw [decide_eq_true hd] at ht
    rw [fuseelaw34_DeadlineLoads.l3, if_pos (by omega), if_pos (by omega), if_pos (by omega), rd35_eq hlt, e1]
    clear e1
    unfold okTask at hok
    rw [if_neg (by omega), if_pos (by simpa using ht)]
    exact ih (i + 1) k (by omega) (by omega)
end

def fu (m : Nat) : Nat := m * 20 + 1200
theorem fu_s (m : Nat) : fu (m + 1) = fu m + 20 := by unfold fu; omega
theorem fu_ge (m : Nat) : 1200 ≤ fu m := by unfold fu; omega
theorem law_l0 (l : List S35) (hl : l.length ≤ 16) (ho : ∀ t ∈ l, okTask t) (hr : rightB l = true) :
    ∀ (m kk k : Nat), kk + m = 20001 → fu m ≤ k → 1 ≤ kk → (∀ j, 1 ≤ j → j < kk → ¬ lcmF 1 l ∣ j) →
      fuseelaw34_DeadlineLoads.l0 k l (if lcmF 1 l ≤ 1000000000 then (((lcmF 1 l : Nat) : Int), true) else (0, false)).1 (if lcmF 1 l ≤ 1000000000 then (((lcmF 1 l : Nat) : Int), true) else (0, false)).2 (loadV l).1 (loadV l).2.1 (kk : Int) = some true := by
  have hp := lcmF_pos l 1 (by omega) ho
  intro m
  induction m with
  | zero =>
    intro kk k hk hf h1 hno
    have hge := fu_ge 0
    obtain ⟨k, rfl⟩ : ∃ m, k = m + 1 := ⟨k - 1, by omega⟩
    have hbig : 20000 < lcmF 1 l := by
      rcases Nat.lt_or_ge 20000 (lcmF 1 l) with h | h
      · exact h
      · exact absurd (Nat.dvd_refl _) (hno (lcmF 1 l) hp (by omega))
    rw [fuseelaw34_DeadlineLoads.l0, if_neg (by omega)]
    unfold loadV
    by_cases h : lcmF 1 l ≤ 1000000000
    · rw [if_pos h, if_pos h, if_pos rfl]
      exact law_l3 l hl ho hr h hbig l.length 0 k (by omega) (by omega)
    · rw [if_neg h, if_neg h, if_neg (by decide)]
  | succ m ih =>
    intro kk k hk hf h1 hno
    have hge0 := fu_ge (m + 1)
    obtain ⟨k, rfl⟩ : ∃ m, k = m + 1 := ⟨k - 1, by omega⟩
    rw [fuseelaw34_DeadlineLoads.l0, if_pos (by omega)]
    have hF : l.length + 1 + fu m ≤ k := by have := fu_s m; omega
    have hge := fu_ge m
    refine law_l1 l _ _ _ _ hl ho kk (fu m) (by omega) (some true) ?_ ?_ l.length 0 k true (by omega) hF (by simp)
    · intro hd k hk2
      have hdv := (divAll_iff l kk).1 hd
      have hle := Nat.le_of_dvd (by omega) hdv
      have heq : lcmF 1 l = kk := by
        rcases Nat.lt_or_ge (lcmF 1 l) kk with h | h
        · exact absurd (Nat.dvd_refl _) (hno (lcmF 1 l) hp h)
        · omega
      unfold loadV
      rw [if_pos (by omega), if_pos (by omega), heq]
      exact law_l2 l hl ho hr kk (by omega) heq l.length 0 k 0 (by omega) (by omega) (by omega) (by omega) (by simp)
    · intro hd k hk2
      have hnd : ¬ lcmF 1 l ∣ kk := fun h => by rw [(divAll_iff l kk).2 h] at hd; cases hd
      refine ih (kk + 1) k (by omega) hk2 (by omega) (fun j hj1 hj2 => ?_)
      by_cases e : j = kk
      · subst e; exact hnd
      · exact hno j hj1 (by omega)

theorem loads_law (l : List S35) (hl : l.length ≤ 9223372036854775807) : ∃ k, fuseelaw34_DeadlineLoads.f k l = some true := by
  obtain ⟨q, hq⟩ : ∃ q, q = 500000 := ⟨_, rfl⟩
  refine ⟨q + 1, ?_⟩
  unfold fuseelaw34_DeadlineLoads.f fuseelaw34_fixed.f
  simp only [Option.bind_some, if_true]
  by_cases h30 : (l.length : Int) > 30
  · rw [if_pos h30, fuseelaw34_DeadlineLoads.j0, if_pos rfl]
  · rw [if_neg h30, right2_eq l hl (q + 1) (by omega)]
    simp only [Option.bind_some]
    cases hr : rightB l with
    | false => rw [fuseelaw34_DeadlineLoads.j0]; simp
    | true =>
      have hn : l.length ≤ 16 := by unfold rightB at hr; simp at hr; omega
      have ho := right_tasks hr
      rw [fuseelaw34_DeadlineLoads.j0, if_neg (by decide), cycle_eq l hr q (by omega), load_eq l hr q (by omega)]
      simp only [Option.bind_some]
      have e2 : (loadV l).2.2 = (if lcmF 1 l ≤ 1000000000 then (((lcmF 1 l : Nat) : Int), true) else (0, false)).2 := by unfold loadV; split <;> rfl
      rw [e2, if_neg (by simp)]
      have main : ∀ k, 410000 ≤ k → fuseelaw34_DeadlineLoads.j1 k l (if lcmF 1 l ≤ 1000000000 then (((lcmF 1 l : Nat) : Int), true) else (0, false)).1 (if lcmF 1 l ≤ 1000000000 then (((lcmF 1 l : Nat) : Int), true) else (0, false)).2 (loadV l).1 (loadV l).2.1 false = some true := by
        intro k hk
        obtain ⟨k, rfl⟩ : ∃ m, k = m + 1 := ⟨k - 1, by omega⟩
        rw [fuseelaw34_DeadlineLoads.j1, if_neg (by decide)]
        exact law_l0 l hn ho hr 20000 1 k (by omega) (by unfold fu; omega) (by omega) (fun j h1 h2 => by omega)
      by_cases hc : lcmF 1 l ≤ 1000000000
      · have e3 : (if lcmF 1 l ≤ 1000000000 then (((lcmF 1 l : Nat) : Int), true) else (0, false)).2 = true := by rw [if_pos hc]
        rw [if_pos e3]
        exact main _ (by omega)
      · have e3 : (if lcmF 1 l ≤ 1000000000 then (((lcmF 1 l : Nat) : Int), true) else (0, false)).2 = false := by rw [if_neg hc]
        have e4 : (if lcmF 1 l ≤ 1000000000 then (((lcmF 1 l : Nat) : Int), true) else (0, false)).1 = 0 := by rw [if_neg hc]
        have e5 : loadV l = (0, 0, false) := by unfold loadV; rw [if_neg hc]
        have e6 : fitsB l = false := by unfold fitsB; rw [if_neg hc]
        rw [if_neg (by rw [e3]; decide), if_pos e4, if_pos (by rw [e5]), if_pos (by rw [e5]), fits_eq l hr q (by omega), e6]
        exact main _ (by omega)
end Go.Proofs.Ytcndjkjlgdidoaa.Da
