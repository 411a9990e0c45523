import Derived.Test.YtfpheadbcemmiaaScQ
import Derived.Test.YtfpheadbcemmiaaPScx5
namespace Go.Proofs.Ytfpheadbcemmiaa.Sc
open Go.RowKit Go.Proofs.YtfpheadbcemmiaaW.PrintWords Go.Proofs.YtfpheadbcemmiaaW.PrintLast Go.Proofs.YtfpheadbcemmiaaW.PrintMore
open PSc
set_option linter.unusedVariables false
set_option linter.unusedSimpArgs false

def cs (l : List Nat) : List Int := List.map (fun n : Nat => (n : Int)) l
theorem cs_len (l : List Nat) : (cs l).length = l.length := by simp [cs]
theorem cs_rd (l : List Nat) (i : Nat) : rd (cs l) (i : Int) = ((l.getD i 0 : Nat) : Int) := by
  unfold rd cs
  simp only [Int.toNat_natCast, List.getD_eq_getElem?_getD, List.getElem?_map]
  cases l[i]? <;> rfl
theorem cs_set (l : List Nat) (i v : Nat) : (cs l).set i (v : Int) = cs (l.set i v) := by
  unfold cs; rw [List.map_set]

def val : List Nat → Nat
  | [] => 0
  | d :: r => d + 65536 * val r
theorem val_set (v : Nat) : ∀ (l : List Nat) (i : Nat), i < l.length → val (l.set i v) + l.getD i 0 * 65536 ^ i = val l + v * 65536 ^ i
  | [], i, h => by simp at h
  | d :: r, 0, h => by simp [val]; omega
  | d :: r, i + 1, h => by
    have ih := val_set v r i (by simpa using h)
    simp only [List.set_cons_succ, val, List.getD_cons_succ, Nat.pow_succ, ← Nat.mul_assoc]
    have e1 : r.getD i 0 * 65536 ^ i * 65536 = 65536 * (r.getD i 0 * 65536 ^ i) := Nat.mul_comm _ _
    have e2 : v * 65536 ^ i * 65536 = 65536 * (v * 65536 ^ i) := Nat.mul_comm _ _
    rw [e1, e2]
    omega
theorem val_take : ∀ (l : List Nat) (i : Nat), i < l.length → val (l.take (i + 1)) = val (l.take i) + l.getD i 0 * 65536 ^ i
  | [], i, h => by simp at h
  | d :: r, 0, h => by simp [val]
  | d :: r, i + 1, h => by
    have ih := val_take r i (by simpa using h)
    simp only [List.take_succ_cons, val, List.getD_cons_succ, Nat.pow_succ, ← Nat.mul_assoc, ih]
    have e1 : r.getD i 0 * 65536 ^ i * 65536 = 65536 * (r.getD i 0 * 65536 ^ i) := Nat.mul_comm _ _
    rw [e1]; omega
def Dig (l : List Nat) : Prop := ∀ j, l.getD j 0 < 65536
theorem Dig.set {l : List Nat} (h : Dig l) (i v : Nat) (hv : v < 65536) : Dig (l.set i v) := by
  intro j
  rw [List.getD_eq_getElem?_getD, List.getElem?_set]
  split
  · split
    · exact hv
    · simp
  · have := h j; rwa [List.getD_eq_getElem?_getD] at this
theorem getD_set_ne {l : List Nat} {i j : Nat} (v : Nat) (h : i ≠ j) : (l.set i v).getD j 0 = l.getD j 0 := by
  rw [List.getD_eq_getElem?_getD, List.getElem?_set_ne h, ← List.getD_eq_getElem?_getD]
theorem getD_set_eq {l : List Nat} {i : Nat} (v : Nat) (h : i < l.length) : (l.set i v).getD i 0 = v := by
  rw [List.getD_eq_getElem?_getD, List.getElem?_set_self h]; rfl
theorem val_tail : ∀ {l : List Nat}, Dig l → val l < 65536 ^ l.length
  | [], _ => by simp [val]
  | d :: r, h => by
    have ih := val_tail (l := r) (fun j => by have := h (j + 1); simpa using this)
    have := h 0
    simp only [val, List.length_cons, Nat.pow_succ] at *
    simp at this
    omega
theorem val_div : ∀ {l : List Nat} (i : Nat), Dig l → i < l.length → val l / 65536 ^ i = val l / 65536 ^ (i + 1) * 65536 + l.getD i 0
  | [], i, _, h => by simp at h
  | d :: r, 0, h, _ => by
    have := h 0; simp at this
    simp [val]; omega
  | d :: r, i + 1, h, hi => by
    have ih := val_div (l := r) i (fun j => by have := h (j + 1); simpa using this) (by simpa using hi)
    have := h 0; simp at this
    have e1 : ∀ n, val (d :: r) / 65536 ^ (n + 1) = val r / 65536 ^ n := by
      intro n
      rw [Nat.pow_succ, Nat.mul_comm, ← Nat.div_div_eq_div_mul]
      congr 1
      simp only [val]; omega
    rw [e1, e1, List.getD_cons_succ]
    exact ih

/-! the product -/
def dg (a i : Nat) : Nat := a / 65536 ^ i % 65536
theorem dg_lt (a i : Nat) : dg a i < 65536 := Nat.mod_lt _ (by decide)
theorem mod_succ (a i : Nat) : a % 65536 ^ (i + 1) = a % 65536 ^ i + 65536 ^ i * dg a i := Nat.mod_pow_succ
theorem shr_dg (a i : Nat) (hi : i ≤ 4) : Int.tmod (shr .i64 (a : Int) (wrap64 (16 * (i : Int)))) 65536 = (dg a i : Int) := by
  have e : wrap64 (16 * (i : Int)) = ((16 * i : Nat) : Int) := by rw [wrap64_in (by omega) (by omega)]; omega
  rw [e]
  unfold shr
  have : min ((16 * i : Nat) : Int).toNat IntKind.i64.bits = 16 * i := by simp [IntKind.bits]; omega
  rw [this]
  have e3 : (2 : Int) ^ (16 * i) = ((65536 ^ i : Nat) : Int) := by
    rw [show (65536 : Nat) = 2 ^ 16 from rfl, ← Nat.pow_mul]; simp
  have e2 : (a : Int) / 2 ^ (16 * i) = ((a / 65536 ^ i : Nat) : Int) := by
    rw [e3]; simp
  rw [e2, Int.tmod_eq_emod_of_nonneg (Int.natCast_nonneg _)]
  unfold dg
  generalize a / 65536 ^ i = q
  clear e2 e3 e this
  omega

structure Inv0 (a b i : Nat) (out : List Nat) : Prop where
  len : out.length = 9
  dig : Dig out
  zero : ∀ j, i + 4 ≤ j → out.getD j 0 = 0
  v : val out = (a % 65536 ^ i) * (b % 65536 ^ 4)
structure Inv1 (a b i k : Nat) (out : List Nat) (c : Nat) : Prop where
  len : out.length = 9
  dig : Dig out
  zero : ∀ j, i + 4 ≤ j → out.getD j 0 = 0
  cb : c < 65536
  v : val out + c * 65536 ^ (i + k) = (a % 65536 ^ i) * (b % 65536 ^ 4) + dg a i * 65536 ^ i * (b % 65536 ^ k)
def Fin (a b : Nat) (r : List Nat) : Prop := r.length = 9 ∧ Dig r ∧ val r = (a % 65536 ^ 4) * (b % 65536 ^ 4)

theorem mul_bd {x y : Nat} (hx : x < 65536) (hy : y < 65536) : x * y ≤ 4294836225 := Nat.mul_le_mul (Nat.le_of_lt_succ hx) (Nat.le_of_lt_succ hy)

theorem prod_l1 (a b i F : Nat) (hi : i < 4) (next : ∀ k, F ≤ k → ∀ out, Inv0 a b (i + 1) out → ∃ r, fuseeref04_product.l0 k (a : Int) (b : Int) (cs out) ((i + 1 : Nat) : Int) = some (cs r) ∧ Fin a b r) :
    ∀ (n kk k : Nat), kk + n = 4 → n + 1 + F ≤ k → ∀ (out : List Nat) (c : Nat), Inv1 a b i kk out c → ∃ r, fuseeref04_product.l1 k (a : Int) (b : Int) (cs out) (i : Int) (c : Int) (kk : Int) = some (cs r) ∧ Fin a b r := by
  intro n
  induction n with
  | zero =>
    intro kk k hkk hk out c I
    obtain ⟨k, rfl⟩ : ∃ m, k = m + 1 := ⟨k - 1, by omega⟩
    have : kk = 4 := by omega
    subst this
    have h9 := I.len
    have hc := I.cb
    have hz := I.zero (i + 4) (Nat.le_refl _)
    have e4 : wrap64 ((i : Int) + 4) = ((i + 4 : Nat) : Int) := by rw [wrap64_in (by omega) (by omega)]; omega
    have e1 : wrap64 ((i : Int) + 1) = ((i + 1 : Nat) : Int) := by rw [wrap64_in (by omega) (by omega)]; omega
    have ev : wrap64 (rd (cs out) ((i + 4 : Nat) : Int) + (c : Int)) = (c : Int) := by rw [cs_rd, hz, wrap64_in (by omega) (by omega)]; omega
    rw [fuseeref04_product.l1, e4, e1, ev, cs_len, h9]
    rw [if_neg (by omega), if_pos (by omega), if_pos (by omega), Int.toNat_natCast, cs_set]
    refine next k (by omega) _ ⟨by simp [h9], I.dig.set _ _ hc, ?_, ?_⟩
    · intro j hj
      rw [getD_set_ne _ (by omega)]; exact I.zero j (by omega)
    · have h1 := val_set c out (i + 4) (by omega)
      rw [hz] at h1
      have h2 := I.v
      rw [mod_succ, Nat.add_mul]
      have e : 65536 ^ i * dg a i = dg a i * 65536 ^ i := Nat.mul_comm _ _
      rw [e]; omega
  | succ n ih =>
    intro kk k hkk hk out c I
    obtain ⟨k, rfl⟩ : ∃ m, k = m + 1 := ⟨k - 1, by omega⟩
    have h9 := I.len
    have hc := I.cb
    have hd := I.dig (i + kk)
    have e1 : wrap64 ((i : Int) + (kk : Int)) = ((i + kk : Nat) : Int) := by rw [wrap64_in (by omega) (by omega)]; omega
    have e2 : wrap64 ((kk : Int) + 1) = ((kk + 1 : Nat) : Int) := by rw [wrap64_in (by omega) (by omega)]; omega
    have g1 : 0 ≤ wrap64 (16 * (i : Int)) := by rw [wrap64_in (by omega) (by omega)]; omega
    have g2 : 0 ≤ wrap64 (16 * (kk : Int)) := by rw [wrap64_in (by omega) (by omega)]; omega
    have hx := dg_lt a i
    have hy := dg_lt b kk
    have hxy := mul_bd hx hy
    have et : wrap64 (wrap64 (rd (cs out) ((i + kk : Nat) : Int) + wrap64 ((dg a i : Int) * (dg b kk : Int))) + (c : Int)) = ((out.getD (i + kk) 0 + dg a i * dg b kk + c : Nat) : Int) := by
      rw [cs_rd]
      have : ((dg a i : Int) * (dg b kk : Int)) = ((dg a i * dg b kk : Nat) : Int) := by simp
      rw [this]
      generalize dg a i * dg b kk = z at *
      generalize out.getD (i + kk) 0 = o at *
      rw [wrap64_in (n := (z : Int)) (by omega) (by omega), wrap64_in (n := (o : Int) + z) (by omega) (by omega), wrap64_in (by omega) (by omega)]; omega
    rw [fuseeref04_product.l1, if_pos (by omega), if_pos g1, if_pos g2, e1, if_pos (by omega), cs_len, h9, if_pos (by omega), shr_dg a i (by omega), shr_dg b kk (by omega), et, e2, Int.toNat_natCast]
    obtain ⟨t, ht⟩ : ∃ t, out.getD (i + kk) 0 + dg a i * dg b kk + c = t := ⟨_, rfl⟩
    rw [ht]
    have etm : Int.tmod (t : Int) 65536 = ((t % 65536 : Nat) : Int) := by rw [Int.tmod_eq_emod_of_nonneg (by omega)]; omega
    have etd : wrap64 (Int.tdiv (t : Int) 65536) = ((t / 65536 : Nat) : Int) := by
      rw [Int.tdiv_eq_ediv_of_nonneg (by omega), wrap64_in (by omega) (by omega)]; omega
    rw [etm, etd, cs_set]
    clear etm etd et g1 g2 e1 e2
    refine ih (kk + 1) k (by omega) (by omega) _ _ ⟨by simp [h9], I.dig.set _ _ (Nat.mod_lt _ (by decide)), ?_, by omega, ?_⟩
    · intro j hj
      rw [getD_set_ne _ (by omega)]; exact I.zero j (by omega)
    · have h1 := val_set (t % 65536) out (i + kk) (by omega)
      have h2 := I.v
      have hW : 65536 ^ (i + (kk + 1)) = 65536 ^ (i + kk) * 65536 := by rw [← Nat.add_assoc, Nat.pow_succ]
      have hWW : 65536 ^ (i + kk) = 65536 ^ i * 65536 ^ kk := Nat.pow_add ..
      rw [mod_succ b kk, Nat.mul_add]
      have e5 : dg a i * 65536 ^ i * (65536 ^ kk * dg b kk) = dg a i * dg b kk * 65536 ^ (i + kk) := by
        rw [hWW]; simp only [Nat.mul_comm, Nat.mul_left_comm, Nat.mul_assoc]
      rw [e5, hW]
      clear ih next hW hWW e5
      generalize 65536 ^ (i + kk) = Wd at *
      generalize out.getD (i + kk) 0 = o at *
      generalize dg a i * dg b kk = z at *
      have e6 : t / 65536 * (Wd * 65536) + t % 65536 * Wd = t * Wd := by
        have : t / 65536 * (Wd * 65536) = t / 65536 * 65536 * Wd := by rw [Nat.mul_comm Wd, Nat.mul_assoc]
        rw [this, ← Nat.add_mul, Nat.div_add_mod']
      have e7 : t * Wd = o * Wd + z * Wd + c * Wd := by rw [← ht, Nat.add_mul, Nat.add_mul]
      omega

theorem prod_l0 (a b : Nat) : ∀ (n i k : Nat), i + n = 4 → 6 * n + 1 ≤ k → ∀ out, Inv0 a b i out → ∃ r, fuseeref04_product.l0 k (a : Int) (b : Int) (cs out) (i : Int) = some (cs r) ∧ Fin a b r := by
  intro n
  induction n with
  | zero =>
    intro i k hi hk out I
    obtain ⟨k, rfl⟩ : ∃ m, k = m + 1 := ⟨k - 1, by omega⟩
    have : i = 4 := by omega
    subst this
    exact ⟨out, by rw [fuseeref04_product.l0, if_neg (by omega)], I.len, I.dig, I.v⟩
  | succ n ih =>
    intro i k hi hk out I
    obtain ⟨k, rfl⟩ : ∃ m, k = m + 1 := ⟨k - 1, by omega⟩
    rw [fuseeref04_product.l0, if_pos (by omega)]
    refine prod_l1 a b i (6 * n + 1) (by omega) (fun k hk out I => ih (i + 1) k (by omega) hk out I) 4 0 k (by omega) (by omega) out 0 ⟨I.len, I.dig, I.zero, by decide, ?_⟩
    rw [I.v]; simp [Nat.mod_one]

theorem rep0 (n j : Nat) : (List.replicate n (0 : Nat)).getD j 0 = 0 := by
  rw [List.getD_eq_getElem?_getD, List.getElem?_replicate]; split <;> rfl
theorem prod_eq (a b k : Nat) (hk : 25 ≤ k) (ha : a < 18446744073709551616) (hb : b < 18446744073709551616) : ∃ r : List Nat, fuseeref04_product.f k (a : Int) (b : Int) = some (cs r) ∧ r.length = 9 ∧ Dig r ∧ val r = a * b := by
  obtain ⟨r, h1, h2, h3, h4⟩ := prod_l0 a b 4 0 k (by omega) (by omega) (List.replicate 9 0) ⟨by simp, fun j => by rw [rep0]; decide, fun j _ => rep0 9 j, by simp [Nat.mod_one]; decide⟩
  refine ⟨r, ?_, h2, h3, ?_⟩
  · unfold fuseeref04_product.f
    rw [if_pos (by decide)]
    exact h1
  · rw [h4, Nat.mod_eq_of_lt (by simpa using ha), Nat.mod_eq_of_lt (by simpa using hb)]

/-! the half -/
structure InvH (d : List Nat) (i : Nat) (out : List Nat) : Prop where
  len : out.length = 9
  dig : Dig out
  same : ∀ j, i ≤ j → out.getD j 0 = d.getD j 0
  low : ∀ j, j + 1 = i → out.getD j 0 ≤ 32767
  v : 2 * val out + val (d.take i) + (if i = 0 then 0 else d.getD 0 0 % 2) = 2 * val d

theorem val_mod : ∀ (d : List Nat), val d % 2 = d.getD 0 0 % 2
  | [] => rfl
  | x :: r => by simp [val]; omega

theorem half_loop (d : List Nat) (hd9 : d.length = 9) (hdd : Dig d) : ∀ (n i k : Nat), i + n = 9 → n + 1 ≤ k → ∀ out, InvH d i out →
    ∃ r, fuseeref04_half.l0 k (cs out) 9 (i : Int) = some (cs r) ∧ r.length = 9 ∧ Dig r ∧ val r = val d / 2 := by
  intro n
  induction n with
  | zero =>
    intro i k hi hk out I
    obtain ⟨k, rfl⟩ : ∃ m, k = m + 1 := ⟨k - 1, by omega⟩
    have : i = 9 := by omega
    subst this
    refine ⟨out, by rw [fuseeref04_half.l0, if_neg (by omega)], I.len, I.dig, ?_⟩
    have h1 := I.v
    rw [List.take_of_length_le (by omega), if_neg (by decide)] at h1
    have h2 := val_mod d
    omega
  | succ n ih =>
    intro i k hi hk out I
    obtain ⟨k, rfl⟩ : ∃ m, k = m + 1 := ⟨k - 1, by omega⟩
    have h9 := I.len
    have hx := I.same i (Nat.le_refl _)
    have hxd := hdd i
    have hi9 : i < 9 := by omega
    have hv := I.v
    have ht := val_take d i (by omega)
    have e1 : wrap64 ((i : Int) + 1) = ((i + 1 : Nat) : Int) := by rw [wrap64_in (by omega) (by omega)]; omega
    obtain ⟨x, hx0⟩ : ∃ x, d.getD i 0 = x := ⟨_, rfl⟩
    rw [hx0] at hx hxd ht
    have ed : wrap64 (Int.tdiv (rd (cs out) (i : Int)) 2) = ((x / 2 : Nat) : Int) := by
      rw [cs_rd, hx, Int.tdiv_eq_ediv_of_nonneg (by omega), wrap64_in (by omega) (by omega)]; omega
    have em : Int.tmod (rd (cs out) (i : Int)) 2 = ((x % 2 : Nat) : Int) := by
      rw [cs_rd, hx, Int.tmod_eq_emod_of_nonneg (by omega)]; omega
    have h1 := val_set (x / 2) out i (by omega)
    rw [hx] at h1
    have hdig1 : Dig (out.set i (x / 2)) := I.dig.set _ _ (by omega)
    rw [fuseeref04_half.l0, if_pos (by omega), if_pos (by omega), cs_len, h9, if_pos (by omega), ed, em, Int.toNat_natCast, cs_set, e1]
    simp only [Option.bind_some]
    clear e1 ed em
    have hmul : 2 * (x / 2 * 65536 ^ i) + x % 2 * 65536 ^ i = x * 65536 ^ i := by
      have : 2 * (x / 2 * 65536 ^ i) = (2 * (x / 2)) * 65536 ^ i := by rw [Nat.mul_assoc]
      rw [this, ← Nat.add_mul, Nat.div_add_mod]
    by_cases hi0 : i = 0
    · subst hi0
      rw [if_neg (by omega)]
      refine ih 1 k (by omega) (by omega) _ ⟨by simp [h9], hdig1, ?_, ?_, ?_⟩
      · intro j hj
        rw [getD_set_ne _ (by omega)]; exact I.same j (by omega)
      · intro j hj
        have : j = 0 := by omega
        subst this
        rw [getD_set_eq _ (by omega)]; omega
      · rw [if_neg (by decide), hx0]
        rw [if_pos rfl] at hv
        simp only [Nat.pow_zero, Nat.mul_one, Nat.zero_add] at *
        omega
    · rw [if_pos (by omega)]
      rw [if_neg hi0] at hv
      by_cases hodd : x % 2 = 1
      · rw [if_pos (by omega)]
        obtain ⟨p, rfl⟩ : ∃ p, i = p + 1 := ⟨i - 1, by omega⟩
        have e2 : wrap64 (((p + 1 : Nat) : Int) - 1) = (p : Int) := by rw [wrap64_in (by omega) (by omega)]; omega
        rw [e2, if_pos (by omega), if_pos (by omega)]
        clear e2
        have hl := I.low p rfl
        have e3 : wrap64 (rd (cs (out.set (p + 1) (x / 2))) (p : Int) + 32768) = ((out.getD p 0 + 32768 : Nat) : Int) := by
          rw [cs_rd, getD_set_ne _ (by omega), wrap64_in (by omega) (by omega)]; omega
        rw [e3, Int.toNat_natCast, cs_set]
        clear e3
        have h2 := val_set (out.getD p 0 + 32768) (out.set (p + 1) (x / 2)) p (by simp; omega)
        rw [getD_set_ne _ (by omega)] at h2
        refine ih (p + 1 + 1) k (by omega) (by omega) _ ⟨by simp [h9], hdig1.set _ _ (by omega), ?_, ?_, ?_⟩
        · intro j hj
          rw [getD_set_ne _ (by omega), getD_set_ne _ (by omega)]; exact I.same j (by omega)
        · intro j hj
          have : j = p + 1 := by omega
          subst this
          rw [getD_set_ne _ (by omega), getD_set_eq _ (by omega)]; omega
        · rw [if_neg (by omega)]
          rw [hodd, Nat.one_mul] at hmul
          have hW : 65536 ^ (p + 1) = 65536 ^ p * 65536 := Nat.pow_succ ..
          rw [Nat.add_mul] at h2
          generalize 65536 ^ (p + 1) = Wp at *
          generalize 65536 ^ p = Wq at *
          omega
      · rw [if_neg (by omega)]
        refine ih (i + 1) k (by omega) (by omega) _ ⟨by simp [h9], hdig1, ?_, ?_, ?_⟩
        · intro j hj
          rw [getD_set_ne _ (by omega)]; exact I.same j (by omega)
        · intro j hj
          have : j = i := by omega
          subst this
          rw [getD_set_eq _ (by omega)]; omega
        · rw [if_neg (by omega)]
          have h0 : x % 2 = 0 := by omega
          rw [h0, Nat.zero_mul] at hmul
          omega

theorem half_eq (d : List Nat) (k : Nat) (hk : 10 ≤ k) (hd9 : d.length = 9) (hdd : Dig d) : ∃ r : List Nat, fuseeref04_half.f k (cs d) = some (cs r) ∧ r.length = 9 ∧ Dig r ∧ val r = val d / 2 := by
  obtain ⟨r, h1, h2⟩ := half_loop d hd9 hdd 9 0 k (by omega) (by omega) d ⟨hd9, hdd, fun _ _ => rfl, fun j h => by omega, by simp [val]⟩
  refine ⟨r, ?_, h2⟩
  unfold fuseeref04_half.f
  simp only [Option.bind_some, List.length_nil, Nat.zero_add, List.nil_append, cs_len, hd9]
  rw [if_pos (by decide)]
  exact h1

/-! the number -/
theorem horner (l : List Nat) (h9 : l.length = 9) (hd : Dig l) : ∀ (i k : Nat), i ≤ 9 → i + 1 ≤ k → val l / 65536 ^ i ≤ 4611686018427387903 →
    fuseeref04_Nanos.l1 k (cs l) ((val l / 65536 ^ i : Nat) : Int) ((i : Int) - 1) = some ((min (val l) 4611686018427387903 : Nat) : Int) := by
  intro i
  induction i with
  | zero =>
    intro k hi hk hn
    obtain ⟨k, rfl⟩ : ∃ m, k = m + 1 := ⟨k - 1, by omega⟩
    simp only [Nat.pow_zero, Nat.div_one] at *
    rw [fuseeref04_Nanos.l1, if_neg (by omega), mn_le (by omega)]
    congr 1
    omega
  | succ i ih =>
    intro k hi hk hn
    obtain ⟨k, rfl⟩ : ∃ m, k = m + 1 := ⟨k - 1, by omega⟩
    have hdiv := val_div i hd (by omega)
    have hdi := hd i
    have hle : 70368744177664 ≤ val l / 65536 ^ (i + 1) → min (val l) 4611686018427387903 = 4611686018427387903 := by
      intro hb
      have h1 : val l / 65536 ^ i ≤ val l := Nat.div_le_self _ _
      omega
    have htop : i = 8 → val l / 65536 ^ (i + 1) = 0 := by
      intro e; subst e
      have := val_tail hd; rw [h9] at this
      exact Nat.div_eq_of_lt this
    have e0 : ((i + 1 : Nat) : Int) - 1 = (i : Int) := by omega
    rw [e0]
    obtain ⟨q, hq⟩ : ∃ q, val l / 65536 ^ (i + 1) = q := ⟨_, rfl⟩
    rw [hq] at hdiv hn hle htop ⊢
    have e1 : wrap64 ((i : Int) - 1) = (i : Int) - 1 := wrap64_in (by omega) (by omega)
    have step : q < 70368744177664 → fuseeref04_Nanos.l1 k (cs l) (wrap64 ((wrap64 ((q : Int) * 65536)) + (rd (cs l) (i : Int)))) (wrap64 ((i : Int) - 1)) = some ((min (val l) 4611686018427387903 : Nat) : Int) := by
      intro hqb
      have e2 : wrap64 ((wrap64 ((q : Int) * 65536)) + (rd (cs l) (i : Int))) = ((val l / 65536 ^ i : Nat) : Int) := by
        rw [cs_rd, wrap64_in (n := (q : Int) * 65536) (by omega) (by omega), wrap64_in (by omega) (by omega), hdiv]; omega
      rw [e2, e1]
      exact ih k (by omega) (by omega) (by omega)
    rw [fuseeref04_Nanos.l1, if_pos (by omega), cs_len, h9]
    clear e0 e1 hq
    by_cases hb : 70368744177664 ≤ q
    · have hi8 : i ≠ 8 := fun e => by have := htop e; omega
      rw [if_pos (by omega), if_pos (by omega), if_pos (by omega), if_pos (by omega), hle hb]
      by_cases hr : rd (cs l) (i : Int) > 0
      · rw [if_pos hr, if_pos (by omega)]; rfl
      · rw [if_neg hr, if_pos (by omega), if_pos (by omega)]; rfl
    · rw [if_neg (by omega), if_pos (by omega), if_pos (by omega)]
      exact step (by omega)

theorem ref_loop (s : Nat) (hs : s ≤ 32) : ∀ (n j k : Nat), j + n = s → n + 12 ≤ k → ∀ (l : List Nat), l.length = 9 → Dig l →
    fuseeref04_Nanos.l0 k (s : Int) (cs l) (j : Int) = some ((min (val l / 2 ^ n) 4611686018427387903 : Nat) : Int) := by
  intro n
  induction n with
  | zero =>
    intro j k hj hk l h9 hd
    obtain ⟨k, rfl⟩ : ∃ m, k = m + 1 := ⟨k - 1, by omega⟩
    rw [fuseeref04_Nanos.l0, if_neg (by omega)]
    have h0 : val l / 65536 ^ 9 = 0 := by
      have := val_tail hd; rw [h9] at this
      exact Nat.div_eq_of_lt this
    have := horner l h9 hd 9 k (by omega) (by omega) (by rw [h0]; decide)
    rw [h0] at this
    rw [Nat.pow_zero, Nat.div_one]
    exact this
  | succ n ih =>
    intro j k hj hk l h9 hd
    obtain ⟨k, rfl⟩ : ∃ m, k = m + 1 := ⟨k - 1, by omega⟩
    rw [fuseeref04_Nanos.l0, if_pos (by omega)]
    obtain ⟨r, h1, h2, h3, h4⟩ := half_eq l k (by omega) h9 hd
    have e1 : wrap64 ((j : Int) + 1) = ((j + 1 : Nat) : Int) := by rw [wrap64_in (by omega) (by omega)]; omega
    rw [h1, e1]
    simp only [Option.bind_some]
    rw [ih (j + 1) k (by omega) (by omega) r h2 h3, h4, Nat.div_div_eq_div_mul, Nat.pow_succ, Nat.mul_comm 2]

theorem ref_eq (f s k : Nat) (c : Int) (hk : 64 ≤ k) (hf : f < 4294967296) (hs : s ≤ 32) : fuseeref04_Nanos.f k (f : Int) (s : Int) c = some ((NN f s (cl c) : Nat) : Int) := by
  have hc := cl_le c
  obtain ⟨r, h1, h2, h3, h4⟩ := prod_eq f (cl c) k (by omega) (by omega) (by omega)
  unfold fuseeref04_Nanos.f
  rw [cl_eq, h1]
  simp only [Option.bind_some]
  have := ref_loop s hs s 0 k (by omega) (by omega) r h2 h3
  rw [h4, Nat.mul_comm] at this
  exact this
end Go.Proofs.Ytfpheadbcemmiaa.Sc
