/- Rows of records: parts, layings, blocks apart; shifts and remainders of numbers. Conditions: none. -/
import Derived.Test.YtdibbcmfgdgdfaaS8
set_option linter.unnecessarySimpa false
set_option linter.unusedVariables false
set_option linter.unusedSimpArgs false
namespace Go.Sp
open Go

theorem upd_mid {x y z : List Value} {o : Nat} (ho : x.length = o) (hz : z.length = y.length) : upd (x ++ y) o z = x ++ z := by
  subst ho
  rw [upd_eq _ _ _ (by simp; omega)]
  simp [hz]
theorem upd_mid2 {x y y2 z : List Value} {o : Nat} (ho : x.length = o) (hz : z.length = y.length) : upd (x ++ (y ++ y2)) o z = x ++ (z ++ y2) := by
  subst ho
  rw [upd_eq _ _ _ (by simp; omega)]
  simp [hz]
section
variable {α : Type} (f : α → List Value) (sz : Nat) (hf : ∀ x, (f x).length = sz)
theorem flat_cut (l : List α) (k : Nat) : l.flatMap f = (l.take k).flatMap f ++ (l.drop k).flatMap f := by rw [← List.flatMap_append, List.take_append_drop]
include hf
theorem flat_takeM (l : List α) (k : Nat) : (l.flatMap f).take (k * sz) = (l.take k).flatMap f := by
  by_cases h : k ≤ l.length
  · rw [flat_cut f l k]
    have : ((l.take k).flatMap f).length = k * sz := by rw [flat_len f sz hf, List.length_take, Nat.min_eq_left h]
    rw [← this, List.take_left]
  · rw [List.take_of_length_le, List.take_of_length_le (by omega)]
    rw [flat_len f sz hf]; exact Nat.mul_le_mul_right _ (by omega)
theorem flat_dropM (l : List α) (k : Nat) : (l.flatMap f).drop (k * sz) = (l.drop k).flatMap f := by
  by_cases h : k ≤ l.length
  · rw [flat_cut f l k]
    have : ((l.take k).flatMap f).length = k * sz := by rw [flat_len f sz hf, List.length_take, Nat.min_eq_left h]
    rw [← this, List.drop_left]
  · rw [List.drop_of_length_le, List.drop_of_length_le (by omega)]; rfl
    rw [flat_len f sz hf]; exact Nat.mul_le_mul_right _ (by omega)
theorem SrcOf.part {S : Option Addr} {cap ty n : Nat} {l : List α} (k q : Nat) (hq : k + q ≤ n) : SrcOf (Grow S cap ty sz n (l.flatMap f)) (subS S k cap sz) (((l.drop k).take q).flatMap f) := by
  have := SrcOf.sub (S := S) (cap := cap) (ty := ty) (sz := sz) (n := n) (cs := l.flatMap f) k q hq
  rwa [flat_dropM f sz hf, flat_takeM f sz hf] at this
theorem SrcOf.pre {S : Option Addr} {cap ty n : Nat} {l : List α} (q : Nat) (hq : q ≤ n) : SrcOf (Grow S cap ty sz n (l.flatMap f)) S ((l.take q).flatMap f) := by
  have := SrcOf.part f sz hf (S := S) (cap := cap) (ty := ty) (n := n) (l := l) 0 q (by omega)
  rw [subS_zero] at this; simpa using this
theorem SrcOf.suf {S : Option Addr} {cap ty n : Nat} {l : List α} (hl : l.length = n) (k : Nat) (hq : k ≤ n) : SrcOf (Grow S cap ty sz n (l.flatMap f)) (subS S k cap sz) ((l.drop k).flatMap f) := by
  have := SrcOf.part f sz hf (S := S) (cap := cap) (ty := ty) (n := n) (l := l) k (n - k) (by omega)
  rwa [List.take_of_length_le (by simp; omega)] at this
/-- records laid over records -/
theorem flat_lay (l m : List α) (k : Nat) (h : k + m.length ≤ l.length) : upd (l.flatMap f) (k * sz) (m.flatMap f) = (l.take k ++ (m ++ l.drop (k + m.length))).flatMap f := by
  rw [flat_cut f l k, List.flatMap_append, List.flatMap_append, flat_cut f (l.drop k) m.length, List.drop_drop]
  refine upd_mid2 (by rw [flat_len f sz hf, List.length_take, Nat.min_eq_left (by omega)]) ?_
  rw [flat_len f sz hf, flat_len f sz hf, List.length_take, List.length_drop, Nat.min_eq_left (by omega)]
end

def insA {α : Type} (l : List α) (k : Nat) (a : α) : List α := l.take k ++ a :: l.drop k
theorem insA_end {α : Type} (l : List α) (a : α) {n : Nat} (h : l.length = n) : l ++ [a] = insA l n a := by subst h; simp [insA]
theorem insA_len {α : Type} (l : List α) (k : Nat) (a : α) (h : k ≤ l.length) : (insA l k a).length = l.length + 1 := by simp [insA]; omega
theorem take_upd {cs vs : List Value} {o : Nat} (h : o + vs.length ≤ cs.length) : (upd cs o vs).take o = cs.take o := by
  rw [upd_eq _ _ _ h, List.append_assoc, List.take_append_of_le_length (by simp; omega), List.take_take, Nat.min_self]
section
variable {α : Type} (f : α → List Value) (sz : Nat) (hf : ∀ x, (f x).length = sz)
include hf
theorem del_cut (l : List α) {n k : Nat} (hl : l.length = n) (hk : k < n) {z : List Value} (hz : z.length = sz) :
    (upd ((l.take k ++ (l.drop (k + 1) ++ l.drop (k + (l.drop (k + 1)).length))).flatMap f) ((n - 1) * sz) z).take ((n - 1) * sz) = (l.eraseIdx k).flatMap f := by
  have hlen : ((l.take k ++ (l.drop (k + 1) ++ l.drop (k + (l.drop (k + 1)).length))).flatMap f).length = n * sz := by
    rw [flat_len f sz hf]; congr 1; simp; omega
  rw [take_upd (by rw [hlen, hz, ← Nat.succ_mul]; exact Nat.mul_le_mul_right _ (by omega)), flat_takeM f sz hf]
  congr 1
  rw [List.eraseIdx_eq_take_drop_succ, ← List.append_assoc, List.take_append_of_le_length (by simp; omega), List.take_of_length_le (by simp; omega)]
theorem lay1 (l : List α) (a : α) {i q : Nat} (hi : i ≤ l.length) (hq : 0 < q) {zs : List Value} (hz : zs.length = sz) :
    upd ((l.flatMap f).take (i * sz) ++ (List.replicate q zs).flatten) (i * sz) (f a) = (l.take i ++ [a]).flatMap f ++ (List.replicate (q - 1) zs).flatten := by
  obtain ⟨q, rfl⟩ : ∃ p, q = p + 1 := ⟨q - 1, by omega⟩
  rw [flat_takeM f sz hf, List.replicate_succ, List.flatten_cons, upd_mid2 (by rw [flat_len f sz hf, List.length_take, Nat.min_eq_left hi]) (by rw [hf, hz])]
  simp
theorem lay2 (l : List α) (a : α) {i q : Nat} (hi : i ≤ l.length) (hq : q = l.length - i) {zs : List Value} (hz : zs.length = sz) :
    upd ((l.take i ++ [a]).flatMap f ++ (List.replicate q zs).flatten) ((i + 1) * sz) ((l.drop i).flatMap f) = (insA l i a).flatMap f := by
  rw [upd_mid (by rw [flat_len f sz hf]; simp [Nat.min_eq_left hi]) (by rw [flat_len f sz hf]; simp [hz, hq])]
  simp [insA]
theorem lay3 (l : List α) {i : Nat} (hi : i < l.length) {junk : List Value} (hj : junk.length = 1 * sz) :
    upd (l.flatMap f ++ junk) ((i + 1) * sz) ((l.drop i).flatMap f) = (l.take (i + 1) ++ l.drop i).flatMap f := by
  rw [flat_cut f l (i + 1), List.append_assoc, upd_mid (by rw [flat_len f sz hf, List.length_take, Nat.min_eq_left (by omega)]) ?_]
  · rw [List.flatMap_append]
  · rw [List.length_append, flat_len f sz hf, flat_len f sz hf, hj, List.length_drop, List.length_drop, ← Nat.add_mul]; congr 1; omega
theorem lay4 (l : List α) (a : α) {i : Nat} (hi : i < l.length) : upd ((l.take (i + 1) ++ l.drop i).flatMap f) (i * sz) (f a) = (insA l i a).flatMap f := by
  have h := flat_lay f sz hf (l.take (i + 1) ++ l.drop i) [a] i (by simp; omega)
  have e1 : ([a].flatMap f) = f a := by simp
  rw [e1] at h
  rw [h]; congr 1
  rw [List.take_append_of_le_length (by simp; omega), List.take_take, Nat.min_eq_left (by omega), List.length_singleton]
  rw [List.drop_append_of_le_length (by simp; omega), List.drop_of_length_le (by simp; omega)]
  simp [insA]
theorem src3 {S : Option Addr} {cap ty n : Nat} {l : List α} (hl : l.length = n) (i : Nat) (hi : i ≤ n) (junk : List Value) : SrcOf (Grow S cap ty sz (n + 1) (l.flatMap f ++ junk)) (subS S i cap sz) ((l.drop i).flatMap f) := by
  have := SrcOf.sub (S := S) (cap := cap) (ty := ty) (sz := sz) (n := n + 1) (cs := l.flatMap f ++ junk) i (n - i) (by omega)
  have e : ((l.flatMap f ++ junk).drop (i * sz)).take ((n - i) * sz) = (l.drop i).flatMap f := by
    rw [List.drop_append_of_le_length (by rw [flat_len f sz hf]; exact Nat.mul_le_mul_right _ (by omega)), flat_dropM f sz hf, List.take_append_of_le_length (by rw [flat_len f sz hf, List.length_drop]; exact Nat.mul_le_mul_right _ (by omega)), List.take_of_length_le (by rw [flat_len f sz hf, List.length_drop]; exact Nat.mul_le_mul_right _ (by omega))]
  rwa [e] at this
end

section
variable {α : Type} (f : α → List Value) (sz : Nat) (hf : ∀ x, (f x).length = sz)
include hf
/-- a whole record laid over a record -/
theorem flat_set1 (l : List α) (i : Nat) (x : α) (h : i < l.length) : upd (l.flatMap f) (i * sz) (f x) = (l.set i x).flatMap f := by
  have h1 := flat_lay f sz hf l [x] i (by simp; omega)
  have e1 : ([x].flatMap f) = f x := by simp
  rw [e1] at h1
  rw [h1, List.set_eq_take_append_cons_drop, if_pos h]; rfl
theorem clear_cut (l : List α) {n k : Nat} (hl : l.length = n) (hk : k ≤ n) {z : List Value} (hz : z.length = (n - k) * sz) : (upd (l.flatMap f) (k * sz) z).take (k * sz) = (l.take k).flatMap f := by
  rw [take_upd (by rw [hz, flat_len f sz hf, hl, ← Nat.add_mul]; exact Nat.mul_le_mul_right _ (by omega)), flat_takeM f sz hf]
end

/-- two chunks own blocks of their own -/
theorem Owns.apart {A : List Asn} {F : Hp} {w : World} (ho : Owns A F w) {i j : Nat} (hij : i < j) {B D : Asn} (hi : A[i]? = some B) (hj : A[j]? = some D) : ∃ hb hd : Hp, B hb ∧ D hd ∧ hb.disj hd ∧ hb.le w ∧ hd.le w := by
  have h1 := Owns.perm (lift_at hi) ho
  obtain ⟨hb, k1, k2, k3⟩ := h1
  have hj' : (A.eraseIdx i)[j - 1]? = some D := by
    rw [List.getElem?_eraseIdx, if_neg (by omega), show j - 1 + 1 = j by omega]; exact hj
  have h2 := Owns.perm (lift_at hj') k3
  obtain ⟨hd, k4, k5, k6⟩ := h2
  have k7 := Hp.disj_join.1 k5
  refine ⟨hb, hd, k1, k4, Hp.disj_symm k7.1, ?_, Hp.le_left (Owns.le k6)⟩
  exact Hp.le_left (Owns.le k3)

/-- slices.overlaps of a row of one and the rest of a row, in blocks of their own -/
theorem run_apart {P : Program} {t ty e sz bytes vb b o la ca lb cb kb : Nat} {zs : List Value} (hT : ElemT P t e sz bytes zs) {w : World} {A : List Asn} {F : Hp} (ho : Owns A F w) {i j : Nat} (hij : i ≠ j) {vt n cap : Nat} {vs cs : List Value} {S : Option Addr}
    (hi : A[i]? = some (Cells vb vt vs)) (hj : A[j]? = some (Grow S cap e sz n cs)) (hS : S = some ⟨b, 0, none⟩) (hcap : 0 < cap) :
    (Extern.SlicesOverlaps.overlaps #[t, t] #[ty] #[.slice (some ⟨vb, 0, none⟩) la ca, .slice (some ⟨b, o, none⟩) lb cb]).run P w = .ok (.bool false) w := by
  subst hS
  have key : ∃ hb hd : Hp, Cells vb vt vs hb ∧ Grow (some ⟨b, 0, none⟩) cap e sz n cs hd ∧ hb.disj hd ∧ hb.le w ∧ hd.le w := by
    rcases Nat.lt_or_gt_of_ne hij with h | h
    · exact Owns.apart ho h hi hj
    · obtain ⟨x, y, h1, h2, h3, h4, h5⟩ := Owns.apart ho h hj hi
      exact ⟨y, x, h2, h1, Hp.disj_symm h3, h5, h4⟩
  obtain ⟨hb, hd, h1, ⟨h2, h2'⟩, h3, h4, h5⟩ := key
  rcases h2' with ⟨h, _⟩ | ⟨b', cur, he, k3, k4, k5, k6, k7⟩
  · cases h
  · cases he
    have hv := h4 _ _ h1
    have hg := h5 _ _ k3
    have hne : vb ≠ b := fun h => by
      subst h
      rcases h3 vb with h | h
      · unfold Cells at h1; rw [h] at h1; cases h1
      · rw [h] at k3; cases k3
    obtain ⟨inf, z, hi', hz, rfl, rfl, hzc, hzl, hpos⟩ := hT.hi
    refine Lib.run_overlaps_apart w t ty e hT.ht inf.size (elem_size hT) ⟨vb, 0, none⟩ ⟨b, o, none⟩ la ca lb cb hne vt e vs.length cur.length ?_ ?_ ?_ ?_ ?_
    · simp [World.shape?, hv]
    · simp [World.shape?, hg]
    · rw [k6]; exact Nat.ne_of_gt (Nat.mul_pos hcap hpos)
    · simp [World.frozen?, hv]
    · simp [World.frozen?, hv]

theorem run_over {P : Program} {t ty e sz bytes vb b la ca lb cb k : Nat} {zs : List Value} (hT : ElemT P t e sz bytes zs) {f : FuncId} {fn : Func} (hf : P.funcs[f]? = some fn) (hname : (fn.name == "runtime.NumGoroutine") = false)
    (hb : fn.body.isNone = true) (hn : Extern.findNext fn = none) (he : Extern.find fn = some (Extern.SlicesOverlaps.overlaps #[t, t] #[ty])) {w : World} {A : List Asn} {F : Hp} (ho : Owns A F w) {i j : Nat} (hij : i ≠ j) {vt n cap : Nat} {vs cs : List Value}
    (hi : A[i]? = some (Cells vb vt vs)) (hj : A[j]? = some (Grow (some ⟨b, 0, none⟩) cap e sz n cs)) (hcap : 0 < cap) :
    (callFunc f #[.slice (some ⟨vb, 0, none⟩) la ca, .slice (subS (some ⟨b, 0, none⟩) k cap sz) lb cb]).run P w = .ok (.value (.bool false)) w := by
  rw [run_callFunc_extern hf hname hb hn he]
  have : subS (some ⟨b, 0, none⟩) k cap sz = some ⟨b, if cap = k then 0 else k * sz, none⟩ := by
    unfold subS; split <;> simp [add_none]
  rw [this, run_apart (kb := 0) hT ho hij hi hj rfl hcap]; rfl
theorem emptyRow_at {A : List Asn} {A' : List Asn} {F : Hp} {w : World} {j b ty sz : Nat} (hk : A[j]? = some (Cells b ty [])) (hA : A.set j (Grow (some ⟨b, 0, none⟩) 0 ty sz 0 []) = A') (ho : Owns A F w) : Owns A' F w := by
  subst hA
  exact Owns.perm (set_at hk).symm (emptyRow (Owns.perm (lift_at hk) ho))
theorem Grow.cases {A : List Asn} {F : Hp} {w : World} {j : Nat} {S : Option Addr} {cap ty sz n : Nat} {cs : List Value} (ho : Owns A F w) (hk : A[j]? = Option.some (Grow S cap ty sz n cs)) : (S = none ∧ n = 0 ∧ cap = 0) ∨ ∃ b, S = Option.some ⟨b, 0, none⟩ := by
  obtain ⟨h, ⟨h1, h2⟩, h3⟩ := Owns.get ho hk
  rcases h2 with h | ⟨b, cur, h, _⟩
  · exact .inl h
  · exact .inr ⟨b, h⟩

/-! ### numbers -/
theorem wrap_u64 {n : Int} (h0 : 0 ≤ n) (h1 : n ≤ 18446744073709551615) : IntKind.u64.wrap n = n := by
  simp [IntKind.wrap, IntKind.bits, IntKind.signed]; omega
theorem u64_in {a b : Int} (e : a = b) (h0 : 0 ≤ b) (h1 : b ≤ 18446744073709551615) : Value.int .u64 (IntKind.u64.wrap a) = Value.int .u64 b := by rw [e, wrap_u64 h0 h1]
theorem wrap_u8 {n : Int} (h0 : 0 ≤ n) (h1 : n ≤ 255) : IntKind.u8.wrap n = n := by
  simp [IntKind.wrap, IntKind.bits, IntKind.signed]; omega
/-- a remainder of any number -/
theorem pv_remT {P : Program} {k : IntKind} {a b r : Int} (hb : b ≠ 0) (hr : a.tmod b = r) : peval P (vN (Op.intDiv .rem k a b)) = some (.value (.int k r)) := by
  subst hr
  simp only [vN, Op.intDiv, if_neg hb, bind, pure, Sem.bind, peval]
theorem shr_in {a : Int} {s m : Nat} (hs : s ≤ 63) (ha : 0 ≤ a) (hm : (2 : Int) ^ s = m) (k j : IntKind) (hk : s ≤ k.bits) {P : Program} : peval P (vN (Op.shift .shr k a j (s : Int))) = some (.value (.int k (a / m))) := by
  have h0 : ¬ ((s : Int) < 0) := by omega
  have h1 : min (s : Int).toNat k.bits = s := by rw [Int.toNat_natCast]; exact Nat.min_eq_left hk
  simp only [vN, Op.shift, if_neg h0, h1, bind, pure, Sem.bind, peval]
  rw [hm, Int.fdiv_eq_ediv_of_nonneg _ (by omega)]
theorem shr_var {a s : Int} (h0 : 0 ≤ s) (h1 : s ≤ 63) (k j : IntKind) (hk : k.bits = 64) {P : Program} : peval P (vN (Op.shift .shr k a j s)) = some (.value (.int k (a / 2 ^ s.toNat))) := by
  have h2 : ¬ (s < 0) := by omega
  have h3 : min s.toNat k.bits = s.toNat := by rw [hk]; omega
  have h4 : (0 : Int) ≤ 2 ^ s.toNat := by exact_mod_cast Nat.zero_le _
  simp only [vN, Op.shift, if_neg h2, h3, bind, pure, Sem.bind, peval]
  rw [Int.fdiv_eq_ediv_of_nonneg _ h4]
theorem tmod_pos {a b : Int} (h : 0 ≤ a) : a.tmod b = a % b := Int.tmod_eq_emod_of_nonneg h
theorem tmod_lt {a b : Int} (hb : 0 < b) : -b < a.tmod b ∧ a.tmod b < b := by
  rcases Int.le_total 0 a with h | h
  · rw [tmod_pos h]; have := Int.emod_lt_of_pos a hb; have := Int.emod_nonneg a (show b ≠ 0 by omega); omega
  · have h1 : a.tmod b = - ((-a).tmod b) := by rw [Int.neg_tmod]; simp
    rw [h1, tmod_pos (by omega)]; have := Int.emod_lt_of_pos (-a) hb; have := Int.emod_nonneg (-a) (show b ≠ 0 by omega); omega
theorem tmod_emod {a b : Int} (hb : 0 < b) : (a.tmod b + b) % b = a % b := by
  rw [Int.add_emod_right]
  rcases Int.le_total 0 a with h | h
  · rw [tmod_pos h, Int.emod_emod]
  · have h1 : a.tmod b = - ((-a).tmod b) := by rw [Int.neg_tmod]; simp
    rw [h1, tmod_pos (by omega)]
    have h2 := Int.mul_ediv_add_emod (-a) b
    have h3 : - ((-a) % b) = a + b * (-a / b) := by omega
    rw [h3, Int.add_mul_emod_self_left]
theorem pv_and1 {P : Program} {a : Int} (h0 : 0 ≤ a) (h1 : a ≤ 9223372036854775807) : peval P (vN (Op.intBits .and .i64 a 1)) = some (.value (.int .i64 (a % 2))) := by
  obtain ⟨n, rfl⟩ := Int.eq_ofNat_of_zero_le h0
  have h2 : (BitVec.ofInt IntKind.i64.bits (n : Int) &&& BitVec.ofInt IntKind.i64.bits 1).toNat = n % 2 := by
    have : n % 18446744073709551616 = n := Nat.mod_eq_of_lt (by omega)
    have h3 : (BitVec.ofInt IntKind.i64.bits (n : Int)).toNat = n := by
      simp only [IntKind.bits, BitVec.toNat_ofInt]; omega
    have h4 : (BitVec.ofInt IntKind.i64.bits (1 : Int)).toNat = 1 := by decide
    rw [BitVec.toNat_and, h3, h4, Nat.and_one_is_mod]
  simp only [vN, Op.intBits, bind, pure, Sem.bind, peval, h2]
  rw [wrap_i64 (by omega) (by omega)]
  congr 1
end Go.Sp
