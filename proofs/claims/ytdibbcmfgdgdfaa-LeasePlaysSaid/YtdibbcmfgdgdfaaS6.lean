/- Lists of numbers and of records as rows of cells. Conditions: none. -/
import Derived.Test.YtdibbcmfgdgdfaaS5
set_option linter.unusedSimpArgs false
set_option linter.unnecessarySimpa false
set_option linter.unusedVariables false
namespace Go.Sp
open Go

def ints (l : List Int) : List Value := l.map (Value.int .i64)
theorem ints_get {l : List Int} {k : Nat} (h : k < l.length) : (ints l)[k]? = some (.int .i64 (l.getD k 0)) := by
  simp [ints, h]
theorem ints_upd {l : List Int} {k : Nat} {x : Int} : upd (ints l) k [.int .i64 x] = ints (l.set k x) := by
  simp [upd, ints, List.map_set]
theorem ints_len (l : List Int) : (ints l).length = l.length := by simp [ints]
theorem ints_app (l : List Int) (x : Int) : ints l ++ [.int .i64 x] = ints (l ++ [x]) := by simp [ints]
theorem ints_zero (n : Nat) : (List.replicate n [Value.int .i64 0]).flatten = ints (List.replicate n 0) := by
  induction n with
  | zero => rfl
  | succ n ih => rw [List.replicate_succ, List.flatten_cons, ih, List.replicate_succ]; rfl

theorem getD_some {α : Type} {l : List α} {k : Nat} {d : α} (h : k < l.length) : l[k]? = some (l.getD k d) := by simp [h]

theorem flat_set {α : Type} (f : α → List Value) (sz : Nat) (hf : ∀ x, (f x).length = sz) : ∀ (l : List α) (i c : Nat) (x y : α) (v : Value), l[i]? = some x → (f x).set c v = f y → c < sz → (l.flatMap f).set (i * sz + c) v = (l.set i y).flatMap f
  | [], i, c, x, y, v, h, _, _ => by simp at h
  | z :: l, 0, c, x, y, v, h, hy, hc => by
    simp at h; subst h
    rw [List.flatMap_cons, List.set_append_left _ _ (by rw [hf]; omega)]
    simp [hy]
  | z :: l, i + 1, c, x, y, v, h, hy, hc => by
    rw [List.flatMap_cons, List.set_append_right _ _ (by rw [hf, Nat.succ_mul]; omega), hf, show (i + 1) * sz + c - sz = i * sz + c by rw [Nat.succ_mul]; omega]
    rw [flat_set f sz hf l i c x y v (by simpa using h) hy hc]; simp
theorem flat_upd1 {α : Type} (f : α → List Value) (sz : Nat) (hf : ∀ x, (f x).length = sz) {l : List α} {i c : Nat} {x y : α} {v : Value} (h : l[i]? = some x) (hy : (f x).set c v = f y) (hc : c < sz) : upd (l.flatMap f) (i * sz + c) [v] = (l.set i y).flatMap f := by
  simp only [upd]; exact flat_set f sz hf l i c x y v h hy hc
theorem flat_len {α : Type} (f : α → List Value) (sz : Nat) (hf : ∀ x, (f x).length = sz) (l : List α) : (l.flatMap f).length = l.length * sz := by
  induction l with
  | nil => simp
  | cons x l ih => simp [ih, hf, Nat.succ_mul]; omega
theorem flat_app {α : Type} (f : α → List Value) (l : List α) (x : α) : l.flatMap f ++ f x = (l ++ [x]).flatMap f := by simp

/-- rows that came in -/
def InW (W : World) (S : Option Addr) (cs : List Value) : Prop := ∀ j v, cs[j]? = some v → S = some ⟨blk S, ofs S, none⟩ ∧ W.cell? ⟨blk S, ofs S + j, none⟩ = some v
theorem Rd.inW {W : World} {S : Option Addr} {cs : List Value} (h : InW W S cs) {j : Nat} {v : Value} (hc : cs[j]? = some v) : Rd (Whole W) (blk S) (ofs S + j) v := Rd.whole (h j v hc).2
/-- rows that lie in a chunk that is only read -/
def InB (B : Asn) (S : Option Addr) (cs : List Value) : Prop := ∀ j v, cs[j]? = some v → S = some ⟨blk S, ofs S, none⟩ ∧ Rd B (blk S) (ofs S + j) v
theorem Rd.inB {B : Asn} {S : Option Addr} {cs : List Value} (h : InB B S cs) {j : Nat} {v : Value} (hc : cs[j]? = some v) : Rd B (blk S) (ofs S + j) v := (h j v hc).2
theorem InB.base {B : Asn} {S : Option Addr} {cs : List Value} (h : InB B S cs) (hp : 0 < cs.length) : S = some ⟨blk S, ofs S, none⟩ := (h 0 _ (List.getElem?_eq_getElem hp)).1
theorem InB.cells {b ty : Nat} {cs : List Value} : InB (Cells b ty cs) (some ⟨b, 0, none⟩) cs := fun j v hj => ⟨rfl, by simpa [blk, ofs] using Rd.cells hj⟩
theorem InB.whole {W : World} {S : Option Addr} {cs : List Value} (h : InW W S cs) : InB (Whole W) S cs := fun j v hj => ⟨(h j v hj).1, Rd.inW h hj⟩
theorem shutV {A B D : List Asn} {v val : Value} {F : Hp} {w : World} (hv : v = val) (is : List Nat) (hp : pickAt is A = some (B, D)) (ho : Owns A F w) : Owns [star (fact (v = val) :: B)] F w := by
  subst hv; exact shutS is hp ho

/-! ### slices of rows -/
theorem pv_sliceHi {P : Program} {t el sz : Nat} {S : Option Addr} {b n cap m : Nat} {k : IntKind} {i : Int} (ht : peval P (underlying t) = some (.slice el)) (hs : peval P (sizeOf el) = some sz) (h0 : 0 ≤ i) (h1 : i ≤ cap) (hS : S = some ⟨b, 0, none⟩) (hm : i.toNat = m) :
    peval P (vN (Instr.sliceAt t (.slice S n cap) none (some (.int k i)) none)) = some (.value (.slice (some ⟨b, 0, none⟩) m cap)) := by
  subst hS; subst hm
  have e1 : ∀ {α β : Type} (x : α) (f : α → Sem β), (Sem.pure x).bind f = f x := fun _ _ => rfl
  have h2 : peval P (Instr.sliceBounds true n cap none (some (.int k i)) none) = some (0, i.toNat, cap) := by
    simp only [Instr.sliceBounds, Instr.sliceBound, asIntOf, bind, pure, e1, if_pos (And.intro h0 h1)]; rfl
  have h3 : peval P (Instr.sliceAt t (.slice (some ⟨b, 0, none⟩) n cap) none (some (.int k i)) none) = some (.slice (some ⟨b, 0, none⟩) i.toNat cap) := by
    simp only [Instr.sliceAt, bind, pure]
    rw [peval_bind ht]
    simp only [Instr.slice, bind, pure]
    rw [peval_bind ht]
    simp only
    rw [peval_bind h2]
    simp only
    rw [peval_bind hs]
    simp only [peval, Nat.sub_zero, Nat.zero_mul]
    congr 2
    split
    · rfl
    · simp [Addr.add]
  unfold vN
  exact (peval_bind h3).trans rfl
theorem pv_sliceLo {P : Program} {t el sz : Nat} {S : Option Addr} {b n cap m : Nat} {k : IntKind} {i : Int} (ht : peval P (underlying t) = some (.slice el)) (hs : peval P (sizeOf el) = some sz) (h0 : 0 ≤ i) (h1 : i ≤ n) (hc : n ≤ cap) (hS : S = some ⟨b, 0, none⟩) (hm : i.toNat = m) :
    peval P (vN (Instr.sliceAt t (.slice S n cap) (some (.int k i)) none none)) = some (.value (.slice (some ⟨b, if cap = m then 0 else m * sz, none⟩) (n - m) (cap - m))) := by
  subst hS; subst hm
  have e1 : ∀ {α β : Type} (x : α) (f : α → Sem β), (Sem.pure x).bind f = f x := fun _ _ => rfl
  have h2 : peval P (Instr.sliceBounds true n cap (some (.int k i)) none none) = some (i.toNat, n, cap) := by
    simp only [Instr.sliceBounds, Instr.sliceBound, asIntOf, bind, pure, e1, if_pos (And.intro h0 h1)]; rfl
  have h3 : peval P (Instr.sliceAt t (.slice (some ⟨b, 0, none⟩) n cap) (some (.int k i)) none none) = some (.slice (some ⟨b, if cap = i.toNat then 0 else i.toNat * sz, none⟩) (n - i.toNat) (cap - i.toNat)) := by
    simp only [Instr.sliceAt, bind, pure]
    rw [peval_bind ht]
    simp only [Instr.slice, bind, pure]
    rw [peval_bind ht]
    simp only
    rw [peval_bind h2]
    simp only
    rw [peval_bind hs]
    simp only [peval]
    congr 2
    split
    · rfl
    · simp [add_none]
  unfold vN
  exact (peval_bind h3).trans rfl
/-- a part of a row that grows -/
theorem RdL.grow {S : Option Addr} {cap ty sz n : Nat} {cs : List Value} {o : Nat} {vs : List Value} (h : ∀ k u, vs[k]? = some u → cs[o + k]? = some u) : RdL (Grow S cap ty sz n cs) (blk S) o vs :=
  RdL.of fun k u hk => Rd.grow (h k u hk)
theorem flat_take {α : Type} (f : α → List Value) (sz : Nat) (hf : ∀ x, (f x).length = sz) (l : List α) (m : Nat) (hm : m ≤ l.length) (k : Nat) (u : Value) (h : ((l.take m).flatMap f)[k]? = some u) : (l.flatMap f)[0 + k]? = some u := by
  have : l.flatMap f = (l.take m).flatMap f ++ (l.drop m).flatMap f := by rw [← List.flatMap_append, List.take_append_drop]
  rw [this, Nat.zero_add, List.getElem?_append_left (List.getElem?_eq_some_iff.1 h).1]; exact h
theorem flat_drop {α : Type} (f : α → List Value) (sz : Nat) (hf : ∀ x, (f x).length = sz) (l : List α) (m cap : Nat) (hm : m ≤ l.length) (hc : l.length ≤ cap) (k : Nat) (u : Value) (h : ((l.drop m).flatMap f)[k]? = some u) : (l.flatMap f)[(if cap = m then 0 else m * sz) + k]? = some u := by
  have hlt := (List.getElem?_eq_some_iff.1 h).1
  rw [flat_len f sz hf] at hlt
  by_cases he : cap = m
  · have : (l.drop m).length = 0 := by simp; omega
    rw [this] at hlt; simp at hlt
  · rw [if_neg he]
    have : l.flatMap f = (l.take m).flatMap f ++ (l.drop m).flatMap f := by rw [← List.flatMap_append, List.take_append_drop]
    rw [this, List.getElem?_append_right (by rw [flat_len f sz hf]; simp; rw [Nat.min_eq_left hm]; omega)]
    rw [flat_len f sz hf, List.length_take, Nat.min_eq_left hm, Nat.add_sub_cancel_left]; exact h
theorem flat_one {α : Type} (f : α → List Value) (hf : ∀ x, (f x).all oneC = true) (l : List α) : (l.flatMap f).all oneC = true := by
  rw [List.all_flatMap, List.all_eq_true]; exact fun x _ => hf x
/-- an empty block is an empty row -/
theorem emptyRow {b ty sz : Nat} {A : List Asn} {F : Hp} {w : World} (ho : Owns (Cells b ty [] :: A) F w) : Owns (Grow (some ⟨b, 0, none⟩) 0 ty sz 0 [] :: A) F w := by
  obtain ⟨h, h1, h2, h3⟩ := ho
  have h4 : Grow (some ⟨b, 0, none⟩) 0 ty sz 0 [] h := ⟨by simp, .inr ⟨b, [], rfl, h1, Nat.le_refl _, by unfold maxLen; omega, by simp, by simp⟩⟩
  exact ⟨h, h4, h2, h3⟩
theorem Op.imp {C : Cx} {ops : Array Oper} {e : Env} {i : Nat} {A : List Asn} {J J' : Env → List Asn → Prop} (h : OpEff C ops e i A J) (hJ : ∀ e' A', J e' A' → J' e' A') : OpEff C ops e i A J' :=
  fun T w F hf ho N Q hq hN => h T w F hf ho N Q hq (fun e' A' T' w' hj => hN e' A' T' w' (hJ e' A' hj))
end Go.Sp
