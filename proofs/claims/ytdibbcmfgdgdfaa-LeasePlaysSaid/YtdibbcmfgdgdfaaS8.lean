/- Rows that may be none: their parts, copies, appends in place, rows made behind a part, rows that overlap. Conditions: none. -/
import Derived.Test.YtdibbcmfgdgdfaaS7
import Derived.Laws.CopyRow
import Derived.Laws.IdiomCopy
import Derived.Laws.Externs
import Derived.Lib.Overlaps
set_option linter.unnecessarySimpa false
set_option linter.unusedVariables false
set_option linter.unusedSimpArgs false
namespace Go.Sp
open Go

theorem add_zero (a : Addr) : a.add 0 = a := by simp [Addr.add]
def subS (S : Option Addr) (k cap sz : Nat) : Option Addr := if cap = k then S else S.map (·.add (k * sz))
theorem subS_zero (S : Option Addr) (cap sz : Nat) : subS S 0 cap sz = S := by
  unfold subS; split
  · rfl
  · cases S <;> simp [add_zero]

theorem pv_slice {P : Program} {t el sz : Nat} {S : Option Addr} {n cap l h m : Nat} {lo hi mx : Option Value} (ht : peval P (underlying t) = some (.slice el)) (hs : peval P (sizeOf el) = some sz)
    (hb : peval P (Instr.sliceBounds true n cap lo hi mx) = some (l, h, m)) : peval P (vN (Instr.sliceAt t (.slice S n cap) lo hi mx)) = some (.value (.slice (subS S l m sz) (h - l) (m - l))) := by
  have h3 : peval P (Instr.sliceAt t (.slice S n cap) lo hi mx) = some (.slice (subS S l m sz) (h - l) (m - l)) := by
    simp only [Instr.sliceAt, bind, pure]
    rw [peval_bind ht]
    simp only [Instr.slice, bind, pure]
    rw [peval_bind ht]
    simp only
    rw [peval_bind hb]
    simp only
    rw [peval_bind hs]
    rfl
  unfold vN
  exact (peval_bind h3).trans rfl
theorem pure_bind_ {α β : Type} (x : α) (f : α → Sem β) : (Sem.pure x).bind f = f x := rfl
theorem sb_hi {P : Program} {n cap m : Nat} {k : IntKind} {i : Int} (h0 : 0 ≤ i) (h1 : i ≤ cap) (hm : i.toNat = m) : peval P (Instr.sliceBounds true n cap none (some (.int k i)) none) = some (0, m, cap) := by
  subst hm; simp only [Instr.sliceBounds, Instr.sliceBound, asIntOf, bind, pure, pure_bind_, if_pos (And.intro h0 h1)]; rfl
theorem sb_lo {P : Program} {n cap m : Nat} {k : IntKind} {i : Int} (h0 : 0 ≤ i) (h1 : i ≤ n) (hm : i.toNat = m) : peval P (Instr.sliceBounds true n cap (some (.int k i)) none none) = some (m, n, cap) := by
  subst hm; simp only [Instr.sliceBounds, Instr.sliceBound, asIntOf, bind, pure, pure_bind_, if_pos (And.intro h0 h1)]; rfl
theorem sb_lh {P : Program} {n cap l m : Nat} {k k' : IntKind} {i j : Int} (h0 : 0 ≤ i) (h1 : i ≤ (j.toNat : Nat)) (h2 : 0 ≤ j) (h3 : j ≤ cap) (hl : i.toNat = l) (hm : j.toNat = m) : peval P (Instr.sliceBounds true n cap (some (.int k i)) (some (.int k' j)) none) = some (l, m, cap) := by
  subst hm; subst hl; simp only [Instr.sliceBounds, Instr.sliceBound, asIntOf, bind, pure, pure_bind_, if_pos (And.intro h0 h1), if_pos (And.intro h2 h3)]; rfl
theorem sb_3 {P : Program} {n cap l m x : Nat} {k k' k'' : IntKind} {i j q : Int} (h0 : 0 ≤ i) (h1 : i ≤ (j.toNat : Nat)) (h2 : 0 ≤ j) (h3 : j ≤ (q.toNat : Nat)) (h4 : 0 ≤ q) (h5 : q ≤ cap) (hl : i.toNat = l) (hm : j.toNat = m) (hx : q.toNat = x) :
    peval P (Instr.sliceBounds true n cap (some (.int k i)) (some (.int k' j)) (some (.int k'' q))) = some (l, m, x) := by
  subst hm; subst hl; subst hx
  simp only [Instr.sliceBounds, Instr.sliceBound, asIntOf, bind, pure, pure_bind_, if_pos (And.intro h0 h1), if_pos (And.intro h2 h3), if_pos (And.intro h4 h5)]; rfl
/-- s[:k] -/
theorem pv_sliceHiO {P : Program} {t el sz : Nat} {S : Option Addr} {n cap m : Nat} {k : IntKind} {i : Int} (ht : peval P (underlying t) = some (.slice el)) (hs : peval P (sizeOf el) = some sz) (h0 : 0 ≤ i) (h1 : i ≤ cap) (hm : i.toNat = m) :
    peval P (vN (Instr.sliceAt t (.slice S n cap) none (some (.int k i)) none)) = some (.value (.slice S m cap)) := by
  have h := pv_slice (S := S) (n := n) (lo := none) (mx := none) ht hs (sb_hi (k := k) h0 h1 hm)
  rw [subS_zero] at h; simpa using h
/-- s[k:] -/
theorem pv_sliceLoO {P : Program} {t el sz : Nat} {S : Option Addr} {n cap m : Nat} {k : IntKind} {i : Int} (ht : peval P (underlying t) = some (.slice el)) (hs : peval P (sizeOf el) = some sz) (h0 : 0 ≤ i) (h1 : i ≤ n) (hm : i.toNat = m) :
    peval P (vN (Instr.sliceAt t (.slice S n cap) (some (.int k i)) none none)) = some (.value (.slice (subS S m cap sz) (n - m) (cap - m))) := pv_slice ht hs (sb_lo h0 h1 hm)
theorem pv_sliceLH {P : Program} {t el sz : Nat} {S : Option Addr} {n cap l m : Nat} {k k' : IntKind} {i j : Int} (ht : peval P (underlying t) = some (.slice el)) (hs : peval P (sizeOf el) = some sz) (h0 : 0 ≤ i) (h1 : i ≤ (j.toNat : Nat)) (h2 : 0 ≤ j) (h3 : j ≤ cap) (hl : i.toNat = l) (hm : j.toNat = m) :
    peval P (vN (Instr.sliceAt t (.slice S n cap) (some (.int k i)) (some (.int k' j)) none)) = some (.value (.slice (subS S l cap sz) (m - l) (cap - l))) := pv_slice ht hs (sb_lh h0 h1 h2 h3 hl hm)
theorem pv_slice3 {P : Program} {t el sz : Nat} {S : Option Addr} {n cap l m x : Nat} {k k' k'' : IntKind} {i j q : Int} (ht : peval P (underlying t) = some (.slice el)) (hs : peval P (sizeOf el) = some sz) (h0 : 0 ≤ i) (h1 : i ≤ (j.toNat : Nat)) (h2 : 0 ≤ j) (h3 : j ≤ (q.toNat : Nat)) (h4 : 0 ≤ q) (h5 : q ≤ cap) (hl : i.toNat = l) (hm : j.toNat = m) (hx : q.toNat = x) :
    peval P (vN (Instr.sliceAt t (.slice S n cap) (some (.int k i)) (some (.int k' j)) (some (.int k'' q)))) = some (.value (.slice (subS S l x sz) (m - l) (x - l))) := pv_slice ht hs (sb_3 h0 h1 h2 h3 h4 h5 hl hm hx)

/-- what a row that begins at X holds, read off a chunk -/
def SrcOf (B : Asn) (X : Option Addr) (vs : List Value) : Prop := ∀ h, B h → vs = [] ∨ ∃ b o, X = some ⟨b, o, none⟩ ∧ ∀ j v, vs[j]? = some v → ∃ arr ty fz, h b = some (.cells arr ty fz) ∧ arr[o + j]? = some v
theorem SrcOf.rdl {B : Asn} {b o : Nat} {vs : List Value} (h : RdL B b o vs) : SrcOf B (some ⟨b, o, none⟩) vs := fun hp h1 => .inr ⟨b, o, rfl, fun j v hj => h.at_ j v hj hp h1⟩
theorem SrcOf.cells {b ty : Nat} {cs : List Value} : SrcOf (Cells b ty cs) (some ⟨b, 0, none⟩) cs := fun h h1 => .inr ⟨b, 0, rfl, fun j v hj => ⟨cs.toArray, ty, (0, 0), h1, by simpa using hj⟩⟩
theorem SrcOf.sub {S : Option Addr} {cap ty sz n : Nat} {cs : List Value} (k q : Nat) (hq : k + q ≤ n) : SrcOf (Grow S cap ty sz n cs) (subS S k cap sz) ((cs.drop (k * sz)).take (q * sz)) := by
  rintro h ⟨h1, h2⟩
  by_cases h0 : (cs.drop (k * sz)).take (q * sz) = []
  · exact .inl h0
  · have hl : 0 < ((cs.drop (k * sz)).take (q * sz)).length := List.length_pos_iff.2 h0
    have hqp : 0 < q := Nat.pos_of_ne_zero (fun h => by subst h; simp at hl)
    rcases h2 with ⟨rfl, rfl, rfl⟩ | ⟨b, cur, rfl, h3, h4, h5, h6, h7⟩
    · omega
    · have hck : ¬ cap = k := by omega
      refine .inr ⟨b, k * sz, by simp [subS, hck, add_none], fun j v hj => ⟨_, ty, _, h3, ?_⟩⟩
      rw [List.getElem?_take] at hj
      split at hj
      · rw [List.getElem?_drop, ← h7, List.getElem?_take] at hj
        split at hj
        · simpa using hj
        · cases hj
      · cases hj
theorem SrcOf.all {S : Option Addr} {cap ty sz n : Nat} {cs : List Value} : SrcOf (Grow S cap ty sz n cs) S cs := by
  rintro h ⟨h1, h2⟩
  rcases h2 with ⟨rfl, rfl, rfl⟩ | ⟨b, cur, rfl, h3, h4, h5, h6, h7⟩
  · exact .inl (List.eq_nil_of_length_eq_zero (by simpa using h1))
  · refine .inr ⟨b, 0, rfl, fun j v hj => ⟨_, ty, _, h3, ?_⟩⟩
    rw [← h7, List.getElem?_take] at hj
    split at hj
    · simpa using hj
    · cases hj
theorem SrcOf.cell {A : List Asn} {F : Hp} {w : World} (ho : Owns A F w) {j : Nat} {B : Asn} (hk : A[j]? = some B) {X : Option Addr} {vs : List Value} (hr : SrcOf B X vs) :
    vs = [] ∨ ∃ a, X = some a ∧ ∀ j v, vs[j]? = some v → w.cell? (a.add j) = some v := by
  obtain ⟨h, h1, h2⟩ := Owns.get ho hk
  rcases hr h h1 with h3 | ⟨b, o, rfl, h3⟩
  · exact .inl h3
  · refine .inr ⟨_, rfl, fun j v hj => ?_⟩
    obtain ⟨arr, ty, fz, h4, h5⟩ := h3 j v hj
    rw [add_none]
    simp [World.cell?, h2 b _ h4, h5]

theorem upd_eq : ∀ (vs cs : List Value) (o : Nat), o + vs.length ≤ cs.length → upd cs o vs = cs.take o ++ vs ++ cs.drop (o + vs.length)
  | [], cs, o, _ => by simp [upd]
  | v :: r, cs, o, h => by
    simp only [List.length_cons] at h
    have ho : o < cs.length := by omega
    rw [upd, upd_eq r _ _ (by simp; omega)]
    rw [List.drop_set_of_lt (by omega), show o + (v :: r).length = o + 1 + r.length by simp; omega]
    congr 1
    have : (cs.set o v).take (o + 1) = cs.take o ++ [v] := by
      apply List.ext_getElem?
      intro j
      rw [List.getElem?_take, List.getElem?_append, List.length_take, Nat.min_eq_left (Nat.le_of_lt ho)]
      by_cases h1 : j < o
      · rw [if_pos (by omega), if_pos h1, List.getElem?_set_ne (by omega), List.getElem?_take, if_pos h1]
      · by_cases h2 : j = o
        · subst h2; simp [ho]
        · rw [if_neg (by omega), if_neg h1, List.getElem?_eq_none (by simp; omega)]
    rw [this, List.append_assoc]; rfl

/-- a row that begins at X takes values -/
def WrOf (B : Asn) (X : Option Addr) (vs : List Value) (B' : Asn) : Prop :=
  ∀ h, B h → (vs = [] ∧ B' h) ∨ ∃ b o cs ty, X = some ⟨b, o, none⟩ ∧ h b = some (.cells (List.toArray cs) ty (0, 0)) ∧ o + vs.length ≤ cs.length ∧ B' (fun n => if n = b then some (.cells (upd cs o vs).toArray ty (0, 0)) else h n)
theorem WrOf.grow {S X : Option Addr} {cap ty sz n : Nat} {cs cs' : List Value} (k : Nat) {vs : List Value} (hX : k < cap → X = S.map (·.add (k * sz))) (hl : k * sz + vs.length ≤ cs.length) (hc : upd cs (k * sz) vs = cs') :
    WrOf (Grow S cap ty sz n cs) X vs (Grow S cap ty sz n cs') := by
  intro h h1
  by_cases h0 : vs = []
  · subst h0; subst hc; exact .inl ⟨rfl, h1⟩
  · have hpos := List.length_pos_iff.2 h0
    obtain ⟨h2, h3⟩ := h1
    rcases h3 with ⟨rfl, rfl, rfl⟩ | ⟨b, cur, rfl, h3, h4, h5, h6, h7⟩
    · rw [h2, Nat.zero_mul] at hl; omega
    · have hkn : k < n := by
        rw [h2] at hl
        exact Nat.lt_of_mul_lt_mul_right (a := sz) (by omega)
      have hw := Wr.grow (S := some ⟨b, 0, none⟩) (cap := cap) (ty := ty) (sz := sz) (n := n) h0 hl hc h ⟨h2, .inr ⟨b, cur, rfl, h3, h4, h5, h6, h7⟩⟩
      obtain ⟨cs1, ty1, k1, k2, k3⟩ := hw
      exact .inr ⟨b, k * sz, cs1, ty1, by rw [hX (by omega)]; simp [add_none], k1, k2, k3⟩
theorem WrOf.sub {S : Option Addr} {cap ty sz n : Nat} {cs cs' : List Value} (k : Nat) {vs : List Value} (hl : k * sz + vs.length ≤ cs.length) (hc : upd cs (k * sz) vs = cs') : WrOf (Grow S cap ty sz n cs) (subS S k cap sz) vs (Grow S cap ty sz n cs') :=
  WrOf.grow k (fun h => by simp [subS, show ¬ cap = k by omega]) hl hc

/-- values laid over a row -/
theorem run_lay {P : Program} {A A' : List Asn} {F : Hp} {w : World} (ho : Owns A F w) {j : Nat} {B B' : Asn} (hk : A[j]? = some B) {X : Option Addr} {vs : List Value} (hw : WrOf B X vs B') (hone : vs.all oneC = true) (hA : A.set j B' = A') :
    ∃ w', (match X with | some a => storeCells a vs | none => Sem.pure ()).run P w = .ok () w' ∧ Owns A' F w' ∧ Same w w' := by
  have ho' := Owns.perm (lift_at hk) ho
  obtain ⟨hb, k0, k1⟩ := Owns.get ho hk
  rcases hw hb k0 with ⟨rfl, h4⟩ | ⟨b, o, cs, ty, rfl, h4, h5, h6⟩
  · refine ⟨w, by cases X <;> rfl, ?_, Same.refl w⟩
    rw [← hA]
    refine Owns.perm (set_at hk).symm ?_
    refine Owns.update ho' (fun ha g1 g2 => ?_)
    rcases hw ha g1 with ⟨_, g3⟩ | ⟨b, o, cs, ty, _, g3, g4, g5⟩
    · exact ⟨ha, g3, fun _ => Iff.rfl, g2, fun _ _ => rfl⟩
    · refine ⟨_, g5, fun n => ?_, fun n o' g7 => ?_, fun _ _ => rfl⟩
      · by_cases hn : n = b
        · subst hn; simp [g3]
        · simp [hn]
      · by_cases hn : n = b
        · subst hn; simp only [if_true, upd] at g7; rw [← g7]; exact g2 n _ g3
        · simp only [hn, if_false] at g7; exact g2 n o' g7
  · obtain ⟨w', q1, q2, q3, q4⟩ := run_storeCells (P := P) (o := o) vs cs 0 w (k1 b _ h4) (by omega) hone
    refine ⟨w', q1, ?_, q4⟩
    rw [← hA]
    refine Owns.perm (set_at hk).symm ?_
    refine Owns.update ho' (fun ha g1 g2 => ?_)
    have back : ∀ (cs2 : List Value) (ty2 b2 o2 : Nat), b2 = b → o2 = o → ha b2 = some (.cells cs2.toArray ty2 (0, 0)) → cs2 = cs ∧ ty2 = ty := by
      intro cs2 ty2 b2 o2 e1 e2 g4
      subst e1
      have e1 := g2 b2 _ g4
      rw [k1 b2 _ h4] at e1
      simp only [Option.some.injEq, Obj.cells.injEq, and_true] at e1
      obtain ⟨e2, rfl⟩ := e1
      exact ⟨by simpa using e2.symm, rfl⟩
    rcases hw ha g1 with ⟨rfl, g3⟩ | ⟨b2, o2, cs2, ty2, he, g4, g5, g6⟩
    · simp only [upd] at q2
      refine ⟨ha, g3, fun _ => Iff.rfl, fun n o' g7 => ?_, fun n g7 => ?_⟩
      · by_cases hn : n = b
        · subst hn; have := g2 n o' g7; rw [k1 n _ h4] at this; rw [q2]; exact this
        · rw [q3 n hn]; exact g2 n o' g7
      · by_cases hn : n = b
        · subst hn; rw [q2, k1 n _ h4]
        · exact q3 n hn
    · simp only [Option.some.injEq, Addr.mk.injEq, and_true] at he
      obtain ⟨rfl, rfl⟩ := he
      obtain ⟨rfl, rfl⟩ := back cs2 ty2 b o rfl rfl g4
      refine ⟨_, g6, fun n => ?_, fun n o' g7 => ?_, fun n g7 => ?_⟩
      · by_cases hn : n = b
        · subst hn; simp [g4]
        · simp [hn]
      · by_cases hn : n = b
        · subst hn; simp only [if_true] at g7; rw [← g7]; simpa using q2
        · simp only [hn, if_false] at g7; rw [q3 n hn]; exact g2 n o' g7
      · exact q3 n (fun hn => by subst hn; rw [g4] at g7; cases g7)

theorem run_firstCells_src {P : Program} {w : World} {X : Option Addr} {q c sz : Nat} {vs : List Value} (hl : vs.length = q * sz) (h : vs = [] ∨ ∃ a, X = some a ∧ ∀ j v, vs[j]? = some v → w.cell? (a.add j) = some v) (m : Nat) :
    (Builtin.firstCells sz q (.slice X m c)).run P w = .ok vs.toArray w := by
  rcases h with rfl | ⟨a, rfl, h⟩
  · cases X with
    | none => rfl
    | some a => simp only [List.length_nil] at hl; simp [Builtin.firstCells, ← hl, loadCells, loadCellsFrom]
  · exact run_firstCells_some (P := P) w sz q a m c vs hl h

theorem elem_size {P : Program} {t e sz bytes : Nat} {zs : List Value} (hT : ElemT P t e sz bytes zs) (w : World) : (sizeOf e).run P w = .ok sz w := by
  obtain ⟨i, z, hi, hz, rfl, rfl, hzc, hzl, hpos⟩ := hT.hi
  simp [sizeOf, typeInfo, hi]

theorem run_copy {P : Program} {t t2 ty e sz bytes : Nat} {zs : List Value} (hT : ElemT P t e sz bytes zs) {A A' : List Asn} {F : Hp} {w : World} (ho : Owns A F w) {j js : Nat} {B B' B2 : Asn} (hk : A[j]? = some B) (hks : A[js]? = some B2)
    {X1 X2 : Option Addr} {l1 c1 l2 c2 m : Nat} {vs : List Value} (hm : Nat.min l2 l1 = m) (hl : vs.length = m * sz) (hone : vs.all oneC = true) (hs : SrcOf B2 X2 vs) (hw : WrOf B X1 vs B') (hA : A.set j B' = A') :
    ∃ w', (Builtin.copy_ #[t, t2] ty #[.slice X1 l1 c1, .slice X2 l2 c2]).run P w = .ok (goInt m) w' ∧ Owns A' F w' ∧ Same w w' := by
  obtain ⟨w', h1, h2, h3⟩ := run_lay (P := P) ho hk hw hone hA
  refine ⟨w', ?_, h2, h3⟩
  have hf := run_firstCells_src (P := P) (c := c2) hl (hs.cell ho hks) l2
  subst hm
  cases X1 with
  | none =>
    simp only [Sem.run_pure] at h1
    cases h1
    simp [Builtin.copy_, run_underlying hT.ht, Builtin.lenOf, elem_size hT, hf]
  | some a =>
    simp [Builtin.copy_, run_underlying hT.ht, Builtin.lenOf, elem_size hT, hf, h1]

/-- append within the room that there is -/
theorem run_app_room {P : Program} {t ty e sz bytes : Nat} {zs : List Value} (hT : ElemT P t e sz bytes zs) {A A' : List Asn} {F : Hp} {w : World} (ho : Owns A F w) {j js : Nat} {B B' B2 : Asn} (hk : A[j]? = some B) (hks : A[js]? = some B2)
    {S X2 : Option Addr} {k cap q c2 : Nat} {vs : List Value} (hroom : k + q ≤ cap) (hl : vs.length = q * sz) (hone : vs.all oneC = true) (hs : SrcOf B2 X2 vs) (hw : WrOf B (S.map (·.add (k * sz))) vs B') (hA : A.set j B' = A') :
    ∃ w', (Builtin.append_ #[t, t] ty #[.slice S k cap, .slice X2 q c2]).run P w = .ok (.slice S (k + q) cap) w' ∧ Owns A' F w' ∧ Same w w' := by
  obtain ⟨w', h1, h2, h3⟩ := run_lay (P := P) ho hk hw hone hA
  refine ⟨w', ?_, h2, h3⟩
  have hf := run_firstCells_src (P := P) (c := c2) hl (hs.cell ho hks) q
  cases S with
  | none =>
    simp only [Option.map_none, Sem.run_pure] at h1
    cases h1
    simp [Builtin.append_, run_underlying hT.ht, Builtin.lenOf, elem_size hT, hf, hroom]
  | some a =>
    simp only [Option.map_some] at h1
    simp [Builtin.append_, run_underlying hT.ht, Builtin.lenOf, elem_size hT, hf, hroom, h1]

/-- append of a row that may be none, at the first chunk -/
theorem run_appS {P : Program} {t ty e sz bytes : Nat} {zs : List Value} (hT : ElemT P t e sz bytes zs) {S X2 : Option Addr} {cap n : Nat} {cs : List Value} {A : List Asn} {F : Hp} {w : World} {j js : Nat} {B2 : Asn}
    (ho : Owns A F w) (hk : A[j]? = some (Grow S cap e sz n cs)) (hks : A[js]? = some B2) {m c : Nat} {news : List Value} (hl : news.length = m * sz) (hs : SrcOf B2 X2 news) (h1 : news.all oneC = true)
    (h63 : n + m ≤ maxLen) (hby : (n + m) * bytes ≤ 140737488355328) :
    ∃ S' cap' w', (Builtin.append_ #[t, t] ty #[.slice S n cap, .slice X2 m c]).run P w = .ok (.slice S' (n + m) cap') w' ∧ Owns (A.set j (Grow S' cap' e sz (n + m) (cs ++ news))) F w' ∧ Same w w' := by
  rcases hs.cell ho hks with h0 | ⟨a, rfl, hn⟩
  · subst h0
    obtain ⟨i, z, hi, hz, rfl, rfl, hzc, hzl, hpos⟩ := hT.hi
    have hm : m = 0 := by
      simp only [List.length_nil] at hl
      rcases Nat.mul_eq_zero.1 hl.symm with h | h
      · exact h
      · omega
    subst hm
    obtain ⟨_, hnc, _, _⟩ := Grow.some ho hk
    obtain ⟨w', k1, k2, k3⟩ := run_app_room (P := P) (ty := ty) hT ho hk hks (S := S) (k := n) (cap := cap) (q := 0) (c2 := c) (vs := []) (by omega) hl h1 hs (B' := Grow S cap e i.size n cs) (fun h hb => .inl ⟨rfl, hb⟩) rfl
    exact ⟨S, cap, w', k1, by simpa using k2, k3⟩
  · obtain ⟨S', cap', w', k1, k2, k3⟩ := run_app (P := P) (ty := ty) hT (Owns.perm (lift_at hk) ho) a m c news hl hn h1 h63 hby
    exact ⟨S', cap', w', k1, Owns.perm (set_at hk).symm k2, k3⟩

theorem zeroCells_flat (zs : List Value) (hp : 0 < zs.length) (n : Nat) : (Builtin.zeroCells zs.toArray n).toList = (List.replicate n zs).flatten := by
  simp only [Builtin.zeroCells]
  apply List.ext_getElem?
  intro j
  simp only [Array.toList_map, Array.toList_range, List.size_toArray, List.getElem?_map]
  by_cases hj : j < n * zs.length
  · rw [List.getElem?_range hj]
    simp only [Option.map_some]
    have hmod : j % zs.length < zs.length := Nat.mod_lt _ hp
    have key : ∀ (n j : Nat), j < n * zs.length → ((List.replicate n zs).flatten)[j]? = some (zs[j % zs.length]'(Nat.mod_lt _ hp)) := by
      intro n
      induction n with
      | zero => intro j hj; simp at hj
      | succ n ih =>
        intro j hj
        rw [List.replicate_succ, List.flatten_cons]
        by_cases h : j < zs.length
        · rw [List.getElem?_append_left h, List.getElem?_eq_getElem h]; congr 1; simp [Nat.mod_eq_of_lt h]
        · rw [List.getElem?_append_right (by omega), ih (j - zs.length) (by rw [Nat.succ_mul] at hj; omega)]
          congr 1
          simp [Nat.mod_eq_sub_mod (show zs.length ≤ j by omega)]
    rw [key n j hj]
    simp [hmod]
  · rw [List.getElem?_eq_none (by simpa using hj), List.getElem?_eq_none (by simp; omega)]; rfl

/-- append of a made row, behind a part of a row, where there is no room -/
theorem run_app_make {P : Program} {t u ty e sz bytes : Nat} {zs : List Value} (hT : ElemT P t e sz bytes zs) {k : IntKind} (hu : P.underlying u = some (.int k)) {S : Option Addr} {cap n i : Nat} {cs : List Value} {A : List Asn} {F : Hp} {w : World} {j : Nat}
    (ho : Owns A F w) (hk : A[j]? = some (Grow S cap e sz n cs)) {m : Nat} (hin : i ≤ n) (hroom : cap < i + m)
    (h63 : i + m ≤ maxLen) (hby : (i + m) * bytes ≤ 140737488355328) :
    ∃ b cap' w', (Builtin.append_ #[t, u] ty #[.slice S i cap, .int .i64 (m : Int)]).run P w = .ok (.slice (some ⟨b, 0, none⟩) (i + m) cap') w' ∧
      Owns (Grow (some ⟨b, 0, none⟩) cap' e sz (i + m) (cs.take (i * sz) ++ (List.replicate m zs).flatten) :: A) F w' ∧ Same w w' := by
  obtain ⟨inf, z, hi, hz, rfl, rfl, hzc, hzl, hpos⟩ := hT.hi
  obtain ⟨_, hnc, hcm, hcl⟩ := Grow.some ho hk
  have hsrc : SrcOf (Grow S cap e inf.size n cs) S (cs.take (i * inf.size)) := by
    have := SrcOf.sub (S := S) (cap := cap) (ty := e) (sz := inf.size) (n := n) (cs := cs) 0 i (by omega)
    rw [subS_zero] at this; simpa using this
  have hlen : (cs.take (i * inf.size)).length = i * inf.size := by
    rw [List.length_take, hcl]; exact Nat.min_eq_left (Nat.mul_le_mul_right _ hin)
  have hf := run_firstCells_src (P := P) (w := w.drew) (c := cap) (m := i) hlen (hsrc.cell (Owns.retarget (w := w) (fun G _ hG n o hn => hG n o hn) ho) hk)
  have hm : 0 < m := by omega
  have hnc' : ¬ (i + m ≤ cap) := by omega
  have hw : IntKind.i64.wrap (m : Int) = m := wrap_i64 (by omega) (by simp only [maxLen] at h63; omega)
  have hmb : m * inf.bytes ≤ 140737488355328 := Nat.le_trans (Nat.mul_le_mul_right _ (by omega)) hby
  have h48 : ¬ (281474976710656 < (m : Int) * (inf.bytes : Int)) := by rw [← Int.natCast_mul]; omega
  have hneg : ¬ ((m : Int) < 0) := by omega
  have h63' : ¬ (9223372036854775807 < ((i : Int) + (m : Int))) := by simp only [maxLen] at h63; omega
  have h48' : ¬ (281474976710656 < Builtin.nextslicecap (i + m) cap * inf.bytes) := Nat.not_lt.2 (growslice_fits (by omega) hby)
  have hge := grownCap_ge w (i + m) cap e
  have hle := grownCap_le_maxLen w (i + m) cap e h63
  have hzsz : ¬ (m * inf.size = 0) := by
    intro h; rcases Nat.mul_eq_zero.1 h with h | h <;> omega
  have hm0 : ¬ m = 0 := by omega
  have hs0 : ¬ inf.size = 0 := by omega
  refine ⟨w.heap.size, grownCap w (i + m) cap e, w.drew.alloc (.cells ((cs.take (i * inf.size)).toArray ++ Builtin.zeroCells z.cells m ++ Builtin.zeroCells z.cells (grownCap w (i + m) cap e - (i + m))) e), ?_, ?_, ⟨rfl, rfl, rfl, by simp⟩⟩
  · simp [Builtin.append_, run_underlying hT.ht, run_underlying hu, sizeOf, typeInfo, zeroValue, hi, hz, asInt, hw, hneg, h48, hnc', h63', h48', Question.forced, asIntOf, hf, newRow, grownCap, hm0, hs0]
    intro h; rcases Nat.mul_eq_zero.1 h with h | h <;> omega
  · have hzs : (Builtin.zeroCells z.cells m).toList = (List.replicate m zs).flatten := by rw [hzc]; exact zeroCells_flat zs (by omega) m
    refine Owns.push (w := w) (ha := Hp.one w.heap.size (.cells (cs.take (i * inf.size) ++ (List.replicate m zs).flatten ++ (Builtin.zeroCells z.cells (grownCap w (i + m) cap e - (i + m))).toList).toArray e (0, 0))) ho ?_ (fun q hq => by simp only [Hp.one]; rw [if_neg (by omega)]) (fun q o hq => ?_) (fun q hq => ?_)
    · have hl2 : (cs.take (i * inf.size) ++ (List.replicate m zs).flatten).length = (i + m) * inf.size := by
        rw [List.length_append, hlen, Nat.add_mul]; simp [hzl]
      refine ⟨hl2, .inr ⟨_, _, rfl, if_pos rfl, hge, hle, ?_, ?_⟩⟩
      · rw [List.length_append, hl2, Array.length_toList, size_zeroCells, hzc]
        simp only [List.size_toArray, hzl]
        rw [← Nat.add_mul]; congr 1; omega
      · rw [← hl2]; exact List.take_left
    · simp only [Hp.one] at hq
      split at hq
      · rename_i hqs; subst hqs; cases hq
        show (w.heap.push _)[w.heap.size]? = _
        rw [Array.getElem?_push, if_pos rfl]
        congr 2
        apply Array.ext'
        simp [← hzs]
      · cases hq
    · show (w.heap.push _)[q]? = _
      rw [Array.getElem?_push, if_neg (by omega)]

/-! ### as operations -/
section
variable {qt : Bool} {C : Cx} {ops : Array Oper} {k : List Item} {i m : Nat} {e : Env} {A : List Asn}
theorem Op.effN (M : Sem Next) {A' : List Asn} (h1 : ∀ u, opM C.n ops e u i = some (none, M)) (h2 : ∀ F w, Owns A F w → ∃ v w', M.run C.P w = .ok (.value v) w' ∧ Owns A' F w' ∧ Same w w')
    {J : Env → List Asn → Prop} (h3 : J e A') : OpEff C ops e i A J := by
  intro T w F hf ho N Q hq hN
  obtain ⟨o, hio, hw, hd, hM⟩ := opM_spec0 (h1 (fun t => T.getD t undef))
  unfold wpOp
  simp only [hio, wantE_spec hf hw, if_true]
  refine .inl ?_
  obtain ⟨v, w', hr, ho', hsm⟩ := h2 F.h w ho.1
  unfold Oper.wp
  rw [eval_ev hf, hM, hr]
  simp only [Oper.upon, hd, Act.put]
  exact hN _ _ _ w' h3 hf ⟨ho', ho.2.trans hsm⟩
theorem Op.copy {J : Env → List Asn → Prop} (j js : Nat) {B B' B2 : Asn} (d : Nat) {t t2 ty el sz bytes : Nat} {zs : List Value} (hT : ElemT C.P t el sz bytes zs) {X1 X2 : Option Addr} {l1 c1 l2 c2 q : Nat} (vs : List Value) {A' : List Asn} (hk : A[j]? = some B) (hks : A[js]? = some B2)
    (h1 : ∀ u, opM C.n ops e u i = some (some d, vN (Builtin.copy_ #[t, t2] ty #[.slice X1 l1 c1, .slice X2 l2 c2]))) (hm : Nat.min l2 l1 = q) (hl : vs.length = q * sz) (hone : vs.all oneC = true) (hs : SrcOf B2 X2 vs) (hw : WrOf B X1 vs B') (hA : A.set j B' = A')
    (h3 : J ((d, .int .i64 (q : Int)) :: e) A') : OpEff C ops e i A J :=
  Op.eff (X := Unit) d _ (fun _ => .int .i64 (q : Int)) (fun _ => A') h1 (fun F w ho => by
    obtain ⟨w', k1, k2, k3⟩ := run_copy (P := C.P) (ty := ty) (t2 := t2) (c1 := c1) (c2 := c2) hT ho hk hks hm hl hone hs hw hA
    exact ⟨(), w', run_vN k1, k2, k3⟩) (fun _ => h3)
theorem Op.copyN {J : Env → List Asn → Prop} (j js : Nat) {B B' B2 : Asn} {t t2 ty el sz bytes : Nat} {zs : List Value} (hT : ElemT C.P t el sz bytes zs) {X1 X2 : Option Addr} {l1 c1 l2 c2 q : Nat} (vs : List Value) {A' : List Asn} (hk : A[j]? = some B) (hks : A[js]? = some B2)
    (h1 : ∀ u, opM C.n ops e u i = some (none, vN (Builtin.copy_ #[t, t2] ty #[.slice X1 l1 c1, .slice X2 l2 c2]))) (hm : Nat.min l2 l1 = q) (hl : vs.length = q * sz) (hone : vs.all oneC = true) (hs : SrcOf B2 X2 vs) (hw : WrOf B X1 vs B') (hA : A.set j B' = A')
    (h3 : J e A') : OpEff C ops e i A J :=
  Op.effN _ h1 (fun F w ho => by
    obtain ⟨w', k1, k2, k3⟩ := run_copy (P := C.P) (ty := ty) (t2 := t2) (c1 := c1) (c2 := c2) hT ho hk hks hm hl hone hs hw hA
    exact ⟨_, w', run_vN k1, k2, k3⟩) h3
theorem Op.appR {J : Env → List Asn → Prop} (j js : Nat) {B B' B2 : Asn} (d : Nat) {t ty el sz bytes : Nat} {zs : List Value} (hT : ElemT C.P t el sz bytes zs) {S X2 : Option Addr} {k cap q c2 : Nat} (vs : List Value) {A' : List Asn} {r : Nat} (hr : k + q = r) (hk : A[j]? = some B) (hks : A[js]? = some B2)
    (h1 : ∀ u, opM C.n ops e u i = some (some d, vN (Builtin.append_ #[t, t] ty #[.slice S k cap, .slice X2 q c2]))) (hroom : k + q ≤ cap) (hl : vs.length = q * sz) (hone : vs.all oneC = true) (hs : SrcOf B2 X2 vs) (hw : WrOf B (S.map (·.add (k * sz))) vs B') (hA : A.set j B' = A')
    (h3 : J ((d, .slice S r cap) :: e) A') : OpEff C ops e i A J := by
  subst hr
  exact Op.eff (X := Unit) d _ (fun _ => .slice S (k + q) cap) (fun _ => A') h1 (fun F w ho => by
    obtain ⟨w', k1, k2, k3⟩ := run_app_room (P := C.P) (ty := ty) (c2 := c2) hT ho hk hks hroom hl hone hs hw hA
    exact ⟨(), w', run_vN k1, k2, k3⟩) (fun _ => h3)
theorem Op.appS {J : Env → List Asn → Prop} (j js : Nat) {B2 : Asn} (d : Nat) {t ty el sz bytes : Nat} {zs : List Value} (hT : ElemT C.P t el sz bytes zs) {S X2 : Option Addr} {cap n q c : Nat} {cs : List Value} (news cs' : List Value) {r : Nat} (hr : n + q = r)
    (hk : A[j]? = some (Grow S cap el sz n cs)) (hks : A[js]? = some B2)
    (h1 : ∀ u, opM C.n ops e u i = some (some d, vN (Builtin.append_ #[t, t] ty #[.slice S n cap, .slice X2 q c]))) (hl : news.length = q * sz) (hs : SrcOf B2 X2 news) (hone : news.all oneC = true)
    (h63 : n + q ≤ maxLen) (hby : (n + q) * bytes ≤ 140737488355328) (hcs : cs ++ news = cs')
    (h3 : ∀ S' cap', J ((d, .slice S' r cap') :: e) (A.set j (Grow S' cap' el sz r cs'))) : OpEff C ops e i A J := by
  subst hr
  refine Op.eff (X := Option Addr × Nat) d _ (fun x => .slice x.1 (n + q) x.2) (fun x => A.set j (Grow x.1 x.2 el sz (n + q) cs')) h1 (fun F w ho => ?_) (fun x => h3 x.1 x.2)
  obtain ⟨S', cap', w', k1, k2, k3⟩ := run_appS (P := C.P) (ty := ty) (c := c) hT ho hk hks hl hs hone h63 hby
  subst hcs
  exact ⟨(S', cap'), w', run_vN k1, k2, k3⟩
theorem Op.appMk {J : Env → List Asn → Prop} (j : Nat) (d : Nat) {t u ty el sz bytes : Nat} {zs : List Value} (hT : ElemT C.P t el sz bytes zs) {kk : IntKind} (hu : C.P.underlying u = some (.int kk)) {S : Option Addr} {cap n i' q : Nat} {cs : List Value} (cs' : List Value) {r : Nat} (hr : i' + q = r)
    (hk : A[j]? = some (Grow S cap el sz n cs))
    (h1 : ∀ v, opM C.n ops e v i = some (some d, vN (Builtin.append_ #[t, u] ty #[.slice S i' cap, .int .i64 (q : Int)]))) (hin : i' ≤ n) (hroom : cap < i' + q)
    (h63 : i' + q ≤ maxLen) (hby : (i' + q) * bytes ≤ 140737488355328) (hcs : cs.take (i' * sz) ++ (List.replicate q zs).flatten = cs')
    (h3 : ∀ b cap', J ((d, .slice (some ⟨b, 0, none⟩) r cap') :: e) (Grow (some ⟨b, 0, none⟩) cap' el sz r cs' :: A)) : OpEff C ops e i A J := by
  subst hr
  refine Op.eff (X := Nat × Nat) d _ (fun x => .slice (some ⟨x.1, 0, none⟩) (i' + q) x.2) (fun x => Grow (some ⟨x.1, 0, none⟩) x.2 el sz (i' + q) cs' :: A) h1 (fun F w ho => ?_) (fun x => h3 x.1 x.2)
  obtain ⟨b, cap', w', k1, k2, k3⟩ := run_app_make (P := C.P) (ty := ty) hT hu ho hk hin hroom h63 hby
  subst hcs
  exact ⟨(b, cap'), w', run_vN k1, k2, k3⟩
theorem Op.clearN {J : Env → List Asn → Prop} (j : Nat) {B B' : Asn} {t ty el sz bytes : Nat} {zs : List Value} (hT : ElemT C.P t el sz bytes zs) {X : Option Addr} {q c : Nat} {A' : List Asn} (hk : A[j]? = some B)
    (h1 : ∀ u, opM C.n ops e u i = some (none, vN (Builtin.clear_ #[t] ty #[.slice X q c]))) (hone : zs.all oneC = true) (hw : WrOf B X (List.replicate q zs).flatten B') (hA : A.set j B' = A')
    (h3 : J e A') : OpEff C ops e i A J :=
  Op.effN _ h1 (fun F w ho => by
    have hone' : (List.replicate q zs).flatten.all oneC = true := by
      rw [List.all_flatten, List.all_eq_true]
      intro x hx; rw [(List.mem_replicate.1 hx).2]; exact hone
    obtain ⟨w', k1, k2, k3⟩ := run_lay (P := C.P) ho hk hw hone' hA
    obtain ⟨inf, z, hi, hz, rfl, rfl, hzc, hzl, hpos⟩ := hT.hi
    refine ⟨_, w', run_vN (v := .tuple #[]) ?_, k2, k3⟩
    have hzz := zeroCells_flat zs (by omega) q
    rw [← hzc] at hzz
    cases X with
    | none =>
      simp only [Sem.run_pure] at k1
      cases k1
      simp [Builtin.clear_, run_underlying hT.ht]
    | some a =>
      cases q with
      | zero =>
        simp only [List.replicate_zero, List.flatten_nil, storeCells, Sem.run_pure] at k1
        cases k1
        simp [Builtin.clear_, run_underlying hT.ht]
      | succ q =>
        simp [Builtin.clear_, run_underlying hT.ht, zeroValue, typeInfo, hi, hz, hzz, k1]) h3
end

/-- a row with its room laid open -/
theorem Grow.ext_at {A : List Asn} {F : Hp} {w : World} {j : Nat} {S : Option Addr} {cap ty sz n : Nat} {cs : List Value} (m : Nat) (hm : n + m ≤ cap) (hk : A[j]? = Option.some (Grow S cap ty sz n cs)) (ho : Owns A F w) :
    ∃ x : { l : List Value // l.length = m * sz }, Owns (A.set j (Grow S cap ty sz (n + m) (cs ++ x.1))) F w := by
  have ho' := Owns.perm (lift_at hk) ho
  obtain ⟨h, h1, h2, h3⟩ := ho'
  obtain ⟨h4, h5⟩ := h1
  rcases h5 with ⟨rfl, rfl, rfl⟩ | ⟨b, cur, rfl, k3, k4, k5, k6, k7⟩
  · obtain rfl : m = 0 := by omega
    exact ⟨⟨[], by simp⟩, Owns.perm (set_at hk).symm ⟨h, ⟨by simpa using h4, .inl ⟨rfl, rfl, rfl⟩⟩, h2, h3⟩⟩
  · have hl : (n + m) * sz ≤ cur.length := by rw [k6]; exact Nat.mul_le_mul_right _ hm
    refine ⟨⟨(cur.drop (n * sz)).take (m * sz), ?_⟩, Owns.perm (set_at hk).symm ⟨h, ⟨?_, .inr ⟨b, cur, rfl, k3, hm, k5, k6, ?_⟩⟩, h2, h3⟩⟩
    · rw [List.length_take, List.length_drop]; rw [Nat.add_mul] at hl; omega
    · rw [List.length_append, h4, List.length_take, List.length_drop]; rw [Nat.add_mul] at hl ⊢; omega
    · show List.take ((n + m) * sz) cur = cs ++ List.take (m * sz) (List.drop (n * sz) cur)
      rw [Nat.add_mul, List.take_add, k7]
theorem Grow.cut_at {A : List Asn} {F : Hp} {w : World} {j : Nat} {S : Option Addr} {cap ty sz n : Nat} {cs cs' : List Value} (m : Nat) (hm : m ≤ n) (hc : cs.take (m * sz) = cs') (hk : A[j]? = Option.some (Grow S cap ty sz n cs)) (ho : Owns A F w) : Owns (A.set j (Grow S cap ty sz m cs')) F w := by
  subst hc
  have ho' := Owns.perm (lift_at hk) ho
  obtain ⟨h, h1, h2, h3⟩ := ho'
  obtain ⟨h4, h5⟩ := h1
  have hle : m * sz ≤ n * sz := Nat.mul_le_mul_right _ hm
  refine Owns.perm (set_at hk).symm ⟨h, ⟨by rw [List.length_take, h4]; omega, ?_⟩, h2, h3⟩
  rcases h5 with ⟨rfl, rfl, rfl⟩ | ⟨b, cur, rfl, k3, k4, k5, k6, k7⟩
  · exact .inl ⟨rfl, by omega, rfl⟩
  · exact .inr ⟨b, cur, rfl, k3, by omega, k5, k6, by rw [← k7, List.take_take, Nat.min_eq_left hle]⟩
end Go.Sp
