/- Blocks of cells: loads, stores, new blocks, whole numbers that fit. Conditions: none. -/
import Derived.Test.YtdibbcmfgdgdfaaS3
set_option linter.unusedVariables false
set_option linter.unusedSimpArgs false
set_option linter.unnecessarySimpa false
namespace Go.Sp
open Go

def Cells (b : Nat) (ty : TypeId) (cs : List Value) : Asn := fun h => h b = some (.cells cs.toArray ty (0, 0))

theorem Cells.block {A : List Asn} {F : Hp} {w : World} (ho : Owns A F w) {j b : Nat} {ty : TypeId} {cs : List Value} (hk : A[j]? = some (Cells b ty cs)) : w.heap[b]? = some (.cells cs.toArray ty (0, 0)) := by
  obtain ⟨h, h1, h2⟩ := Owns.get ho hk
  exact h2 b _ h1
theorem cell_of_block {w : World} {b : Nat} {ty : TypeId} {cs : List Value} {fz : Nat × Nat} (h : w.heap[b]? = some (.cells cs.toArray ty fz)) (o : Nat) : w.cell? ⟨b, o, none⟩ = cs[o]? := by
  simp [World.cell?, h]
theorem frozen_of_block {w : World} {b : Nat} {ty : TypeId} {cs : Array Value} (h : w.heap[b]? = some (.cells cs ty (0, 0))) (o : Nat) : w.frozen? ⟨b, o, none⟩ = false := by
  simp [World.frozen?, h]

theorem add_none (b o i : Nat) : (⟨b, o, none⟩ : Addr).add i = ⟨b, o + i, none⟩ := by
  unfold Addr.add; split <;> simp_all

theorem run_loadCellsFrom {P : Program} {w : World} {b o : Nat} : ∀ (n i : Nat) (acc : Array Value) (vs : List Value), vs.length = n → (∀ j v, vs[j]? = some v → w.cell? ⟨b, o + (i + j), none⟩ = some v) →
    (loadCellsFrom ⟨b, o, none⟩ i n acc).run P w = .ok (acc ++ vs.toArray) w
  | 0, i, acc, vs, hl, h => by
    obtain rfl : vs = [] := List.eq_nil_of_length_eq_zero hl
    simp [loadCellsFrom]
  | n + 1, i, acc, vs, hl, h => by
    cases vs with
    | nil => simp at hl
    | cons v vs =>
      have h0 := h 0 v (by simp)
      simp only [loadCellsFrom, bind]
      rw [runBind (w' := w) (a := v) (by simp [load, add_none, Sem.run, show o + i = o + (i + 0) by omega, h0])]
      rw [run_loadCellsFrom n (i + 1) (acc.push v) vs (by simpa using hl) (fun j u hj => by have := h (j + 1) u (by simpa using hj); rw [show i + 1 + j = i + (j + 1) by omega]; exact this)]
      simp

section
variable {qt : Bool} {C : Cx} {ops : Array Oper} {k : List Item} {i m : Nat} {e : Env} {A : List Asn}

theorem run_load1 {P : Program} {w : World} {t : TypeId} {a : Addr} {v : Value} (ht : peval P (isAgg t) = some false) (hc : w.cell? a = some v) : (vN (Instr.loadAt t (.pointer (some a)))).run P w = .ok (.value v) w := by
  refine run_vN ?_
  simp only [Instr.loadAt, Instr.sureAddr, loadVar, bind, pure, Sem.bind]
  rw [runBind (run_peval ht w)]
  simp [load, Sem.run, hc]
theorem run_loadN {P : Program} {w : World} {t : TypeId} {b o n : Nat} {vs : List Value} (ht : peval P (isAgg t) = some true) (hs : peval P (sizeOf t) = some n) (hl : vs.length = n)
    (hc : ∀ j v, vs[j]? = some v → w.cell? ⟨b, o + j, none⟩ = some v) : (vN (Instr.loadAt t (.pointer (some ⟨b, o, none⟩)))).run P w = .ok (.value (.agg vs.toArray)) w := by
  refine run_vN ?_
  simp only [Instr.loadAt, Instr.sureAddr, loadVar, bind, pure, Sem.bind]
  rw [runBind (run_peval ht w)]
  simp only [if_true]
  have h1 : ((sizeOf t).bind fun n => loadCells ⟨b, o, none⟩ n).run P w = .ok vs.toArray w := by
    rw [runBind (run_peval hs w)]
    unfold loadCells
    rw [run_loadCellsFrom n 0 #[] vs hl (fun j v hj => by simpa using hc j v hj)]
    simp
  have : ((sizeOf t).bind fun n => (loadCells ⟨b, o, none⟩ n).bind fun x => Sem.pure (Value.agg x)).run P w = .ok (Value.agg vs.toArray) w := by
    rw [runBind (run_peval hs w)]
    rw [runBind (run_peval hs w)] at h1
    rw [runBind h1]; rfl
  exact this

def oneC : Value → Bool
  | .agg _ | .tuple _ => false
  | _ => true
/-- values laid over a row of cells -/
def upd : List Value → Nat → List Value → List Value
  | cs, _, [] => cs
  | cs, o, v :: r => upd (cs.set o v) (o + 1) r
theorem upd_length : ∀ (vs cs : List Value) (o : Nat), (upd cs o vs).length = cs.length
  | [], _, _ => rfl
  | _ :: r, cs, o => by simp [upd, upd_length r]

theorem run_storeCells {P : Program} {b : Nat} {ty : TypeId} {o : Nat} : ∀ (vs cs : List Value) (i : Nat) (w : World), w.heap[b]? = some (.cells cs.toArray ty (0, 0)) → o + i + vs.length ≤ cs.length → (vs.all oneC = true) →
    ∃ w', (storeCells ⟨b, o, none⟩ vs i).run P w = .ok () w' ∧ w'.heap[b]? = some (.cells (upd cs (o + i) vs).toArray ty (0, 0)) ∧ (∀ n, n ≠ b → w'.heap[n]? = w.heap[n]?) ∧ Same w w'
  | [], cs, i, w, hb, _, _ => ⟨w, rfl, hb, fun _ _ => rfl, Same.refl w⟩
  | v :: r, cs, i, w, hb, hl, h1 => by
    simp only [List.all_cons, Bool.and_eq_true] at h1
    simp only [List.length_cons] at hl
    have hc : w.cell? ⟨b, o + i, none⟩ = some cs[o + i] := by rw [cell_of_block hb]; exact List.getElem?_eq_getElem (by omega)
    have hfz := frozen_of_block hb (o + i)
    have hst : (Go.store ((⟨b, o, none⟩ : Addr).add i) v).run P w = .ok () (w.setCell ⟨b, o + i, none⟩ v) := by
      rw [add_none]
      unfold Go.store
      cases v <;> simp_all [Sem.run, oneC]
    have hb' : (w.setCell ⟨b, o + i, none⟩ v).heap[b]? = some (.cells (cs.set (o + i) v).toArray ty (0, 0)) := by
      simp [World.setCell, Array.getElem?_modify, hb]
    obtain ⟨w', k1, k2, k3, k4⟩ := run_storeCells (P := P) (b := b) (ty := ty) (o := o) r (cs.set (o + i) v) (i + 1) _ hb' (by simp; omega) h1.2
    refine ⟨w', ?_, ?_, fun n hn => ?_, Same.trans (b := w.setCell ⟨b, o + i, none⟩ v) ⟨rfl, rfl, rfl, by simp [World.setCell]⟩ k4⟩
    · simp only [storeCells, bind]
      rw [runBind hst]; exact k1
    · rw [k2]; simp only [upd]; rw [show o + i + 1 = o + (i + 1) by omega]
    · rw [k3 n hn]
      simp only [World.setCell, Array.getElem?_modify]
      rw [if_neg (fun h => hn h.symm)]

theorem Cells.turn {r : List Asn} {F : Hp} {w w' : World} {b : Nat} {ty : TypeId} {cs cs' : List Value} (ho : Owns (Cells b ty cs :: r) F w) (hb : w'.heap[b]? = some (.cells cs'.toArray ty (0, 0)))
    (hn : ∀ n, n ≠ b → w'.heap[n]? = w.heap[n]?) : Owns (Cells b ty cs' :: r) F w' := by
  refine Owns.update ho (fun ha h1 h2 => ⟨fun n => if n = b then some (.cells cs'.toArray ty (0, 0)) else ha n, by simp [Cells], fun n => ?_, fun n o h3 => ?_, fun n h3 => ?_⟩)
  · by_cases h : n = b
    · subst h; unfold Cells at h1; simp [h1]
    · simp [h]
  · by_cases h : n = b
    · subst h; simp at h3; rw [hb, h3]
    · simp only [h, if_false] at h3; rw [hn n h]; exact h2 n o h3
  · refine hn n (fun h => ?_)
    subst h; unfold Cells at h1; rw [h1] at h3; cases h3

/-- the chunk at a place, ahead -/
theorem lift_at {A : List Asn} {j : Nat} {B : Asn} (hk : A[j]? = some B) : A.Perm (B :: A.eraseIdx j) := by
  obtain ⟨hi, hA⟩ := List.getElem?_eq_some_iff.1 hk
  have := eraseIdx_perm A j hi
  rw [hA] at this; exact this
theorem set_at {A : List Asn} {j : Nat} {B B' : Asn} (hk : A[j]? = some B) : (A.set j B').Perm (B' :: A.eraseIdx j) := by
  obtain ⟨hi, hA⟩ := List.getElem?_eq_some_iff.1 hk
  have := eraseIdx_perm (A.set j B') j (by simpa using hi)
  rw [List.eraseIdx_set_eq] at this
  simpa using this

/-- what makes one block: the block, and what is told of it -/
def pnew {α : Type} (p : Program) : Sem α → Option (Obj × (Nat → Sem α))
  | .new o k => some (o, k)
  | .program k => pnew p (k p)
  | .mark _ k => pnew p k
  | _ => none
theorem run_pnew {α : Type} {p : Program} {o : Obj} {kk : Nat → Sem α} : ∀ {s : Sem α}, pnew p s = some (o, kk) → ∀ w, s.run p w = (kk w.heap.size).run p { w with heap := w.heap.push o }
  | .new _ _, h, w => by simp only [pnew] at h; cases h; rfl
  | .program k, h, w => by simp only [pnew] at h; exact run_pnew (s := k p) h w
  | .mark _ k, h, w => by simp only [pnew] at h; exact run_pnew (s := k) h w
  | .pure _, h, _ => by simp [pnew] at h
  | .load .., h, _ => by simp [pnew] at h
  | .store .., h, _ => by simp [pnew] at h
  | .shape .., h, _ => by simp [pnew] at h
  | .freeze .., h, _ => by simp [pnew] at h
  | .frozen .., h, _ => by simp [pnew] at h
  | .getObj .., h, _ => by simp [pnew] at h
  | .setObj .., h, _ => by simp [pnew] at h
  | .choose .., h, _ => by simp [pnew] at h
  | .sys .., h, _ => by simp [pnew] at h
  | .halt _, h, _ => by simp [pnew] at h

def Blk (b : Nat) (o : Obj) : Asn := fun h => h b = some o

theorem Owns.newBlk {F : Hp} {w : World} (ho : Owns A F w) (o : Obj) : Owns (Blk w.heap.size o :: A) F { w with heap := w.heap.push o } :=
  Owns.push (ha := Hp.one w.heap.size o) ho (by simp [Blk, Hp.one]) (fun n hn => by simp only [Hp.one]; rw [if_neg (by omega)])
    (fun n o' h => by
      simp only [Hp.one] at h
      split at h
      · rename_i hn; subst hn; cases h; simp
      · cases h)
    (fun n hn => by simp [Array.getElem?_push, show n ≠ w.heap.size by omega])

theorem Op.newObj {J : Env → List Asn → Prop} (d : Nat) (o : Obj) (v : Nat → Value) (h1 : ∀ u b, (opM C.n ops e u i).bind (fun x => (pnew C.P x.2).bind (fun y => (peval C.P (y.2 b)).map (fun z => (x.1, y.1, z)))) = some (some d, o, .value (v b)))
    (h3 : ∀ b, J ((d, v b) :: e) (Blk b o :: A)) : OpEff C ops e i A J := by
  intro T w F hf ho N Q hq hN
  have h := h1 (fun t => T.getD t undef) w.heap.size
  rw [Option.bind_eq_some_iff] at h
  obtain ⟨⟨d', M⟩, h2, h⟩ := h
  rw [Option.bind_eq_some_iff] at h
  obtain ⟨⟨o1, kk⟩, h4, h⟩ := h
  rw [Option.map_eq_some_iff] at h
  obtain ⟨z, h5, h6⟩ := h
  cases h6
  obtain ⟨o', hio, hw, hd, hlt, hM⟩ := opM_spec h2
  unfold wpOp
  simp only [hio, wantE_spec hf hw, if_true]
  refine .inl ?_
  unfold Oper.wp
  rw [eval_ev hf, hM, run_pnew h4, run_peval h5]
  simp only [Oper.upon, hd, Act.put]
  exact hN _ _ _ _ (h3 _) (hf.put hlt _) ⟨Owns.newBlk ho.1 _, ho.2.trans ⟨rfl, rfl, rfl, by simp⟩⟩
theorem Op.new {J : Env → List Asn → Prop} (d : Nat) (ty : TypeId) (cs : List Value) (v : Nat → Value) (h1 : ∀ u b, (opM C.n ops e u i).bind (fun x => (pnew C.P x.2).bind (fun y => (peval C.P (y.2 b)).map (fun z => (x.1, y.1, z)))) = some (some d, .cells cs.toArray ty (0, 0), .value (v b)))
    (h3 : ∀ b, J ((d, v b) :: e) (Cells b ty cs :: A)) : OpEff C ops e i A J := Op.newObj d _ v h1 h3
end

/-! ### whole numbers that fit -/
theorem wrap_i64 {n : Int} (h0 : -9223372036854775808 ≤ n) (h1 : n ≤ 9223372036854775807) : IntKind.i64.wrap n = n := by
  simp [IntKind.wrap, IntKind.bits, IntKind.signed]; split <;> omega
theorem i64_eq {a b : Int} (h : IntKind.i64.wrap a = b) : Value.int .i64 (IntKind.i64.wrap a) = Value.int .i64 b := by rw [h]
theorem i64_in {a b : Int} (e : a = b) (h0 : -9223372036854775808 ≤ b) (h1 : b ≤ 9223372036854775807) : Value.int .i64 (IntKind.i64.wrap a) = Value.int .i64 b := by rw [e, wrap_i64 h0 h1]

theorem int_min (k : IntKind) (a b : Int) : Value.int k (if b < a then b else a) = Value.int k (min a b) := by
  congr 1; split <;> omega
theorem int_max (k : IntKind) (a b : Int) : Value.int k (if a < b then b else a) = Value.int k (max a b) := by
  congr 1; split <;> omega

theorem peval_bind {α β : Type} {P : Program} {f : α → Sem β} : ∀ {s : Sem α} {a : α}, peval P s = some a → peval P (s.bind f) = peval P (f a)
  | .pure _, a, h => by simp only [peval] at h; cases h; rfl
  | .program k, a, h => by simp only [peval] at h; exact peval_bind (s := k P) h
  | .mark _ k, a, h => by simp only [peval] at h; exact peval_bind (s := k) h
  | .load .., _, h => by simp [peval] at h
  | .store .., _, h => by simp [peval] at h
  | .new .., _, h => by simp [peval] at h
  | .shape .., _, h => by simp [peval] at h
  | .freeze .., _, h => by simp [peval] at h
  | .frozen .., _, h => by simp [peval] at h
  | .getObj .., _, h => by simp [peval] at h
  | .setObj .., _, h => by simp [peval] at h
  | .choose .., _, h => by simp [peval] at h
  | .sys .., _, h => by simp [peval] at h
  | .halt _, _, h => by simp [peval] at h

theorem pv_index {P : Program} {t el : TypeId} {sz b o ln cap off : Nat} {k : IntKind} {i : Int} (ht : peval P (underlying t) = some (.slice el)) (hs : peval P (sizeOf el) = some sz) (h0 : 0 ≤ i) (h1 : i < ln) (ho : o + i.toNat * sz = off) :
    peval P (vN (Instr.indexAt t (.slice (some ⟨b, o, none⟩) ln cap) (.int k i))) = some (.value (.pointer (some ⟨b, off, none⟩))) := by
  unfold vN
  rw [show (do let x ← Instr.indexAt t (.slice (some ⟨b, o, none⟩) ln cap) (.int k i); pure (Next.value x) : Sem Next) = (Instr.indexAt t (.slice (some ⟨b, o, none⟩) ln cap) (.int k i)).bind (fun x => Sem.pure (Next.value x)) from rfl]
  have : peval P (Instr.indexAt t (.slice (some ⟨b, o, none⟩) ln cap) (.int k i)) = some (.pointer (some ⟨b, off, none⟩)) := by
    simp only [Instr.indexAt, asIntOf, bind, pure, Sem.bind]
    rw [peval_bind ht]
    simp only
    rw [peval_bind ht]
    simp only [if_pos (And.intro h0 h1)]
    rw [peval_bind hs]
    simp only [peval, add_none, ho]
  rw [peval_bind this]; rfl
theorem pv_indexA {P : Program} {t el : TypeId} {sz b o n off : Nat} {k : IntKind} {i : Int} (ht : peval P (underlying t) = some (.array n el)) (hs : peval P (sizeOf el) = some sz) (h0 : 0 ≤ i) (h1 : i < n) (ho : o + i.toNat * sz = off) :
    peval P (vN (Instr.indexAt t (.pointer (some ⟨b, o, none⟩)) (.int k i))) = some (.value (.pointer (some ⟨b, off, none⟩))) := by
  unfold vN
  rw [show (do let x ← Instr.indexAt t (.pointer (some ⟨b, o, none⟩)) (.int k i); pure (Next.value x) : Sem Next) = (Instr.indexAt t (.pointer (some ⟨b, o, none⟩)) (.int k i)).bind (fun x => Sem.pure (Next.value x)) from rfl]
  have : peval P (Instr.indexAt t (.pointer (some ⟨b, o, none⟩)) (.int k i)) = some (.pointer (some ⟨b, off, none⟩)) := by
    simp only [Instr.indexAt, asIntOf, bind, pure, Sem.bind, Instr.sureAddr]
    rw [peval_bind ht]
    simp only
    have e1 : ∀ {α β : Type} (x : α) (f : α → Sem β), (Sem.pure x).bind f = f x := fun _ _ => rfl
    simp only [e1]
    rw [peval_bind ht]
    simp only [if_pos (And.intro h0 h1)]
    rw [peval_bind hs]
    simp only [peval, add_none, ho]
  rw [peval_bind this]; rfl
theorem pv_rem {P : Program} {k : IntKind} {a b : Int} (h0 : 0 ≤ a) (hb : b ≠ 0) : peval P (vN (Op.intDiv .rem k a b)) = some (.value (.int k (a % b))) := by
  simp only [vN, Op.intDiv, if_neg hb, bind, pure, Sem.bind, peval, Int.tmod_eq_emod_of_nonneg h0]
theorem pv_quo {P : Program} {a b : Int} (h0 : 0 ≤ a) (hb : 0 < b) (ha : a ≤ 9223372036854775807) : peval P (vN (Op.intDiv .quo .i64 a b)) = some (.value (.int .i64 (a / b))) := by
  have h1 : a / b ≤ a := Int.ediv_le_self b h0
  have h2 : 0 ≤ a / b := Int.ediv_nonneg h0 (by omega)
  simp only [vN, Op.intDiv, if_neg (show ¬ b = 0 by omega), bind, pure, Sem.bind, peval, Int.tdiv_eq_ediv_of_nonneg h0]
  rw [wrap_i64 (by omega) (by omega)]
end Go.Sp
