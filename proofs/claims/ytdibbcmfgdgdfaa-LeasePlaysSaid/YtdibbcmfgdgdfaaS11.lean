/- Maps from whole numbers: made, looked up, turned, struck. Conditions: none. -/
import Derived.Test.YtdibbcmfgdgdfaaS10
set_option linter.unnecessarySimpa false
set_option linter.unusedVariables false
set_option linter.unusedSimpArgs false
namespace Go.Sp
open Go

def lookI : List MapEntry → Int → Option Value
  | [], _ => none
  | e :: r, k => match e.key with
    | .int _ x => if x = k then some e.val else lookI r k
    | _ => none
/-- entries of a map from whole numbers -/
structure GoodM (es : List MapEntry) (clock : Nat) : Prop where
  key : ∀ e ∈ es, ∃ x, e.key = Value.int .i64 x
  apart : es.Pairwise (fun a b => a.key ≠ b.key ∧ a.born ≠ b.born)
  old : ∀ e ∈ es, e.born < clock
/-- a map in block b: at k it has f k -/
def MapI (b : Nat) (f : Int → Option Value) : Asn := fun h => ∃ (es : Array MapEntry) (clock : Nat), h b = some (.map es clock) ∧ GoodM es.toList clock ∧ ∀ k, lookI es.toList k = f k

theorem find_look {k : Int} : ∀ (es : List MapEntry) (i : Nat), (∀ e ∈ es, ∃ x, e.key = Value.int .i64 x) → ∃ r, Instr.findNow (.int .i64) (.int .i64 k) es i = some r ∧ r.map (·.2) = lookI es k ∧
    ∀ j v, r = some (j, v) → i ≤ j ∧ ∃ e, es[j - i]? = some e ∧ e.key = .int .i64 k ∧ e.val = v
  | [], i, _ => ⟨none, rfl, rfl, fun j v h => by cases h⟩
  | e :: r, i, h => by
    obtain ⟨x, hx⟩ := h e (by simp)
    by_cases hk : k = x
    · subst hk
      refine ⟨some (i, e.val), by simp [Instr.findNow, Instr.sameNow, hx], by simp [lookI, hx], fun j v hj => ?_⟩
      cases hj
      exact ⟨Nat.le_refl _, e, by simp, hx, rfl⟩
    · obtain ⟨r', h1, h2, h3⟩ := find_look (k := k) r (i + 1) (fun e he => h e (by simp [he]))
      refine ⟨r', by simp [Instr.findNow, Instr.sameNow, hx, show (k == x) = false by simpa using hk, h1], by simp [lookI, hx, show ¬ x = k from fun h => hk h.symm, h2], fun j v hj => ?_⟩
      obtain ⟨h4, e', h5, h6, h7⟩ := h3 j v hj
      exact ⟨by omega, e', by rw [show j - i = (j - (i + 1)) + 1 by omega, List.getElem?_cons_succ]; exact h5, h6, h7⟩
theorem look_none {k : Int} : ∀ {es : List MapEntry}, (∀ e ∈ es, ∃ x, e.key = Value.int .i64 x) → lookI es k = none → ∀ e ∈ es, e.key ≠ .int .i64 k
  | [], _, _ => by simp
  | e :: r, h, hl => by
    obtain ⟨x, hx⟩ := h e (by simp)
    simp only [lookI, hx] at hl
    split at hl
    · cases hl
    · rename_i hne
      intro a ha
      rcases List.mem_cons.1 ha with rfl | ha
      · rw [hx]; intro h; cases h; exact hne rfl
      · exact look_none (fun e he => h e (by simp [he])) hl a ha
theorem look_app {k : Int} {j : Int} {v : Value} {c : Nat} : ∀ {es : List MapEntry}, (∀ e ∈ es, ∃ x, e.key = Value.int .i64 x) → lookI es k = none → lookI (es ++ [⟨.int .i64 k, v, c⟩]) j = if j = k then some v else lookI es j
  | [], _, _ => by simp only [List.nil_append, lookI]; by_cases h : k = j <;> simp [h, eq_comm]
  | e :: r, h, hl => by
    obtain ⟨x, hx⟩ := h e (by simp)
    simp only [lookI, hx] at hl
    split at hl
    · cases hl
    · rename_i hne
      have ih := look_app (j := j) (v := v) (c := c) (fun e he => h e (by simp [he])) hl
      simp only [List.cons_append, lookI, hx, ih]
      by_cases h1 : x = j
      · subst h1; simp [hne]
      · simp [h1]
theorem look_mod {k j : Int} {v : Value} : ∀ {es : List MapEntry} {i : Nat} {e : MapEntry}, (∀ e ∈ es, ∃ x, e.key = Value.int .i64 x) → es.Pairwise (fun a b => a.key ≠ b.key ∧ a.born ≠ b.born) → es[i]? = some e → e.key = .int .i64 k →
    lookI (es.modify i (fun e => { e with key := .int .i64 k, val := v })) j = if j = k then some v else lookI es j
  | [], i, e, _, _, h, _ => by simp at h
  | a :: r, 0, e, h, _, he, hk => by
    simp at he; subst he
    simp only [List.modify_zero_cons, lookI, hk]
    by_cases h1 : k = j
    · subst h1; simp
    · simp [h1, show ¬ j = k from fun h => h1 h.symm]
  | a :: r, i + 1, e, h, hp, he, hk => by
    obtain ⟨x, hx⟩ := h a (by simp)
    have he' : r[i]? = some e := by simpa using he
    have hxk : x ≠ k := by
      intro hxk; subst hxk
      have := (List.pairwise_cons.1 hp).1 e (List.mem_of_getElem? he')
      exact this.1 (by rw [hx, hk])
    have ih := look_mod (j := j) (v := v) (fun e he => h e (by simp [he])) (List.pairwise_cons.1 hp).2 he' hk
    simp only [List.modify_succ_cons, lookI, hx, ih]
    by_cases h1 : x = j
    · subst h1; simp [hxk]
    · simp [h1]
/-- an entry's key stays where it is turned to the same -/
theorem mod_good {es : List MapEntry} {clock i : Nat} {e : MapEntry} {k : Int} {v : Value} (hg : GoodM es clock) (he : es[i]? = some e) (hk : e.key = .int .i64 k) : GoodM (es.modify i (fun e => { e with key := .int .i64 k, val := v })) clock := by
  have hmap : ∀ {es : List MapEntry} {i : Nat} {e : MapEntry}, es[i]? = some e → e.key = .int .i64 k → (es.modify i (fun e => { e with key := .int .i64 k, val := v })).map (fun e => (e.key, e.born)) = es.map (fun e => (e.key, e.born)) := by
    intro es
    induction es with
    | nil => intro i e h; simp at h
    | cons a r ih =>
      intro i e h hk
      cases i with
      | zero => simp at h; subst h; simp [hk]
      | succ i => simp only [List.modify_succ_cons, List.map_cons]; rw [ih (by simpa using h) hk]
  have hm := hmap he hk
  have hmem : ∀ a ∈ es.modify i (fun e => { e with key := .int .i64 k, val := v }), ∃ b ∈ es, a.key = b.key ∧ a.born = b.born := by
    intro a ha
    have : (a.key, a.born) ∈ (es.modify i (fun e => { e with key := .int .i64 k, val := v })).map (fun e => (e.key, e.born)) := List.mem_map.2 ⟨a, ha, rfl⟩
    rw [hm] at this
    obtain ⟨b, hb, he⟩ := List.mem_map.1 this
    simp only [Prod.mk.injEq] at he
    exact ⟨b, hb, he.1.symm, he.2.symm⟩
  refine ⟨fun a ha => ?_, ?_, fun a ha => ?_⟩
  · obtain ⟨b, hb, h1, _⟩ := hmem a ha
    obtain ⟨x, hx⟩ := hg.key b hb
    exact ⟨x, by rw [h1, hx]⟩
  · have h1 : (es.map (fun e => (e.key, e.born))).Pairwise (fun a b => a.1 ≠ b.1 ∧ a.2 ≠ b.2) := List.pairwise_map.2 hg.apart
    rw [← hm] at h1
    exact List.pairwise_map.1 h1
  · obtain ⟨b, hb, _, h2⟩ := hmem a ha
    rw [h2]; exact hg.old b hb
theorem push_good {es : List MapEntry} {clock : Nat} {k : Int} {v : Value} (hg : GoodM es clock) (hn : lookI es k = none) : GoodM (es ++ [⟨.int .i64 k, v, clock⟩]) (clock + 1) := by
  refine ⟨fun a ha => ?_, ?_, fun a ha => ?_⟩
  · rcases List.mem_append.1 ha with ha | ha
    · exact hg.key a ha
    · simp at ha; subst ha; exact ⟨k, rfl⟩
  · refine List.pairwise_append.2 ⟨hg.apart, by simp, fun a ha b hb => ?_⟩
    simp at hb; subst hb
    exact ⟨look_none hg.key hn a ha, Nat.ne_of_lt (hg.old a ha)⟩
  · rcases List.mem_append.1 ha with ha | ha
    · have := hg.old a ha; omega
    · simp at ha; subst ha; simp

theorem run_findKey {P : Program} {kt : TypeId} (hk : P.underlying kt = some (.int .i64)) {es : List MapEntry} (hg : ∀ e ∈ es, ∃ x, e.key = Value.int .i64 x) (k : Int) (w : World) :
    ∃ r, (Instr.findKey kt (.int .i64 k) es).run P w = .ok r w ∧ r.map (·.2) = lookI es k ∧ ∀ j v, r = some (j, v) → ∃ e, es[j]? = some e ∧ e.key = .int .i64 k ∧ e.val = v := by
  obtain ⟨r, h1, h2, h3⟩ := find_look (k := k) es 0 hg
  refine ⟨r, ?_, h2, fun j v hj => by have := (h3 j v hj).2; simpa using this⟩
  simp [Instr.findKey, run_underlying hk, h1]
theorem run_checkKey1 {P : Program} {kt : TypeId} (hk : P.underlying kt = some (.int .i64)) (em : Bool) (k : Int) (n : Nat) (w : World) : (Instr.checkKey em (n + 1) kt (.int .i64 k)).run P w = .ok () w := by
  simp [Instr.checkKey, run_underlying hk]
theorem run_checkKey {P : Program} {kt : TypeId} (hk : P.underlying kt = some (.int .i64)) (em : Bool) (k : Int) (w : World) : (Instr.checkKey em 10000 kt (.int .i64 k)).run P w = .ok () w := run_checkKey1 hk em k 9999 w

/-- what is known of a map's type -/
structure MapT (P : Program) (t kt et : TypeId) (z : Value) : Prop where
  ht : P.underlying t = some (.map kt et)
  hk : P.underlying kt = some (.int .i64)
  hz : ∀ w, (zeroValue et).run P w = .ok z w

theorem run_look {P : Program} {t kt et : TypeId} {z : Value} (hT : MapT P t kt et z) {A : List Asn} {F : Hp} {w : World} (ho : Owns A F w) {j b : Nat} {f : Int → Option Value} (hj : A[j]? = some (MapI b f)) (k : Int) (ok : Bool) :
    (Instr.lookup t (.map (some b)) (.int .i64 k) ok).run P w = .ok (if ok then .tuple #[(f k).getD z, .bool (f k).isSome] else (f k).getD z) w := by
  obtain ⟨h, ⟨es, clock, h1, hg, hf⟩, hle⟩ := Owns.get ho hj
  have hb := hle b _ h1
  obtain ⟨r, h2, h3, h4⟩ := run_findKey (P := P) hT.hk hg.key k w
  rw [hf k] at h3
  have hgo : (getObj b).run P w = .ok (.map es clock) w := by simp [getObj, Sem.run, hb]
  cases r with
  | none =>
    simp only [Option.map_none] at h3
    cases ok <;> simp [Instr.lookup, run_underlying hT.ht, hgo, run_checkKey hT.hk, h2, hT.hz, ← h3]
  | some iv =>
    obtain ⟨i, v⟩ := iv
    simp only [Option.map_some] at h3
    cases ok <;> simp [Instr.lookup, run_underlying hT.ht, hgo, run_checkKey hT.hk, h2, ← h3]

theorem MapI.turn {r : List Asn} {F : Hp} {w w' : World} {b : Nat} {f f' : Int → Option Value} (ho : Owns (MapI b f :: r) F w) {es : Array MapEntry} {clock : Nat} (hb : w'.heap[b]? = some (.map es clock)) (hg : GoodM es.toList clock) (hf : ∀ k, lookI es.toList k = f' k)
    (hn : ∀ n, n ≠ b → w'.heap[n]? = w.heap[n]?) : Owns (MapI b f' :: r) F w' := by
  refine Owns.update ho (fun ha h1 h2 => ?_)
  obtain ⟨es0, c0, k1, _, _⟩ := h1
  refine ⟨fun n => if n = b then some (.map es clock) else ha n, ⟨es, clock, by simp, hg, hf⟩, fun n => ?_, fun n o h3 => ?_, fun n h3 => ?_⟩
  · by_cases h : n = b
    · subst h; simp [k1]
    · simp [h]
  · by_cases h : n = b
    · subst h; simp at h3; rw [hb, h3]
    · simp only [h, if_false] at h3; rw [hn n h]; exact h2 n o h3
  · refine hn n (fun h => ?_)
    subst h; rw [k1] at h3; cases h3

theorem sameBits_int (n : Nat) (k : IntKind) (a : Int) : Instr.sameBits n (.int k a) (.int k a) = true := by
  cases n <;> simp [Instr.sameBits]
theorem run_put {P : Program} {t kt et : TypeId} {z : Value} (hT : MapT P t kt et z) {A : List Asn} {F : Hp} {w : World} (ho : Owns A F w) {j b : Nat} {f : Int → Option Value} (hj : A[j]? = some (MapI b f)) (k : Int) (v : Value) :
    ∃ w', (Instr.mapUpdate t (.map (some b)) (.int .i64 k) v).run P w = .ok () w' ∧ Owns (A.set j (MapI b (fun x => if x = k then some v else f x))) F w' ∧ Same w w' := by
  obtain ⟨h, ⟨es, clock, h1, hg, hf⟩, hle⟩ := Owns.get ho hj
  have hb := hle b _ h1
  obtain ⟨r, h2, h3, h4⟩ := run_findKey (P := P) hT.hk hg.key k w
  have hgo : (getObj b).run P w = .ok (.map es clock) w := by simp [getObj, Sem.run, hb]
  have ho' := Owns.perm (lift_at hj) ho
  have hlt : b < w.heap.size := (Array.getElem?_eq_some_iff.1 hb).1
  cases r with
  | none =>
    have hn : lookI es.toList k = none := by rw [← h3]; rfl
    refine ⟨{ w with heap := w.heap.setIfInBounds b (.map (es.push ⟨.int .i64 k, v, clock⟩) (clock + 1)) }, ?_, Owns.perm (set_at hj).symm (MapI.turn ho' (es := es.push ⟨.int .i64 k, v, clock⟩) (clock := clock + 1) ?_ ?_ ?_ ?_), ⟨rfl, rfl, rfl, by simp⟩⟩
    · simp [Instr.mapUpdate, run_underlying hT.ht, hgo, run_checkKey hT.hk, h2, setObj, Sem.run, hb]
    · simp [hlt]
    · rw [Array.toList_push]; exact push_good hg hn
    · intro x; rw [Array.toList_push, look_app hg.key hn, hf x]
    · intro n hne; simp [Array.getElem?_setIfInBounds, Ne.symm hne]
  | some iv =>
    obtain ⟨i, v0⟩ := iv
    obtain ⟨e, h5, h6, h7⟩ := h4 i v0 rfl
    refine ⟨{ w with heap := w.heap.setIfInBounds b (.map (es.modify i fun e => { e with key := .int .i64 k, val := v }) clock) }, ?_, Owns.perm (set_at hj).symm (MapI.turn ho' (es := es.modify i fun e => { e with key := .int .i64 k, val := v }) (clock := clock) ?_ ?_ ?_ ?_), ⟨rfl, rfl, rfl, by simp⟩⟩
    · have h8 : es[i]? = some e := by simpa using h5
      simp [Instr.mapUpdate, run_underlying hT.ht, hgo, run_checkKey hT.hk, h2, setObj, Sem.run, hb, Instr.keyThatStays, h8, h6, sameBits_int]
    · simp [hlt]
    · rw [Array.toList_modify]; exact mod_good hg h5 h6
    · intro x; rw [Array.toList_modify, look_mod hg.key hg.apart h5 h6, hf x]
    · intro n hne; simp [Array.getElem?_setIfInBounds, Ne.symm hne]
section
variable {qt : Bool} {C : Cx} {ops : Array Oper} {k : List Item} {i m : Nat} {e : Env} {A : List Asn}
theorem Val.look (j : Nat) (d : Nat) {t kt et : TypeId} {z : Value} (hT : MapT C.P t kt et z) {b : Nat} {f : Int → Option Value} (n : Int) (hk : A[j]? = some (MapI b f))
    (h1 : ∀ u, opM C.n ops e u i = some (some d, vN (Instr.lookup t (.map (some b)) (.int .i64 n) false))) {v : Value} (hv : (f n).getD z = v) : Val C ops e i A d v :=
  Val.of d _ v h1 (fun _ _ ho => run_vN (by rw [run_look hT ho hk n false]; simp [hv]))
theorem Op.put {J : Env → List Asn → Prop} (j : Nat) {t kt et : TypeId} {z : Value} (hT : MapT C.P t kt et z) {b : Nat} {f : Int → Option Value} (n : Int) (v : Value) {A' : List Asn} (hk : A[j]? = some (MapI b f))
    (h1 : ∀ u, opM C.n ops e u i = some (none, uN (Instr.mapUpdate t (.map (some b)) (.int .i64 n) v))) (hA : A.set j (MapI b (fun x => if x = n then some v else f x)) = A') (h3 : J e A') : OpEff C ops e i A J :=
  Op.sto _ h1 (fun F w ho => by
    obtain ⟨w', k1, k2, k3⟩ := run_put (P := C.P) hT ho hk n v
    exact ⟨w', run_uN k1, hA ▸ k2, k3⟩) h3
theorem newMap {b : Nat} {A : List Asn} {F : Hp} {w : World} (ho : Owns (Blk b (.map #[] 0) :: A) F w) : Owns (MapI b (fun _ => none) :: A) F w := by
  obtain ⟨h, h1, h2, h3⟩ := ho
  exact ⟨h, ⟨#[], 0, h1, ⟨by simp, by simp, by simp⟩, fun _ => rfl⟩, h2, h3⟩
end

theorem At.retCT {C : Cx} {k : List Item} {e : Env} {A : List Asn} {fn : Func} {v u : Value} {a ty b o n t : Nat} {vs : List Value} {B : Asn} (j : Nat) (hk : rtOf k = true) (hf : C.P.funcs[C.f]? = some fn) (hr : fn.results = #[.cell a ty, .tmp t])
    (he : e.get a = some (.pointer (some ⟨b, o, none⟩))) (hu : e.get t = some u) (hj : A[j]? = some B) (ht : peval C.P (isAgg ty) = some true) (hs : peval C.P (sizeOf ty) = some n) (hl : vs.length = n) (hrd : RdL B b o vs) (hv : v = .tuple #[.agg vs.toArray, u])
    (hp : ∀ F w, Owns A F w → Owns [C.R v] F w) : At C k e A := by
  refine At.ret hk hf (fun T hfit F w ho => ?_) hp
  subst hv
  have h1 : (loadVar ty ⟨b, o, none⟩).run C.P w = .ok (.agg vs.toArray) w := by
    simp only [loadVar, bind, pure]
    rw [runBind (run_peval ht w)]
    simp only [if_true]
    subst hl
    have h2 : ((sizeOf ty).bind fun n => loadCells ⟨b, o, none⟩ n).run C.P w = .ok vs.toArray w := by
      rw [runBind (run_peval hs w)]
      unfold loadCells
      rw [run_loadCellsFrom vs.length 0 #[] vs rfl (fun j' v hj' => by have := Rd.cell ho hj (hrd.at_ j' v hj'); simpa using this)]
      simp
    have : ((sizeOf ty).bind fun n => (loadCells ⟨b, o, none⟩ n).bind fun x => Sem.pure (Value.agg x)).run C.P w = .ok (Value.agg vs.toArray) w := by
      rw [runBind (run_peval hs w)]
      rw [runBind (run_peval hs w)] at h2
      rw [runBind h2]; rfl
    exact this
  have hg := hfit.getD he
  have hg' : T[a]?.getD undef = .pointer (some ⟨b, o, none⟩) := by rw [← Array.getD_eq_getD_getElem?]; exact hg
  have hu1 := hfit.getD hu
  have hu' : T[t]?.getD undef = u := by rw [← Array.getD_eq_getD_getElem?]; exact hu1
  simp only [results, hr]
  have h4 : ((#[ResultVar.cell a ty, .tmp t] : Array ResultVar).mapM (m := Sem) fun | .tmp t => pure (T.getD t undef) | .cell a t => do loadVar t (← asAddr (T.getD a undef))).run C.P w = .ok #[.agg vs.toArray, u] w := by
    have : ((#[ResultVar.cell a ty, .tmp t] : Array ResultVar).mapM (m := Sem) fun | .tmp t => pure (T.getD t undef) | .cell a t => do loadVar t (← asAddr (T.getD a undef))) = (loadVar ty ⟨b, o, none⟩).bind fun x => Sem.pure #[x, u] := by
      simp [Array.mapM_eq_foldlM, hg', hu', asAddr]
      rfl
    rw [this, runBind h1]; rfl
  refine (runBind h4).trans ?_
  rfl

/-- a map to truths -/
def mb (g : Int → Option Bool) : Int → Option Value := fun k => (g k).map Value.bool
theorem mb_get (g : Int → Option Bool) (n : Int) : (mb g n).getD (.bool false) = .bool ((g n).getD false) := by
  unfold mb; cases g n <;> rfl
theorem mb_put (g : Int → Option Bool) (n : Int) (v : Bool) : (fun x => if x = n then some (Value.bool v) else mb g x) = mb (fun x => if x = n then some v else g x) := by
  funext x; unfold mb; by_cases h : x = n <;> simp [h]
theorem mb_none : (fun _ => none : Int → Option Value) = mb (fun _ => none) := rfl

/-! ### words of 64 bits -/
theorem bv_wrap (x : BitVec 64) : IntKind.u64.wrap (x.toNat : Int) = (x.toNat : Int) := wrap_u64 (by omega) (by have := x.isLt; omega)
theorem bv_of (x : BitVec 64) : BitVec.ofInt IntKind.u64.bits (x.toNat : Int) = x := by
  show BitVec.ofInt 64 (x.toNat : Int) = x
  rw [BitVec.ofInt_natCast]; simp
theorem pv_bvand {P : Program} (x y : BitVec 64) : peval P (vN (Op.intBits .and .u64 (x.toNat : Int) (y.toNat : Int))) = some (.value (.int .u64 ((x &&& y).toNat : Int))) := by
  simp only [vN, Op.intBits, bind, pure, Sem.bind, peval, bv_of]
  exact congrArg (fun z => some (Next.value (Value.int .u64 z))) (bv_wrap (x &&& y))
theorem pv_and1u {P : Program} {a : Int} (h0 : 0 ≤ a) (h1 : a ≤ 18446744073709551615) : peval P (vN (Op.intBits .and .u64 a 1)) = some (.value (.int .u64 (a % 2))) := by
  obtain ⟨n, rfl⟩ := Int.eq_ofNat_of_zero_le h0
  have h2 : (BitVec.ofInt IntKind.u64.bits (n : Int) &&& BitVec.ofInt IntKind.u64.bits 1).toNat = n % 2 := by
    have h3 : (BitVec.ofInt IntKind.u64.bits (n : Int)).toNat = n := by
      simp only [IntKind.bits, BitVec.toNat_ofInt]; omega
    have h4 : (BitVec.ofInt IntKind.u64.bits (1 : Int)).toNat = 1 := by decide
    rw [BitVec.toNat_and, h3, h4, Nat.and_one_is_mod]
  simp only [vN, Op.intBits, bind, pure, Sem.bind, peval, h2]
  rw [wrap_u64 (by omega) (by omega)]
  congr 1
theorem shr_u64 {x : BitVec 64} {s : Int} (h0 : 0 ≤ s) (h1 : s ≤ 63) : 0 ≤ (x.toNat : Int) / 2 ^ s.toNat ∧ (x.toNat : Int) / 2 ^ s.toNat ≤ 18446744073709551615 := by
  have h2 : (0 : Int) < 2 ^ s.toNat := Int.pow_pos (by omega)
  have h3 := Int.ediv_nonneg (show (0 : Int) ≤ (x.toNat : Int) by omega) (Int.le_of_lt h2)
  have h4 := Int.ediv_le_self (2 ^ s.toNat) (show (0 : Int) ≤ (x.toNat : Int) by omega)
  have := x.isLt
  omega
theorem pv_bvor {P : Program} (x y : BitVec 64) : peval P (vN (Op.intBits .or .u64 (x.toNat : Int) (y.toNat : Int))) = some (.value (.int .u64 ((x ||| y).toNat : Int))) := by
  simp only [vN, Op.intBits, bind, pure, Sem.bind, peval, bv_of]
  exact congrArg (fun z => some (Next.value (Value.int .u64 z))) (bv_wrap (x ||| y))
theorem pv_bvandNot {P : Program} (x y : BitVec 64) : peval P (vN (Op.intBits .andNot .u64 (x.toNat : Int) (y.toNat : Int))) = some (.value (.int .u64 ((x &&& ~~~y).toNat : Int))) := by
  simp only [vN, Op.intBits, bind, pure, Sem.bind, peval, bv_of]
  exact congrArg (fun z => some (Next.value (Value.int .u64 z))) (bv_wrap (x &&& ~~~y))
end Go.Sp
