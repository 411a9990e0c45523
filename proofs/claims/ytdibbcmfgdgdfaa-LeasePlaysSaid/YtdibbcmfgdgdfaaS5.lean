/- Rows of cells that grow, rows that came in, reading and writing them. Conditions: none. -/
import Derived.Test.YtdibbcmfgdgdfaaS4
set_option linter.unusedVariables false
set_option linter.unusedSimpArgs false
set_option linter.unnecessarySimpa false
namespace Go.Sp
open Go

/-- a chunk tells a cell -/
def Rd (B : Asn) (b o : Nat) (v : Value) : Prop := ∀ h, B h → ∃ arr ty fz, h b = some (.cells arr ty fz) ∧ arr[o]? = some v
def RdL (B : Asn) (b : Nat) : Nat → List Value → Prop
  | _, [] => True
  | o, v :: r => Rd B b o v ∧ RdL B b (o + 1) r
theorem RdL.at_ {B : Asn} {b : Nat} : ∀ {vs : List Value} {o : Nat}, RdL B b o vs → ∀ k u, vs[k]? = some u → Rd B b (o + k) u
  | [], _, _, k, u, hk => by simp at hk
  | v :: r, o, h, 0, u, hk => by simp at hk; subst hk; exact h.1
  | v :: r, o, h, k + 1, u, hk => by have := RdL.at_ h.2 k u (by simpa using hk); rw [show o + (k + 1) = o + 1 + k by omega]; exact this
theorem RdL.of {B : Asn} {b : Nat} : ∀ {vs : List Value} {o : Nat}, (∀ k u, vs[k]? = some u → Rd B b (o + k) u) → RdL B b o vs
  | [], _, _ => trivial
  | v :: r, o, h => ⟨h 0 v rfl, RdL.of fun k u hk => by have := h (k + 1) u (by simpa using hk); rw [show o + 1 + k = o + (k + 1) by omega]; exact this⟩
theorem Rd.cell {A : List Asn} {F : Hp} {w : World} (ho : Owns A F w) {j : Nat} {B : Asn} (hk : A[j]? = some B) {b o : Nat} {v : Value} (hr : Rd B b o v) : w.cell? ⟨b, o, none⟩ = some v := by
  obtain ⟨h, h1, h2⟩ := Owns.get ho hk
  obtain ⟨arr, ty, fz, h3, h4⟩ := hr h h1
  have := h2 b _ h3
  simp [World.cell?, this, h4]
theorem Rd.cells {b : Nat} {ty : TypeId} {cs : List Value} {o : Nat} {v : Value} (hc : cs[o]? = some v) : Rd (Cells b ty cs) b o v :=
  fun h h1 => ⟨cs.toArray, ty, (0, 0), h1, by simpa using hc⟩

section
variable {qt : Bool} {C : Cx} {ops : Array Oper} {k : List Item} {i m : Nat} {e : Env} {A : List Asn}
theorem Val.ld1 (j : Nat) {B : Asn} (d : Nat) (t : TypeId) (b o : Nat) (v : Value) (hk : A[j]? = some B)
    (h1 : ∀ u, opM C.n ops e u i = some (some d, vN (Instr.loadAt t (.pointer (some ⟨b, o, none⟩))))) (ht : peval C.P (isAgg t) = some false) (hr : Rd B b o v) : Val C ops e i A d v :=
  Val.of d _ v h1 (fun _ _ ho => run_load1 ht (Rd.cell ho hk hr))
theorem Val.ldN (j : Nat) {B : Asn} (d : Nat) (t : TypeId) (b o n : Nat) (vs : List Value) (hk : A[j]? = some B)
    (h1 : ∀ u, opM C.n ops e u i = some (some d, vN (Instr.loadAt t (.pointer (some ⟨b, o, none⟩))))) (ht : peval C.P (isAgg t) = some true) (hs : peval C.P (sizeOf t) = some n) (hl : vs.length = n)
    (hr : RdL B b o vs) : Val C ops e i A d (.agg vs.toArray) :=
  Val.of d _ _ h1 (fun _ _ ho => run_loadN ht hs hl (fun j v hj => Rd.cell ho hk (hr.at_ j v hj)))

/-- a chunk takes values at a place, and is another one then -/
def Wr (B : Asn) (b o : Nat) (vs : List Value) (B' : Asn) : Prop :=
  ∀ h, B h → ∃ cs ty, h b = some (.cells (List.toArray cs) ty (0, 0)) ∧ o + vs.length ≤ cs.length ∧ B' (fun n => if n = b then some (.cells (upd cs o vs).toArray ty (0, 0)) else h n)
theorem Wr.cells {b : Nat} {ty : TypeId} {cs cs' : List Value} {o : Nat} {vs : List Value} (hl : Nat.ble (o + vs.length) cs.length = true) (hc : upd cs o vs = cs') : Wr (Cells b ty cs) b o vs (Cells b ty cs') :=
  fun h h1 => ⟨cs, ty, h1, Nat.le_of_ble_eq_true hl, by subst hc; simp [Cells]⟩

theorem Op.st {J : Env → List Asn → Prop} (j : Nat) {B B' : Asn} (t : TypeId) (b o : Nat) (v : Value) (vs : List Value) (n : Nat) {A' : List Asn} (hk : A[j]? = some B)
    (h1 : ∀ u, opM C.n ops e u i = some (none, uN (Instr.storeAt t (.pointer (some ⟨b, o, none⟩)) v))) (hv : v.cells = vs.toArray) (hs : peval C.P (sizeOf t) = some n) (hl : vs.length = n) (hone : vs.all oneC = true)
    (hw : Wr B b o vs B') (hA : A.set j B' = A')
    (h3 : J e A') : OpEff C ops e i A J := by
  refine Op.sto _ h1 (fun F w ho => ?_) h3
  subst hl
  have ho' := Owns.perm (lift_at hk) ho
  obtain ⟨hb, k0, k1⟩ := Owns.get ho hk
  obtain ⟨cs, ty, h4, h5, h6⟩ := hw hb k0
  obtain ⟨w', q1, q2, q3, q4⟩ := run_storeCells (P := C.P) (o := o) vs cs 0 w (k1 b _ h4) (by omega) hone
  refine ⟨w', ?_, ?_, q4⟩
  · refine run_uN (v := ()) ?_
    simp only [Instr.storeAt, Instr.sureAddr, storeVar, bind, pure, Sem.bind]
    rw [runBind (run_peval hs w)]
    have hsz : v.cells.size = vs.length := by rw [hv]; simp
    simp only [hsz, ne_eq, not_true_eq_false, if_false]
    rw [hv]
    exact q1
  · rw [← hA]
    refine Owns.perm (set_at hk).symm ?_
    refine Owns.update ho' (fun ha g1 g2 => ?_)
    obtain ⟨cs2, ty2, g4, g5, g6⟩ := hw ha g1
    have e1 := g2 b _ g4
    rw [k1 b _ h4] at e1
    simp only [Option.some.injEq, Obj.cells.injEq, and_true] at e1
    obtain ⟨e2, rfl⟩ := e1
    have e3 : cs = cs2 := by simpa using e2
    subst e3
    refine ⟨_, g6, fun n => ?_, fun n o' g7 => ?_, fun n g7 => ?_⟩
    · by_cases hn : n = b
      · subst hn; simp [g4]
      · simp [hn]
    · by_cases hn : n = b
      · subst hn; simp only [if_true] at g7; rw [← g7]; simpa using q2
      · simp only [hn, if_false] at g7; rw [q3 n hn]; exact g2 n o' g7
    · exact q3 n (fun hn => by subst hn; rw [g4] at g7; cases g7)
end

theorem At.retC {C : Cx} {k : List Item} {e : Env} {A : List Asn} {fn : Func} {v : Value} {a ty b o n : Nat} {vs : List Value} {B : Asn} (j : Nat) (hk : rtOf k = true) (hf : C.P.funcs[C.f]? = some fn) (hr : fn.results = #[.cell a ty])
    (he : e.get a = some (.pointer (some ⟨b, o, none⟩))) (hj : A[j]? = some B) (ht : peval C.P (isAgg ty) = some true) (hs : peval C.P (sizeOf ty) = some n) (hl : vs.length = n) (hrd : RdL B b o vs) (hv : v = .agg vs.toArray)
    (hp : ∀ F w, Owns A F w → Owns [C.R v] F w) : At C k e A := by
  refine At.ret hk hf (fun T hfit F w ho => ?_) hp
  subst hv
  have h1 : (loadVar ty ⟨b, o, none⟩).run C.P w = .ok (.agg vs.toArray) w := by
    simp only [loadVar, bind, pure]
    rw [runBind (run_peval ht w)]
    simp only [if_true]
    subst hl
    have h2 : ((sizeOf ty).bind fun n => loadCells ⟨b, o, none⟩ n).run C.P w = .ok vs.toArray w := by
      rw [runBind (run_peval hs w)]
      unfold loadCells
      rw [run_loadCellsFrom vs.length 0 #[] vs rfl (fun j' v hj' => by have := Rd.cell ho hj (hrd.at_ j' v hj'); simpa using this)]
      simp
    have : ((sizeOf ty).bind fun n => (loadCells ⟨b, o, none⟩ n).bind fun x => Sem.pure (Value.agg x)).run C.P w = .ok (Value.agg vs.toArray) w := by
      rw [runBind (run_peval hs w)]
      rw [runBind (run_peval hs w)] at h2
      rw [runBind h2]; rfl
    exact this
  have hg := hfit.getD he
  have hg' : T[a]?.getD undef = .pointer (some ⟨b, o, none⟩) := by rw [← Array.getD_eq_getD_getElem?]; exact hg
  simp only [results, hr]
  have h4 : ((#[ResultVar.cell a ty] : Array ResultVar).mapM (m := Sem) fun | .tmp t => pure (T.getD t undef) | .cell a t => do loadVar t (← asAddr (T.getD a undef))).run C.P w = .ok #[.agg vs.toArray] w := by
    have : ((#[ResultVar.cell a ty] : Array ResultVar).mapM (m := Sem) fun | .tmp t => pure (T.getD t undef) | .cell a t => do loadVar t (← asAddr (T.getD a undef))) = (loadVar ty ⟨b, o, none⟩).bind fun x => Sem.pure #[x] := by
      simp [Array.mapM_eq_foldlM, hg', asAddr]
      rfl
    rw [this, runBind h1]; rfl
  refine (runBind h4).trans ?_
  rfl

/-! ### what came in -/
def Whole (W : World) : Asn := fun h => ∀ n o, W.heap[n]? = some o → h n = some o
theorem Rd.whole {W : World} {b o : Nat} {v : Value} (hc : W.cell? ⟨b, o, none⟩ = some v) : Rd (Whole W) b o v := by
  intro h h1
  unfold World.cell? at hc
  split at hc
  · rename_i c ty fz hb
    simp only [Option.isSome_none, Bool.false_eq_true, if_false] at hc
    exact ⟨c, ty, fz, h1 _ _ hb, hc⟩
  · cases hc
theorem Owns.whole (W : World) : Owns [Whole W] Hp.emp W :=
  ⟨fun n => W.heap[n]?, fun _ _ h => h, fun _ => .inr rfl, fun n o h => by
    simp only [Hp.join, Hp.emp, Option.or_none] at h; exact h⟩
theorem Whole.same {W w : World} {A : List Asn} {F : Hp} (ho : Owns (Whole W :: A) F w) : ∀ n, n < W.heap.size → w.heap[n]? = W.heap[n]? := by
  intro n hn
  obtain ⟨h, h1, h2⟩ := Owns.get (k := 0) ho rfl
  have h3 := h1 n W.heap[n] (Array.getElem?_eq_getElem hn)
  rw [h2 n _ h3, Array.getElem?_eq_getElem hn]

/-! ### rows that grow -/
def blk (A : Option Addr) : Nat := match A with | some a => a.block | none => 0
def ofs (A : Option Addr) : Nat := match A with | some a => a.off | none => 0
def Grow (S : Option Addr) (cap : Nat) (ty sz n : Nat) (cs : List Value) : Asn := fun h => cs.length = n * sz ∧
  ((S = none ∧ n = 0 ∧ cap = 0) ∨ ∃ b cur, S = some ⟨b, 0, none⟩ ∧ h b = some (.cells (List.toArray cur) ty (0, 0)) ∧ n ≤ cap ∧ cap ≤ maxLen ∧ cur.length = cap * sz ∧ cur.take (n * sz) = cs)

theorem Rd.grow {S : Option Addr} {cap ty sz n : Nat} {cs : List Value} {o : Nat} {v : Value} (hc : cs[o]? = some v) : Rd (Grow S cap ty sz n cs) (blk S) o v := by
  rintro h ⟨h1, h2⟩
  rcases h2 with ⟨rfl, rfl, rfl⟩ | ⟨b, cur, rfl, h3, h4, h5, h6, h7⟩
  · simp at h1; subst h1; simp at hc
  · refine ⟨_, ty, _, h3, ?_⟩
    rw [← h7, List.getElem?_take] at hc
    split at hc
    · simpa using hc
    · cases hc
theorem Grow.some {S : Option Addr} {cap ty sz n : Nat} {cs : List Value} {A : List Asn} {F : Hp} {w : World} (ho : Owns A F w) {j : Nat} (hk : A[j]? = some (Grow S cap ty sz n cs)) : (0 < n → S = some ⟨blk S, 0, none⟩) ∧ n ≤ cap ∧ cap ≤ maxLen ∧ cs.length = n * sz := by
  obtain ⟨h, ⟨h1, h2⟩, h3⟩ := Owns.get ho hk
  rcases h2 with ⟨rfl, rfl, rfl⟩ | ⟨b, cur, rfl, _, h4, h5, _, _⟩
  · exact ⟨fun h => absurd h (by omega), Nat.le_refl _, by unfold maxLen; omega, h1⟩
  · exact ⟨fun _ => rfl, h4, h5, h1⟩
theorem Wr.grow {S : Option Addr} {cap ty sz n : Nat} {cs cs' : List Value} {o : Nat} {vs : List Value} (hvs : vs ≠ []) (hl : o + vs.length ≤ cs.length) (hc : upd cs o vs = cs') : Wr (Grow S cap ty sz n cs) (blk S) o vs (Grow S cap ty sz n cs') := by
  rintro h ⟨h1, h2⟩
  have hpos : 0 < vs.length := List.length_pos_iff.2 hvs
  rcases h2 with ⟨rfl, rfl, rfl⟩ | ⟨b, cur, rfl, h3, h4, h5, h6, h7⟩
  · have h0 : cs = [] := List.eq_nil_of_length_eq_zero (by simpa using h1)
    subst h0; simp only [List.length_nil] at hl; omega
  · refine ⟨cur, ty, h3, ?_, ?_⟩
    · have : cs.length ≤ cur.length := by rw [← h7]; simp; omega
      omega
    · refine ⟨by rw [← hc, upd_length]; exact h1, .inr ⟨b, upd cur o vs, rfl, by simp [blk], h4, h5, by rw [upd_length]; exact h6, ?_⟩⟩
      rw [← hc, ← h7]
      have hl' : o + vs.length ≤ n * sz := by omega
      clear hc h7 hl h3 hvs hpos
      induction vs generalizing cur o with
      | nil => rfl
      | cons v r ih =>
        simp only [upd]
        rw [ih (cur := cur.set o v) (o := o + 1) (by simpa using h6) (by simp at hl'; omega)]
        rw [List.take_set]
theorem Grow.nil_ (ty sz : Nat) {A : List Asn} {F : Hp} {w : World} (ho : Owns A F w) : Owns (Grow none 0 ty sz 0 [] :: A) F w :=
  ⟨Hp.emp, ⟨by simp, .inl ⟨rfl, rfl, rfl⟩⟩, Hp.disj_emp _, by rw [Hp.emp_join]; exact ho⟩

/-- what is known of a slice type -/
structure ElemT (P : Program) (t e sz bytes : Nat) (zs : List Value) : Prop where
  ht : P.underlying t = some (.slice e)
  hi : ∃ i z, P.info? e = some i ∧ i.zero = some z ∧ i.size = sz ∧ i.bytes = bytes ∧ z.cells = zs.toArray ∧ zs.length = sz ∧ 0 < sz

theorem oneC_eq (v : Value) : oneC v = v.oneCell' := by cases v <;> rfl

theorem setRow_get {w : World} {g : Nat} {cur : List Value} {ty : TypeId} (hg : w.heap[g]? = some (.cells cur.toArray ty (0, 0))) (cs : List Value) : (w.setRow g cs.toArray).heap[g]? = some (.cells cs.toArray ty (0, 0)) := by
  simp [World.setRow, Array.getElem?_modify, hg]
theorem setRow_ne {w : World} {g n : Nat} (cs : Array Value) (h : n ≠ g) : (w.setRow g cs).heap[n]? = w.heap[n]? := by
  simp only [World.setRow, Array.getElem?_modify]; rw [if_neg (fun x => h x.symm)]

/-- append at the first chunk, a row that grows -/
theorem run_app {P : Program} {t ty e sz bytes : Nat} {zs : List Value} (hT : ElemT P t e sz bytes zs) {S : Option Addr} {cap n : Nat} {cs : List Value} {r : List Asn} {F : Hp} {w : World}
    (ho : Owns (Grow S cap e sz n cs :: r) F w) (a : Addr) (m c : Nat) (news : List Value) (hl : news.length = m * sz) (hnews : ∀ j u, news[j]? = some u → w.cell? (a.add j) = some u) (h1 : news.all oneC = true)
    (h63 : n + m ≤ maxLen) (hby : (n + m) * bytes ≤ 140737488355328) :
    ∃ S' cap' w', (Builtin.append_ #[t, t] ty #[.slice S n cap, .slice (some a) m c]).run P w = .ok (.slice S' (n + m) cap') w' ∧ Owns (Grow S' cap' e sz (n + m) (cs ++ news) :: r) F w' ∧ Same w w' := by
  obtain ⟨i, z, hi, hz, rfl, rfl, hzc, hzl, hpos⟩ := hT.hi
  have hsmall : n + m ≤ 9223372036854775807 := by simp only [maxLen] at h63; omega
  have hone : ∀ u ∈ news, u.oneCell' = true := fun u hu => by rw [← oneC_eq]; exact List.all_eq_true.1 h1 u hu
  have hzs : z.cells.size = i.size := by rw [hzc]; simpa using hzl
  obtain ⟨hb, ⟨hcs, hS⟩, hle⟩ := Owns.get (k := 0) ho rfl
  have fresh : ∀ (old : Nat) (h : old < n + m), Owns (Grow (some ⟨w.heap.size, 0, none⟩) (grownCap w (n + m) old e) e i.size (n + m) (cs ++ news) :: r) F
      (w.drew.alloc (.cells (cs.toArray ++ news.toArray ++ Builtin.zeroCells z.cells (grownCap w (n + m) old e - (n + m))) e)) := by
    intro old _
    have hge := grownCap_ge w (n + m) old e
    have hcm : grownCap w (n + m) old e ≤ maxLen := grownCap_le_maxLen w (n + m) old e h63
    have hlen : (cs ++ news).length = (n + m) * i.size := by rw [List.length_append, hcs, hl, Nat.add_mul]
    refine Owns.push (w := w) (ha := Hp.one w.heap.size (.cells (cs ++ news ++ (Builtin.zeroCells z.cells (grownCap w (n + m) old e - (n + m))).toList).toArray e (0, 0))) ho.drop ?_ (fun q hq => by simp only [Hp.one]; rw [if_neg (by omega)]) (fun q o hq => ?_) (fun q hq => ?_)
    · refine ⟨hlen, .inr ⟨_, cs ++ news ++ (Builtin.zeroCells z.cells (grownCap w (n + m) old e - (n + m))).toList, rfl, if_pos rfl, hge, hcm, ?_, ?_⟩⟩
      · rw [List.length_append, hlen, Array.length_toList, size_zeroCells, hzs, ← Nat.add_mul]; congr 1; omega
      · rw [← hlen]; exact List.take_left (l₁ := cs ++ news)
    · simp only [Hp.one] at hq
      split at hq
      · rename_i hqs; subst hqs; cases hq
        show (w.heap.push _)[w.heap.size]? = _
        rw [Array.getElem?_push, if_pos rfl]
        congr 2
        apply Array.ext'
        simp [List.append_assoc]
      · cases hq
    · show (w.heap.push _)[q]? = _
      rw [Array.getElem?_push, if_neg (by omega)]
  rcases hS with ⟨rfl, rfl, rfl⟩ | ⟨g, cur, rfl, hg, hnc, hcm, hcl, htk⟩
  · have hcs0 : cs = [] := List.eq_nil_of_length_eq_zero (by simpa using hcs)
    subst hcs0
    by_cases hm : m = 0
    · subst hm
      have hn : news = [] := List.eq_nil_of_length_eq_zero (by simpa using hl)
      subst hn
      refine ⟨none, 0, w, ?_, by simpa using ho, Same.refl w⟩
      simp [Builtin.append_, run_underlying hT.ht, sizeOf, typeInfo, hi, Builtin.lenOf, Builtin.firstCells, loadCells, loadCellsFrom]
    · have hr := run_append_nil (P := P) w t ty e i z hT.ht hi hz a m c news hl hnews (by omega) (by omega) (by simp only [Nat.zero_add] at hby; omega)
      have hf := fresh 0 (by omega)
      simp only [Nat.zero_add] at hf ⊢
      refine ⟨_, _, _, hr, ?_, ⟨rfl, rfl, rfl, by simp⟩⟩
      simpa using hf
  · have hgw := hle g _ hg
    by_cases hroom : n + m ≤ cap
    · have hfit : n * i.size + news.length ≤ cur.toArray.size := by rw [List.size_toArray, hl, hcl, ← Nat.add_mul]; exact Nat.mul_le_mul_right _ hroom
      have hr := run_append_room (P := P) w t ty e i hT.ht hi g n cap cur.toArray hgw a m c news hl hnews hone hroom hfit
      refine ⟨_, _, _, hr, ?_, ⟨rfl, rfl, rfl, by simp [World.setRow]⟩⟩
      refine Owns.update ho (fun ha g1 g2 => ?_)
      obtain ⟨_, g3⟩ := g1
      rcases g3 with ⟨h, _⟩ | ⟨g', cur', heq, k1, k2, k3, k4, k5⟩
      · cases h
      · cases heq
        have e1 := g2 g _ k1
        rw [hgw] at e1
        simp only [Option.some.injEq, Obj.cells.injEq, and_true] at e1
        have e3 : cur = cur' := by simpa using e1
        subst e3
        have hlen : (cs ++ news).length = (n + m) * i.size := by rw [List.length_append, hcs, hl, Nat.add_mul]
        simp only [List.size_toArray] at hfit
        refine ⟨fun q => if q = g then some (.cells (cur.take (n * i.size) ++ news ++ cur.drop (n * i.size + news.length)).toArray e (0, 0)) else ha q, ?_, fun q => ?_, fun q o hq => ?_, fun q hq => ?_⟩
        · refine ⟨hlen, .inr ⟨g, cur.take (n * i.size) ++ news ++ cur.drop (n * i.size + news.length), rfl, if_pos rfl, hroom, hcm, ?_, ?_⟩⟩
          · simp only [List.length_append, List.length_take, List.length_drop]; omega
          · rw [htk, ← hlen]; exact List.take_left
        · by_cases hq : q = g
          · subst hq; simp [k1]
          · simp [hq]
        · by_cases hqg : q = g
          · subst hqg; simp only [if_true] at hq; rw [← hq]; simpa using setRow_get hgw _
          · simp only [hqg, if_false] at hq; rw [setRow_ne _ hqg]; exact g2 q o hq
        · exact setRow_ne _ (fun h => by subst h; rw [k1] at hq; cases hq)
    · have holds : ∀ j u, cs[j]? = some u → w.cell? ((⟨g, 0, none⟩ : Addr).add j) = some u := by
        intro j u hj
        rw [add_none, cell_of_block hgw]
        rw [← htk, List.getElem?_take] at hj
        split at hj
        · simpa using hj
        · cases hj
      have hr := run_append_grow (P := P) w t ty e i z hT.ht hi hz ⟨g, 0, none⟩ n cap cs hcs holds a m c news hl hnews (by omega) (by omega) (growslice_fits (by omega) hby)
      exact ⟨_, _, _, hr, fresh cap (by omega), ⟨rfl, rfl, rfl, by simp⟩⟩

section
variable {qt : Bool} {C : Cx} {ops : Array Oper} {k : List Item} {i m : Nat} {e : Env} {A : List Asn}
/-- append: the row at place j, what is put behind it read off the chunk at place js -/
theorem Op.app {J : Env → List Asn → Prop} (j js : Nat) {B : Asn} (d : Nat) {t ty el sz bytes : Nat} {zs : List Value} (hT : ElemT C.P t el sz bytes zs) {S : Option Addr} {cap n : Nat} {cs : List Value} {b o q c : Nat} (news cs' : List Value)
    (hk : A[j]? = some (Grow S cap el sz n cs)) (hks : A[js]? = some B)
    (h1 : ∀ u, opM C.n ops e u i = some (some d, vN (Builtin.append_ #[t, t] ty #[.slice S n cap, .slice (some ⟨b, o, none⟩) q c]))) (hl : news.length = q * sz) (hr : RdL B b o news) (hone : news.all oneC = true)
    (h63 : n + q ≤ maxLen) (hby : (n + q) * bytes ≤ 140737488355328) (hcs : cs ++ news = cs')
    (h3 : ∀ S' cap', J ((d, .slice S' (n + q) cap') :: e) (A.set j (Grow S' cap' el sz (n + q) cs'))) : OpEff C ops e i A J := by
  refine Op.eff (X := Option Addr × Nat) d _ (fun x => .slice x.1 (n + q) x.2) (fun x => A.set j (Grow x.1 x.2 el sz (n + q) cs')) h1 (fun F w ho => ?_) (fun x => h3 x.1 x.2)
  obtain ⟨S', cap', w', k1, k2, k3⟩ := run_app (P := C.P) (ty := ty) hT (Owns.perm (lift_at hk) ho) ⟨b, o, none⟩ q c news hl (fun j' u hj => by rw [add_none]; exact Rd.cell ho hks (hr.at_ j' u hj)) hone h63 hby
  subst hcs
  exact ⟨(S', cap'), w', run_vN k1, Owns.perm (set_at hk).symm k2, k3⟩

/-- a new row of n elements -/
theorem Op.mk {J : Env → List Asn → Prop} (d : Nat) {t el sz bytes : Nat} {zs : List Value} (hT : ElemT C.P t el sz bytes zs) (n : Nat) (hn : n * bytes ≤ 281474976710656) (h63 : n ≤ maxLen)
    (h1 : ∀ u, opM C.n ops e u i = some (some d, vN (Instr.makeSlice t (.int .i64 (n : Int)) (.int .i64 (n : Int)))))
    (h3 : ∀ b, J ((d, .slice (some ⟨b, 0, none⟩) n n) :: e) (Grow (some ⟨b, 0, none⟩) n el sz n (List.replicate n zs).flatten :: A)) : OpEff C ops e i A J := by
  refine Op.eff (X := Nat) d _ (fun b => .slice (some ⟨b, 0, none⟩) n n) (fun b => Grow (some ⟨b, 0, none⟩) n el sz n (List.replicate n zs).flatten :: A) h1 (fun F w ho => ?_) h3
  obtain ⟨i0, z, hi, hz, rfl, rfl, hzc, hzl, hpos⟩ := hT.hi
  have hr := run_make (P := C.P) w t el i0 z hT.ht hi hz .i64 .i64 (n : Int) (n : Int) (by omega) (by omega) (by rw [Int.mul_comm, ← Int.natCast_mul]; omega) (by simp only [maxLen] at h63; omega)
  refine ⟨w.heap.size, _, run_vN hr, ?_, ⟨rfl, rfl, rfl, by simp⟩⟩
  have hcs : (madeCells z.cells (n * i0.size)) = (List.replicate n zs).flatten.toArray := by
    apply Array.ext'
    simp only [madeCells, hzc]
    rw [← hzl]
    clear hr hn h63 h1 h3
    have hp : 0 < zs.length := by omega
    apply List.ext_getElem?
    intro j
    simp only [Array.toList_map, Array.toList_range, List.size_toArray, List.getElem?_map]
    by_cases hj : j < n * zs.length
    · rw [List.getElem?_range hj]
      simp only [Option.map_some]
      have hmod : j % zs.length < zs.length := Nat.mod_lt _ hp
      have key : ∀ (n j : Nat), j < n * zs.length → ((List.replicate n zs).flatten)[j]? = some (zs[j % zs.length]'(Nat.mod_lt _ hp)) := by
        intro n
        induction n with
        | zero => intro j hj; simp at hj
        | succ n ih =>
          intro j hj
          rw [List.replicate_succ, List.flatten_cons]
          by_cases h : j < zs.length
          · rw [List.getElem?_append_left h, List.getElem?_eq_getElem h]; congr 1; simp [Nat.mod_eq_of_lt h]
          · rw [List.getElem?_append_right (by omega), ih (j - zs.length) (by rw [Nat.succ_mul] at hj; omega)]
            congr 1
            simp [Nat.mod_eq_sub_mod (show zs.length ≤ j by omega)]
      rw [key n j hj]
      simp [hmod]
    · rw [List.getElem?_eq_none (by simpa using hj), List.getElem?_eq_none (by simp; omega)]; rfl
  refine Owns.push (w := w) (ha := Hp.one w.heap.size (.cells (List.replicate n zs).flatten.toArray el (0, 0))) ho ?_ (fun q hq => by simp only [Hp.one]; rw [if_neg (by omega)]) (fun q o hq => ?_) (fun q hq => ?_)
  · refine ⟨by simp [hzl], .inr ⟨_, (List.replicate n zs).flatten, rfl, if_pos rfl, Nat.le_refl _, h63, by simp [hzl], ?_⟩⟩
    rw [List.take_of_length_le (by simp [hzl])]
  · simp only [Hp.one] at hq
    split at hq
    · rename_i hqs; subst hqs; cases hq
      show (w.heap.push _)[w.heap.size]? = _
      rw [Array.getElem?_push, if_pos rfl, ← hcs]; rfl
    · cases hq
  · show (w.heap.push _)[q]? = _
    rw [Array.getElem?_push, if_neg (by omega)]

theorem pv_indexO {P : Program} {t el : TypeId} {sz ln cap b o off : Nat} {S : Option Addr} {k : IntKind} {i : Int} (ht : peval P (underlying t) = some (.slice el)) (hs : peval P (sizeOf el) = some sz) (h0 : 0 ≤ i) (h1 : i < ln) (hS : S = some ⟨b, o, none⟩) (ho : o + i.toNat * sz = off) :
    peval P (vN (Instr.indexAt t (.slice S ln cap) (.int k i))) = some (.value (.pointer (some ⟨b, off, none⟩))) := by
  subst hS; exact pv_index ht hs h0 h1 ho
end
/-- the elements' cells, one behind the other -/
theorem flat_get {α : Type} (f : α → List Value) (sz : Nat) (hf : ∀ x, (f x).length = sz) : ∀ (l : List α) (i c : Nat) (x : α) (v : Value), l[i]? = some x → (f x)[c]? = some v → (l.flatMap f)[i * sz + c]? = some v
  | [], i, c, x, v, h, _ => by simp at h
  | y :: l, 0, c, x, v, h, hv => by
    simp at h; subst h
    have : c < sz := by rw [← hf y]; exact (List.getElem?_eq_some_iff.1 hv).1
    rw [List.flatMap_cons, List.getElem?_append_left (by rw [hf]; omega)]; simpa using hv
  | y :: l, i + 1, c, x, v, h, hv => by
    rw [List.flatMap_cons, List.getElem?_append_right (by rw [hf, Nat.succ_mul]; omega), hf, show (i + 1) * sz + c - sz = i * sz + c by rw [Nat.succ_mul]; omega]
    exact flat_get f sz hf l i c x v (by simpa using h) hv
end Go.Sp
