/- Maps from whole numbers, ranged over: the range, a step, the step's entry. Conditions: none. -/
import Derived.Test.YtdibbcmfgdgdfaaS11
import Derived.Maps.RangeRun
set_option linter.unnecessarySimpa false
set_option linter.unusedVariables false
set_option linter.unusedSimpArgs false
namespace Go.Sp
open Go
open Go.ChangeMaps (setBlock)

/-- the map in block m, ranged over by the iterator in block r: left: which keys are still to come; last: the step's key -/
def RngI (m r : Nat) (f : Int → Option Value) (left : Int → Bool) (last : Option Int) : Asn := fun h => ∃ (es : Array MapEntry) (clock since : Nat) (seen : Array Nat) (c0 : Nat),
  h m = some (.map es clock) ∧ h r = some (.mapIter (some m) since seen c0) ∧ GoodM es.toList clock ∧ (∀ k, lookI es.toList k = f k) ∧ (∀ x ∈ es.toList, x.born < since) ∧ since ≤ c0 ∧ since ≤ clock ∧
  (∀ x ∈ es.toList, ∀ k, x.key = .int .i64 k → left k = !seen.contains x.born) ∧ (∀ k, left k = true → (f k).isSome = true) ∧
  (∀ k, last = some k → c0 = clock ∧ ∃ x ∈ es.toList, x.key = .int .i64 k ∧ seen.back? = some x.born)

theorem look_mem {k : Int} {v : Value} : ∀ {es : List MapEntry}, (∀ e ∈ es, ∃ x, e.key = Value.int .i64 x) → lookI es k = some v → ∃ e ∈ es, e.key = .int .i64 k ∧ e.val = v
  | [], _, h => by simp [lookI] at h
  | e :: r, h, hl => by
    obtain ⟨x, hx⟩ := h e (by simp)
    simp only [lookI, hx] at hl
    split at hl
    · rename_i he; subst he; cases hl; exact ⟨e, by simp, hx, rfl⟩
    · obtain ⟨e', h1, h2⟩ := look_mem (fun e he => h e (by simp [he])) hl
      exact ⟨e', by simp [h1], h2⟩
theorem mem_look {k : Int} : ∀ {es : List MapEntry}, es.Pairwise (fun a b => a.key ≠ b.key ∧ a.born ≠ b.born) → ∀ {e : MapEntry}, e ∈ es → (∀ e ∈ es, ∃ x, e.key = Value.int .i64 x) → e.key = .int .i64 k → lookI es k = some e.val
  | [], _, e, h, _, _ => by simp at h
  | a :: r, hp, e, he, h, hk => by
    obtain ⟨x, hx⟩ := h a (by simp)
    simp only [lookI, hx]
    rcases List.mem_cons.1 he with rfl | he
    · rw [hx] at hk; cases hk; simp
    · have hne : x ≠ k := fun hxk => by
        subst hxk
        exact ((List.pairwise_cons.1 hp).1 e he).1 (by rw [hx, hk])
      rw [if_neg hne]
      exact mem_look (List.pairwise_cons.1 hp).2 he (fun e he => h e (by simp [he])) hk
theorem apart_key {es : List MapEntry} (hp : es.Pairwise (fun a b => a.key ≠ b.key ∧ a.born ≠ b.born)) : ∀ {a b : MapEntry}, a ∈ es → b ∈ es → a.born = b.born → a = b := by
  induction es with
  | nil => intro a b ha; simp at ha
  | cons x r ih =>
    intro a b ha hb h
    obtain ⟨h1, h2⟩ := List.pairwise_cons.1 hp
    rcases List.mem_cons.1 ha with rfl | ha'
    · rcases List.mem_cons.1 hb with rfl | hb'
      · rfl
      · exact absurd h (h1 b hb').2
    · rcases List.mem_cons.1 hb with rfl | hb'
      · exact absurd h.symm (h1 a ha').2
      · exact ih h2 ha' hb' h
theorem apart_born {es : List MapEntry} (hp : es.Pairwise (fun a b => a.key ≠ b.key ∧ a.born ≠ b.born)) : ∀ {a b : MapEntry}, a ∈ es → b ∈ es → a.key = b.key → a = b := by
  induction es with
  | nil => intro a b ha; simp at ha
  | cons x r ih =>
    intro a b ha hb h
    obtain ⟨h1, h2⟩ := List.pairwise_cons.1 hp
    rcases List.mem_cons.1 ha with rfl | ha'
    · rcases List.mem_cons.1 hb with rfl | hb'
      · rfl
      · exact absurd h (h1 b hb').1
    · rcases List.mem_cons.1 hb with rfl | hb'
      · exact absurd h.symm (h1 a ha').1
      · exact ih h2 ha' hb' h

section
variable {qt : Bool} {C : Cx} {ops : Array Oper} {k : List Item} {i m : Nat} {e : Env} {A : List Asn}
theorem run_range {P : Program} {t kt et : TypeId} {z : Value} (hT : MapT P t kt et z) {A : List Asn} {F : Hp} {w : World} (ho : Owns A F w) {j b : Nat} {f : Int → Option Value} (hj : A[j]? = some (MapI b f)) :
    ∃ (r : Nat) (w' : World), (Instr.range t (.map (some b))).run P w = .ok (.pointer (some ⟨r, 0, none⟩)) w' ∧ Owns (A.set j (RngI b r f (fun k => (f k).isSome) none)) F w' ∧ Same w w' := by
  obtain ⟨h, ⟨es, clock, h1, hg, hf⟩, hle⟩ := Owns.get ho hj
  have hb := hle b _ h1
  have hlt : b < w.heap.size := (Array.getElem?_eq_some_iff.1 hb).1
  refine ⟨w.heap.size, w.alloc (.mapIter (some b) clock #[] clock), run_range_map w t kt et b es clock hT.ht hb, ?_, ⟨rfl, rfl, rfl, by show _ ≤ (w.heap.push _).size; simp⟩⟩
  have h0 : Owns (Blk w.heap.size (.mapIter (some b) clock #[] clock) :: A) F (w.alloc (.mapIter (some b) clock #[] clock)) := Owns.newBlk ho _
  have h2 : Owns (Blk w.heap.size (.mapIter (some b) clock #[] clock) :: MapI b f :: A.eraseIdx j) F (w.alloc (.mapIter (some b) clock #[] clock)) := Owns.perm (List.Perm.cons _ (lift_at hj)) h0
  refine Owns.perm (set_at hj).symm ?_
  obtain ⟨hi, q1, q2, hm, ⟨es', clock', g1, g2, g3⟩, q4, q5⟩ := h2
  have q6 := Hp.disj_join.1 q4
  have hbb := Hp.le_left (Owns.le q5) b _ g1
  have hold : (w.alloc (.mapIter (some b) clock #[] clock)).heap[b]? = w.heap[b]? := heap_alloc_old w _ hlt
  rw [hold, hb] at hbb
  cases hbb
  refine ⟨hm.join hi, ⟨es, clock, clock, #[], clock, ?_, ?_, g2, g3, fun x hx => g2.old x hx, Nat.le_refl _, Nat.le_refl _, fun x hx k hk => ?_, fun k hk => hk, fun k hk => by cases hk⟩, Hp.join_disj.2 ⟨q6.2, q2⟩, ?_⟩
  · simp [Hp.join, g1]
  · have hr : hm w.heap.size = none := by
      rcases q6.1 w.heap.size with h | h
      · exact h
      · unfold Blk at q1; rw [q1] at h; cases h
    unfold Blk at q1
    simp [Hp.join, hr, q1]
  · show (f k).isSome = _
    rw [← hf k, mem_look g2.apart hx g2.key hk]; simp
  · rw [Hp.join_assoc]; exact q5
theorem Op.range {J : Env → List Asn → Prop} (j : Nat) (d : Nat) {t kt et : TypeId} {z : Value} (hT : MapT C.P t kt et z) {b : Nat} {f : Int → Option Value} (hk : A[j]? = some (MapI b f))
    (h1 : ∀ u, opM C.n ops e u i = some (some d, vN (Instr.range t (.map (some b))))) (h3 : ∀ r, J ((d, .pointer (some ⟨r, 0, none⟩)) :: e) (A.set j (RngI b r f (fun k => (f k).isSome) none))) : OpEff C ops e i A J :=
  Op.eff (X := Nat) d _ (fun r => .pointer (some ⟨r, 0, none⟩)) (fun r => A.set j (RngI b r f (fun k => (f k).isSome) none)) h1 (fun F w ho => by
    obtain ⟨r, w', k1, k2, k3⟩ := run_range (P := C.P) hT ho hk
    exact ⟨r, w', run_vN k1, k2, k3⟩) h3

theorem RngI.turn {A : List Asn} {F : Hp} {w w' : World} {m r : Nat} {f : Int → Option Value} {left left' : Int → Bool} {last last' : Option Int} (ho : Owns (RngI m r f left last :: A) F w) {es : Array MapEntry} {clock since : Nat} {seen : Array Nat} {c0 : Nat} (hne : m ≠ r)
    (hm : w.heap[m]? = some (.map es clock)) (hr : w'.heap[r]? = some (.mapIter (some m) since seen c0)) (hg : GoodM es.toList clock) (hf : ∀ k, lookI es.toList k = f k) (ho1 : ∀ x ∈ es.toList, x.born < since) (h2 : since ≤ c0) (h3 : since ≤ clock)
    (h4 : ∀ x ∈ es.toList, ∀ k, x.key = .int .i64 k → left' k = !seen.contains x.born) (h5 : ∀ k, left' k = true → (f k).isSome = true) (h6 : ∀ k, last' = some k → c0 = clock ∧ ∃ x ∈ es.toList, x.key = .int .i64 k ∧ seen.back? = some x.born)
    (hn : ∀ n, n ≠ r → w'.heap[n]? = w.heap[n]?) : Owns (RngI m r f left' last' :: A) F w' := by
  refine Owns.update ho (fun ha g1 g2 => ?_)
  obtain ⟨es0, clock0, since0, seen0, c00, k1, k2, _⟩ := g1
  have e1 := g2 m _ k1
  rw [hm] at e1
  cases e1
  refine ⟨fun n => if n = r then some (.mapIter (some m) since seen c0) else ha n, ⟨es, clock, since, seen, c0, ?_, by simp, hg, hf, ho1, h2, h3, h4, h5, h6⟩, fun n => ?_, fun n o q3 => ?_, fun n q3 => ?_⟩
  · simp [hne, k1]
  · by_cases h : n = r
    · subst h; simp [k2]
    · simp [h]
  · by_cases h : n = r
    · subst h; simp at q3; rw [hr, q3]
    · simp only [h, if_false] at q3; rw [hn n h]; exact g2 n o q3
  · refine hn n (fun h => ?_)
    subst h; rw [k2] at q3; cases q3

theorem run_nextI {P : Program} (ty : TypeId) {A : List Asn} {F : Hp} {w : World} (ho : Owns A F w) {j b r : Nat} {f : Int → Option Value} {left : Int → Bool} {last : Option Int} (hj : A[j]? = some (RngI b r f left last)) :
    ((∀ k, left k = false) ∧ (Instr.next (.pointer (some ⟨r, 0, none⟩)) false ty).run P w = .ok (.tuple #[.bool false]) w) ∨
    ∃ (k : Int) (v : Value) (w' : World), left k = true ∧ f k = some v ∧ (Instr.next (.pointer (some ⟨r, 0, none⟩)) false ty).run P w = .ok (.tuple #[.bool true, .int .i64 k, v]) w' ∧ Owns (A.set j (RngI b r f (fun z => left z && !decide (z = k)) (some k))) F w' ∧ Same w w' := by
  obtain ⟨h, ⟨es, clock, since, seen, c0, h1, h2, hg, hf, hold, hs, hs2, hl, hl2, hla⟩, hle⟩ := Owns.get ho hj
  have hb := hle b _ h1
  have hr := hle r _ h2
  have hne : b ≠ r := by intro e; subst e; rw [h1] at h2; cases h2
  rcases run_next_at (P := P) w ty r b since c0 seen es clock hr hb hold hs with ⟨h0, hrun⟩ | ⟨x, hx, w1, hal, hrun⟩
  · refine .inl ⟨fun k => ?_, hrun⟩
    cases hk : left k
    · rfl
    · have h3 := hl2 k hk
      obtain ⟨v, hv⟩ := Option.isSome_iff_exists.1 h3
      rw [← hf k] at hv
      obtain ⟨x, hx, hxk, _⟩ := look_mem hg.key hv
      rw [hl x hx k hxk, all_seen es seen h0 x hx] at hk
      cases hk
  · obtain ⟨hxm, hxs⟩ := mem_left hx
    obtain ⟨k, hk⟩ := hg.key x hxm
    have hr1 : w1.heap[r]? = some (.mapIter (some b) since seen c0) := by rcases hal with rfl | rfl <;> exact hr
    have hrl : r < w1.heap.size := (Array.getElem?_eq_some_iff.1 hr1).1
    have hh : ∀ n : Nat, w1.heap[n]? = w.heap[n]? := by rcases hal with rfl | rfl <;> intro n <;> rfl
    have hsm : Same w w1 := by rcases hal with rfl | rfl <;> exact ⟨rfl, rfl, rfl, Nat.le_refl _⟩
    refine .inr ⟨k, x.val, setBlock w1 r (Obj.mapIter (some b) since (seen.push x.born) clock), by rw [hl x hxm k hk, hxs]; rfl, by rw [← hf k]; exact mem_look hg.apart hxm hg.key hk, by rw [hrun, hk], ?_, hsm.trans ⟨rfl, rfl, rfl, by simp [setBlock]⟩⟩
    refine Owns.perm (set_at hj).symm ?_
    refine RngI.turn (Owns.perm (lift_at hj) ho) (es := es) (clock := clock) (since := since) (seen := seen.push x.born) (c0 := clock) hne hb ?_ hg hf hold (by omega) hs2 ?_ ?_ ?_ ?_
    · simp [setBlock, hrl]
    · intro y hy k2 hk2
      show (left k2 && !decide (k2 = k)) = _
      rw [hl y hy k2 hk2]
      by_cases hkk : k2 = k
      · have : y = x := apart_born hg.apart hy hxm (by rw [hk2, hk, hkk])
        subst this
        simp [hkk]
      · have : y.born ≠ x.born := fun h => hkk (by
          have := apart_key hg.apart hy hxm h
          subst this; rw [hk2] at hk; cases hk; rfl)
        simp [hkk, Array.contains_push, this]
    · intro k2 hk2
      simp only [Bool.and_eq_true] at hk2
      exact hl2 k2 hk2.1
    · intro k2 hk2
      cases hk2
      exact ⟨rfl, x, hxm, hk, by simp⟩
    · intro n hn
      rw [← hh n]
      simp [setBlock, Ne.symm hn]
theorem Op.nextI {J : Env → List Asn → Prop} (j : Nat) (d : Nat) (ty : TypeId) {b r : Nat} {f : Int → Option Value} {left : Int → Bool} {last : Option Int} (hk : A[j]? = some (RngI b r f left last))
    (h1 : ∀ u, opM C.n ops e u i = some (some d, vN (Instr.next (.pointer (some ⟨r, 0, none⟩)) false ty)))
    (hD : (∀ k, left k = false) → J ((d, .tuple #[.bool false]) :: e) A)
    (hM : ∀ k v, left k = true → f k = some v → J ((d, .tuple #[.bool true, .int .i64 k, v]) :: e) (A.set j (RngI b r f (fun z => left z && !decide (z = k)) (some k)))) : OpEff C ops e i A J := by
  intro T w F hf ho N Q hq hN
  obtain ⟨o, hio, hw, hd, hlt, hM'⟩ := opM_spec (h1 (fun t => T.getD t undef))
  unfold wpOp
  simp only [hio, wantE_spec hf hw, if_true]
  refine .inl ?_
  unfold Oper.wp
  rcases run_nextI (P := C.P) ty ho.1 hk with ⟨hl, hrun⟩ | ⟨k, v, w', hl, hv, hrun, ho', hsm⟩
  · rw [eval_ev hf, hM', run_vN hrun]
    simp only [Oper.upon, hd, Act.put]
    exact hN _ _ _ w (hD hl) (hf.put hlt _) ho
  · rw [eval_ev hf, hM', run_vN hrun]
    simp only [Oper.upon, hd, Act.put]
    exact hN _ _ _ w' (hM k v hl hv) (hf.put hlt _) ⟨ho', ho.2.trans hsm⟩
theorem Val.entryI (j : Nat) (d : Nat) {b r : Nat} {f : Int → Option Value} {left : Int → Bool} {n : Int} {v : Value} (hk : A[j]? = some (RngI b r f left (some n))) (hv : f n = some v)
    (h1 : ∀ u, opM C.n ops e u i = some (some d, vN (Instr.entry (.pointer (some ⟨r, 0, none⟩))))) : Val C ops e i A d (.tuple #[.int .i64 n, v]) :=
  Val.of d _ _ h1 (fun F w ho => run_vN (by
    obtain ⟨h, ⟨es, clock, since, seen, c0, g1, g2, hg, hf, hold, hs, hs2, hl, hl2, hla⟩, hle⟩ := Owns.get ho hk
    have hb := hle b _ g1
    have hr := hle r _ g2
    obtain ⟨hc, x, hx, hxk, hbk⟩ := hla n rfl
    subst hc
    have hxv : x.val = v := by
      have := mem_look hg.apart hx hg.key hxk
      rw [hf n, hv] at this; cases this; rfl
    have hfd : es.find? (·.born == x.born) = some x := by
      rw [← Array.find?_toList]
      exact find_born x es.toList (List.pairwise_map.2 (hg.apart.imp (fun h => h.2))) hx
    simp [Instr.entry, getObj, Sem.run, hr, hb, hbk, hfd, hxk, hxv]))
theorem RngI.over {b r : Nat} {f : Int → Option Value} {left : Int → Bool} {last : Option Int} {F : Hp} {w : World} (ho : Owns (RngI b r f left last :: A) F w) : Owns (MapI b f :: A) F w := by
  obtain ⟨h, ⟨es, clock, since, seen, c0, g1, g2, hg, hf, _⟩, h2, h3⟩ := ho
  exact ⟨h, ⟨es, clock, g1, hg, hf⟩, h2, h3⟩
end
end Go.Sp
