/- Regions that draw their order and write: whatever operation comes up next. What only is read is hidden away till the operation that writes it. Conditions: none. -/
import Derived.Test.YtdibbcmfgdgdfaaS6
set_option linter.unusedSimpArgs false
set_option linter.unnecessarySimpa false
set_option linter.unusedVariables false
namespace Go.Sp
open Go

def wpAnyI (P : Program) (ops : Array Oper) (Q : Exit → Act → World → Prop) (I : Array Bool → World → Prop) : Nat → Array Bool → Act → World → Prop
  | 0, L, a, w => Region.ready .any ops L = [] ∧ Q .normal a w
  | f + 1, L, a, w => (Region.ready .any ops L = [] → Q .normal a w) ∧
    ∀ i ∈ Region.ready .any ops L, wpOp P ops Q i (fun a' w' => I (L.setIfInBounds i true) w' ∧ wpAnyI P ops Q I f (L.setIfInBounds i true) a' w') a w

theorem wpAny_of_I {P : Program} {ops : Array Oper} {Q : Exit → Act → World → Prop} {I : Array Bool → World → Prop} : ∀ (f : Nat) (L : Array Bool) (a : Act) (w : World), wpAnyI P ops Q I f L a w → wpAny P .any ops Q f L a w
  | 0, _, _, _, h => h
  | f + 1, L, a, w, h => ⟨h.1, fun i hi => wpOp_mono (fun a' w' h' => wpAny_of_I f _ a' w' h'.2) (h.2 i hi)⟩

theorem wpAnyI_weaken {P : Program} {ops : Array Oper} {Q : Exit → Act → World → Prop} {I I' : Array Bool → World → Prop} {dep : Nat} (hI : ∀ L w, L.getD dep false = true → I' L w) :
    ∀ (f : Nat) (L : Array Bool) (a : Act) (w : World), L.getD dep false = true → wpAnyI P ops Q I f L a w → wpAnyI P ops Q I' f L a w
  | 0, _, _, _, _, h => h
  | f + 1, L, a, w, hL, h => ⟨h.1, fun i hi => wpOp_mono (fun a' w' h' => ⟨hI _ _ (getD_set_true hL), wpAnyI_weaken hI f _ a' w' (getD_set_true hL) h'.2⟩) (h.2 i hi)⟩

/-- in this state the operation yields this value in every world that bears I -/
def YI (P : Program) (ops : Array Oper) (J : World → Prop) (o : Oper) (v : Value) (a : Act) : Prop :=
  (Region.wanted o (yielded ops a.tmps) = true ∧ ∀ w, J w → (execOp a.eval o).run P w = .ok (.value v) w) ∨ (Region.wanted o (yielded ops a.tmps) = false ∧ v = undef)
theorem YI.of_same {P : Program} {ops : Array Oper} {J : World → Prop} {o : Oper} {v : Value} {a a' : Act} (hy : YI P ops J o v a) (he : execOp a'.eval o = execOp a.eval o)
    (hw : Region.wanted o (yielded ops a'.tmps) = Region.wanted o (yielded ops a.tmps)) : YI P ops J o v a' := by
  unfold YI at *; rw [he, hw]; exact hy
theorem YI.wpOp {P : Program} {ops : Array Oper} {J : World → Prop} {Q : Exit → Act → World → Prop} {i : Nat} {o : Oper} {v : Value} {a : Act} {w : World} (hi : ops[i]? = some o) (hy : YI P ops J o v a) (hw : J w) {K : Act → World → Prop} (h : K (a.put o.dst v) w) : wpOp P ops Q i K a w := by
  unfold Go.wpOp
  simp only [hi]
  rcases hy with ⟨h1, h2⟩ | ⟨h1, rfl⟩
  · simp only [h1, if_true]
    refine .inl ?_
    unfold Oper.wp
    rw [h2 w hw]
    exact h
  · simp only [h1, Bool.false_eq_true, if_false]; exact h

/-- one operation, apart from 'oi' -/
theorem wpOp_swap {P : Program} {ops : Array Oper} {J : World → Prop} {Q : Exit → Act → World → Prop} (hQ : ∀ c a w, ¬ Q (.panic c) a w) {j : Nat} {oi oj : Oper} {v : Value} (hj : ops[j]? = some oj) (hap : oi.apart ops oj = true)
    (hsi : ∀ cs b, oi.op ≠ .select cs b) (hsj : ∀ cs b, oj.op ≠ .select cs b) {K : Act → World → Prop} {a : Act} {w : World}
    (hy : YI P ops J oi v a) (h : wpOp P ops Q j K (a.put oi.dst v) w) :
    wpOp P ops Q j (fun a' w' => YI P ops J oi v a' ∧ K (a'.put oi.dst v) w') a w := by
  obtain ⟨h1, h2, h3⟩ := Oper.apart_spec hap
  have keep : ∀ (a : Act) u, YI P ops J oi v a → YI P ops J oi v (a.put oj.dst u) := fun a u hy =>
    hy.of_same (execOp_put oi hsi _ oj.dst u h3) (wanted_put oi _ oj.dst u h3)
  have comm : ∀ (a : Act) u, (a.put oj.dst u).put oi.dst v = (a.put oi.dst v).put oj.dst u := fun a u => (Act.put_comm _ v u h2).symm
  unfold wpOp at *
  simp only [hj] at *
  rw [wanted_put oj _ oi.dst v h1] at h
  split
  · rename_i hw
    simp only [hw, if_true] at h
    rcases h with h | ⟨h, hl⟩
    · left
      unfold Oper.wp at *
      rw [execOp_put oj hsj _ oi.dst v h1] at h
      generalize (execOp a.eval oj).run P w = r at *
      cases r with
      | ok n w' =>
        cases n <;> simp only [Oper.upon] at h ⊢
        case value u => exact ⟨keep a u hy, by rw [comm]; exact h⟩
        case skip => exact ⟨keep a _ hy, by rw [comm]; exact h⟩
        case enter f args =>
          refine h.mono fun en w'' hen => ?_
          cases en with
          | returned u => exact ⟨keep a u hy, by rw [comm]; exact hen⟩
          | panicked c => exact (hQ _ _ _ hen).elim
          | outgrown => exact hen
        case row row args => exact h.mono fun u w'' hen => ⟨keep a u hy, by rw [comm]; exact hen⟩
        case defer d =>
          refine ⟨keep { a with defers := d :: a.defers } _ hy, ?_⟩
          rw [comm { a with defers := d :: a.defers }]
          have : ({ a with defers := d :: a.defers } : Act).put oi.dst v = { a.put oi.dst v with defers := d :: (a.put oi.dst v).defers } := by cases oi.dst <;> rfl
          rw [this]; exact h
      | halt x w' => cases x <;> simp only [Oper.upon] at h ⊢ <;> first | exact (hQ _ _ _ h).elim | exact h.elim | exact h
    · right
      refine ⟨?_, hl⟩
      unfold Oper.asks at *
      rw [execOp_put oj hsj _ oi.dst v h1] at h
      exact h
  · rename_i hw
    simp only [hw] at h
    exact ⟨keep a _ hy, by rw [comm]; exact h⟩

/-- q can't come up ahead of i -/
def blkB (ops : Array Oper) (L : Array Bool) (i : Nat) : Nat → Nat → Bool
  | 0, _ => false
  | f + 1, q => !L.getD q false && (match ops[q]? with | none => false | some o => o.after.any fun e => Region.binds .any e && (e.on == i || blkB ops L i f e.on))
def depB (ops : Array Oper) (L : Array Bool) (dep i : Nat) : Bool := match ops[dep]? with
  | none => true
  | some _ => blkB ops L i 8 dep
theorem blk_not {ops : Array Oper} {L : Array Bool} {i : Nat} (hi : L.getD i true = false) : ∀ {f q : Nat}, blkB ops L i f q = true → q ∉ Region.ready .any ops L
  | 0, q, h => by simp [blkB] at h
  | f + 1, q, h => by
    intro hr
    obtain ⟨_, o, ho, hall⟩ := mem_ready.1 hr
    simp only [blkB, ho, Bool.and_eq_true, Array.any_eq_true', Bool.or_eq_true, beq_iff_eq] at h
    obtain ⟨_, e, he, hb, h2⟩ := h
    have h3 := hall e he hb
    rcases h2 with h2 | h2
    · rw [h2] at h3
      rcases Nat.lt_or_ge i L.size with h' | h'
      · simp [h'] at hi h3; rw [hi] at h3; cases h3
      · simp [Array.getElem?_eq_none h'] at h3
    · cases f with
      | zero => simp [blkB] at h2
      | succ f =>
        simp only [blkB, Bool.and_eq_true, Bool.not_eq_true'] at h2
        rw [h2.1] at h3; cases h3
theorem blk_keep {ops : Array Oper} {L : Array Bool} {i j : Nat} (hi : L.getD i true = false) (hj : j ∈ Region.ready .any ops L) : ∀ {f q : Nat}, blkB ops L i f q = true → blkB ops (L.setIfInBounds j true) i f q = true
  | 0, q, h => by simp [blkB] at h
  | f + 1, q, h => by
    have hq : q ≠ j := fun he => blk_not hi h (he ▸ hj)
    simp only [blkB] at h ⊢
    rw [getD_set_ne false (Ne.symm hq)]
    simp only [Bool.and_eq_true] at h ⊢
    refine ⟨h.1, ?_⟩
    have h2 := h.2
    cases ho : ops[q]? with
    | none => simp [ho] at h2
    | some o =>
      simp only [ho, Array.any_eq_true', Bool.and_eq_true, Bool.or_eq_true, beq_iff_eq] at h2 ⊢
      obtain ⟨e, he, hb, h3⟩ := h2
      exact ⟨e, he, hb, h3.imp id (fun h4 => blk_keep hi hj h4)⟩

/-- what may come up now, and yields its value in every world in which what is hidden lies as it does, may be taken first -/
theorem wpAnyI_first {P : Program} {ops : Array Oper} {J : World → Prop} {Q : Exit → Act → World → Prop} (hQ : ∀ c a w, ¬ Q (.panic c) a w) (hsel : Region.noSelect ops = true) {dep i : Nat} (hne : dep ≠ i) {oi : Oper} {v : Value} (hi : ops[i]? = some oi) :
    ∀ (f : Nat) (L : Array Bool) (a : Act) (w : World), depB ops L dep i = true → i ∈ Region.ready .any ops L → L.getD dep false = false → J w →
      (∀ j oj, ops[j]? = some oj → j ≠ i → L.getD j true = false → (∀ e ∈ oj.after, Region.binds .any e = true → e.on ≠ i) → oi.apart ops oj = true) → YI P ops J oi v a →
      wpAnyI P ops Q (fun L w => L.getD dep false = true ∨ J w) f (L.setIfInBounds i true) (a.put oi.dst v) w → wpAnyI P ops Q (fun L w => L.getD dep false = true ∨ J w) (f + 1) L a w := by
  have hs := Region.noSelect_spec hsel
  intro f
  induction f with
  | zero =>
    intro L a w hdep hr hd hw hfree hy H
    refine ⟨fun h => (by rw [h] at hr; cases hr), fun j hj => ?_⟩
    by_cases hji : j = i
    · subst hji; exact hy.wpOp hi hw ⟨.inr hw, H⟩
    · have := ready_mono hj hji
      rw [H.1] at this
      cases this
  | succ f ih =>
    intro L a w hdep hr hd hw hfree hy H
    refine ⟨fun h => (by rw [h] at hr; cases hr), fun j hj => ?_⟩
    by_cases hji : j = i
    · subst hji; exact hy.wpOp hi hw ⟨.inr hw, H⟩
    · have h1 := H.2 j (ready_mono hj hji)
      have hj' := hj
      obtain ⟨hjun, oj, hoj, hall⟩ := mem_ready.1 hj
      have hi0 := (mem_ready.1 hr).1
      have hnot : ∀ e ∈ oj.after, Region.binds .any e = true → e.on ≠ i := fun e he hb heq => by
        have h1 := hall e he hb
        rw [heq] at h1
        rcases Nat.lt_or_ge i L.size with h' | h'
        · simp [h'] at hi0 h1; rw [hi0] at h1; cases h1
        · simp [Array.getElem?_eq_none h'] at h1
      have hjd : j ≠ dep := by
        intro h; subst h
        unfold depB at hdep
        simp only [hoj] at hdep
        exact blk_not hi0 hdep hj'
      have h2 := wpOp_swap hQ hoj (hfree j oj hoj hji hjun hnot) (fun cs b => hs i oi cs b hi) (fun cs b => hs j oj cs b hoj) hy h1
      refine wpOp_mono (fun a' w' h3 => ?_) h2
      obtain ⟨h3, h4, h5⟩ := h3
      have hdep' : depB ops (L.setIfInBounds j true) dep i = true := by
        unfold depB at hdep ⊢
        cases hod : ops[dep]? with
        | none => rfl
        | some o => simp only [hod] at hdep ⊢; exact blk_keep hi0 hj' hdep
      have hd' : (L.setIfInBounds j true).getD dep false = false := by rw [getD_set_ne false hjd]; exact hd
      have hJ : J w' := by
        refine h4.resolve_left (fun h => ?_)
        rw [Array.setIfInBounds_comm _ _ (Ne.symm hji), getD_set_ne false (Ne.symm hne), hd'] at h
        cases h
      refine ⟨.inr hJ, ih (L.setIfInBounds j true) a' w' hdep' (ready_mono hr (Ne.symm hji)) hd' hJ (fun k ok hk hki hun hno => ?_) h3 ?_⟩
      · refine hfree k ok hk hki ?_ hno
        by_cases hjk : j = k
        · subst hjk; exact hjun
        · rw [getD_set_ne true hjk] at hun; exact hun
      · rw [Array.setIfInBounds_comm _ _ hji]; exact h5

/-- the game over what is owned: E is what the effects turn, H is hidden till 'dep' -/
def GOps (C : Cx) (ops : Array Oper) (k : List Item) (dep : Nat) (H : List Asn) (L : Array Bool) (m : Nat) (e : Env) (A : List Asn) : Prop :=
  ∀ (T : Array Value) (w : World) (F : Fr) (hH : Hp), Fits C.n e T → star H hH → hH.disj F.h → Own A ⟨hH.join F.h, F.W⟩ w →
    wpAnyI C.P ops (QK C k F) (fun L w => L.getD dep false = true ∨ hH.le w) m L ⟨T, []⟩ w
/-- operation i comes up -/
def GStep (C : Cx) (ops : Array Oper) (k : List Item) (dep : Nat) (H : List Asn) (L : Array Bool) (m i : Nat) (e : Env) (A : List Asn) : Prop :=
  ∀ (T : Array Value) (w : World) (F : Fr) (hH : Hp), Fits C.n e T → star H hH → hH.disj F.h → Own A ⟨hH.join F.h, F.W⟩ w →
    wpOp C.P ops (QK C k F) i (fun a' w' => ((L.setIfInBounds i true).getD dep false = true ∨ hH.le w') ∧ wpAnyI C.P ops (QK C k F) (fun L w => L.getD dep false = true ∨ hH.le w) m (L.setIfInBounds i true) a' w') ⟨T, []⟩ w

theorem QK_panic {C : Cx} {k : List Item} {F : Fr} : ∀ c a w, ¬ QK C k F (.panic c) a w := fun _ _ _ h => h

theorem star_own {H A : List Asn} {F hH : Hp} {w : World} (h1 : star H hH) (h2 : hH.disj F) (h3 : Owns A (hH.join F) w) : Owns (H ++ A) F w := by
  have : Owns (star H :: A) F w := ⟨hH, h1, h2, h3⟩
  exact Owns.star_out this

theorem At.game {C : Cx} {k k' : List Item} {e : Env} {A E H : List Asn} {ops : Array Oper} {m : Nat} (is : List Nat) (dep : Nat) {L : Array Bool} (hk : rgOf k = some (ops, m, true, k')) (n : Nat) {k'' : List Item} (hk2 : Sp.adm n k' = k'')
    (hm : C.P.follows .mixedOrders = true) (hL : Array.replicate m false = L) (hp : pickAt is A = some (H, E)) (h : GOps C ops k'' dep H L m e E) : At C k e A := by
  intro T w F hf ho
  unfold rgOf at hk
  split at hk
  · rename_i id ops' d k1
    simp only [Option.some.injEq, Prod.mk.injEq] at hk
    obtain ⟨rfl, rfl, rfl, rfl⟩ := hk
    have ho' : Own A F { w with drawn := w.drawn + 1 } := ⟨Owns.retarget (w := w) (fun G _ hG n o hn => hG n o hn) ho.1, ⟨ho.2.os, ho.2.tape, ho.2.output, ho.2.size⟩⟩
    obtain ⟨hH, g1, g2, g3⟩ := Owns.star_in (Owns.perm (pickAt_perm hp) ho'.1)
    have h1 := h T _ F hH hf g1 g2 ⟨g3, ho'.2⟩
    subst hL
    refine Run.of_wp (wp_region_any (id := id) hm (wpAny_of_I _ _ _ _ h1)) (fun a' w' hq => ?_) (fun _ _ hq => hq) (fun ex a' w' hq => ?_)
    · subst hk2; exact Run.adm n _ hq.2
    · cases ex <;> simp [QK] at hq ⊢
  · cases hk

section
variable {C : Cx} {ops : Array Oper} {k : List Item} {dep m : Nat} {H : List Asn} {L L' : Array Bool} {e : Env} {A : List Asn}
theorem GOps.nil (hr : Region.ready .any ops L = []) (h : At C k e (H ++ A)) : GOps C ops k dep H L 0 e A :=
  fun T w F hH hf g1 g2 g3 => ⟨hr, rfl, h T w F hf ⟨star_own g1 g2 g3.1, g3.2⟩⟩
/-- a value of what is hidden, or of no memory, may be taken first -/
theorem GOps.v (i : Nat) {d : Nat} {v : Value} (h : Val C ops e i H d v) (hs : Region.noSelect ops = true) (hr : (Region.ready .any ops L).contains i = true) (hfr : Region.free .any ops L i = true) (hdp : (depB ops L dep i && (dep != i) && !L.getD dep false) = true) (hL : L.setIfInBounds i true = L')
    (h3 : GOps C ops k dep H L' m ((d, v) :: e) A) : GOps C ops k dep H L (m + 1) e A := by
  intro T w F hH hf g1 g2 g3
  obtain ⟨o, hio, hw, hd, hlt, hrun⟩ := h (fun t => T.getD t undef)
  subst hL
  simp only [Bool.and_eq_true, bne_iff_ne, ne_eq, Bool.not_eq_true'] at hdp
  have hown : ∀ w', hH.le w' → Owns H Hp.emp w' := fun w' hle => by
    have : Owns (star H :: []) Hp.emp w' := ⟨hH, g1, fun n => .inr rfl, fun n o hn => hle n o (by simpa [Hp.join, Hp.emp] using hn)⟩
    have := Owns.star_out this
    rwa [List.append_nil] at this
  have hle : hH.le w := Hp.le_left (Owns.le g3.1)
  refine wpAnyI_first (J := fun w => hH.le w) QK_panic hs hdp.1.2 hio m L ⟨T, []⟩ w hdp.1.1 (by simpa using hr) hdp.2 hle (Region.free_spec hio hfr) (v := v) (.inl ⟨wantE_spec hf hw, fun w' hw' => by rw [eval_ev hf]; exact hrun _ w' (hown w' hw')⟩) ?_
  rw [hd]
  exact h3 _ w F hH (hf.put hlt v) g1 g2 g3
/-- an operation that its guard strikes -/
theorem GOps.skip (i : Nat) {o : Oper} {e' : Env} (hi : ops[i]? = some o) (hwt : wantE ops e o = some false) (he : putE C.n o undef e = some e') (hs : Region.noSelect ops = true) (hr : (Region.ready .any ops L).contains i = true) (hfr : Region.free .any ops L i = true) (hdp : (depB ops L dep i && (dep != i) && !L.getD dep false) = true) (hL : L.setIfInBounds i true = L')
    (h3 : GOps C ops k dep H L' m e' A) : GOps C ops k dep H L (m + 1) e A := by
  intro T w F hH hf g1 g2 g3
  subst hL
  simp only [Bool.and_eq_true, bne_iff_ne, ne_eq, Bool.not_eq_true'] at hdp
  obtain ⟨T', hT, hf'⟩ := putE_spec he hf
  refine wpAnyI_first (J := fun w => hH.le w) QK_panic hs hdp.1.2 hi m L ⟨T, []⟩ w hdp.1.1 (by simpa using hr) hdp.2 (Hp.le_left (Owns.le g3.1)) (Region.free_spec hi hfr) (v := undef) (.inr ⟨wantE_spec hf hwt, rfl⟩) ?_
  rw [hT]
  exact h3 _ w F hH hf' g1 g2 g3
theorem GOps.all (l : List Nat) (hr : Region.ready .any ops L = l) (hl : l ≠ []) (h : ∀ i ∈ l, GStep C ops k dep H L m i e A) : GOps C ops k dep H L (m + 1) e A := by
  intro T w F hH hf g1 g2 g3
  exact ⟨fun h0 => absurd (hr ▸ h0) hl, fun i hi => h i (hr ▸ hi) T w F hH hf g1 g2 g3⟩
theorem GOps.one (i : Nat) (hr : Region.ready .any ops L = [i]) (h : GStep C ops k dep H L m i e A) : GOps C ops k dep H L (m + 1) e A :=
  GOps.all [i] hr (by simp) (fun j hj => by simp at hj; subst hj; exact h)
theorem GOps.two (i j : Nat) (hr : Region.ready .any ops L = [i, j]) (h : GStep C ops k dep H L m i e A) (h' : GStep C ops k dep H L m j e A) : GOps C ops k dep H L (m + 1) e A :=
  GOps.all [i, j] hr (by simp) (fun q hq => by simp at hq; rcases hq with rfl | rfl; exact h; exact h')
theorem GOps.three (i j l : Nat) (hr : Region.ready .any ops L = [i, j, l]) (h : GStep C ops k dep H L m i e A) (h' : GStep C ops k dep H L m j e A) (h'' : GStep C ops k dep H L m l e A) : GOps C ops k dep H L (m + 1) e A :=
  GOps.all [i, j, l] hr (by simp) (fun q hq => by simp at hq; rcases hq with rfl | rfl | rfl; exact h; exact h'; exact h'')
/-- the operation turns nothing that is hidden -/
theorem GStep.o (i : Nat) (hL : L.setIfInBounds i true = L') (h : OpEff C ops e i A (GOps C ops k dep H L' m)) : GStep C ops k dep H L m i e A := by
  intro T w F hH hf g1 g2 g3
  subst hL
  exact h T w ⟨hH.join F.h, F.W⟩ hf g3 _ _ (fun hog => ⟨⟨T, []⟩, w, hog⟩) (fun e' A' T' w' hj hf' ho' => ⟨.inr (Hp.le_left (Owns.le ho'.1)), hj T' w' F hH hf' g1 g2 ho'⟩)
/-- the operation till which things were hidden -/
theorem GStep.d (hL : L.setIfInBounds dep true = L') (hd : L'.getD dep false = true) (h : OpEff C ops e dep (H ++ A) (GOps C ops k ops.size [] L' m)) : GStep C ops k dep H L m dep e A := by
  intro T w F hH hf g1 g2 g3
  subst hL
  refine h T w F hf ⟨star_own g1 g2 g3.1, g3.2⟩ _ _ (fun hog => ⟨⟨T, []⟩, w, hog⟩) (fun e' A' T' w' hj hf' ho' => ⟨.inl hd, ?_⟩)
  refine wpAnyI_weaken (dep := dep) (I := fun L w => L.getD ops.size false = true ∨ Hp.emp.le w) (fun L w hL => .inl hL) m _ _ _ hd ?_
  exact hj T' w' F Hp.emp hf' trivial (Hp.disj_emp _) (by rw [Hp.emp_join]; exact ho')
/-- effect-free operations, in this order -/
def gpures (P : Program) (n : Nat) (ops : Array Oper) (dep : Nat) (u : Nat → Value) : List Nat → Array Bool → Nat → Env → Option (Array Bool × Nat × Env)
  | [], L, m, e => some (L, m, e)
  | i :: r, L, m, e => match m with
    | 0 => none
    | m + 1 => match (Region.ready .any ops L).contains i && Region.free .any ops L i && (depB ops L dep i && (dep != i) && !L.getD dep false) with
      | false => none
      | true => match ops[i]? with
        | none => none
        | some o => match wantE ops e o with
          | none => none
          | some false => match putE n o undef e with
            | some e' => gpures P n ops dep u r (L.setIfInBounds i true) m e'
            | none => none
          | some true => match peval P (execOp (ev e u) o) with
            | some (.value v) => match putE n o v e with
              | some e' => gpures P n ops dep u r (L.setIfInBounds i true) m e'
              | none => none
            | _ => none
theorem GOps.pures (is : List Nat) {m' : Nat} {e' : Env} (hs : Region.noSelect ops = true) (h : ∀ u, gpures C.P C.n ops dep u is L m e = some (L', m', e')) (h3 : GOps C ops k dep H L' m' e' A) : GOps C ops k dep H L m e A := by
  intro T w F hH hf g1 g2 g3
  have h1 := h (fun t => T.getD t undef)
  have key : ∀ (is : List Nat) (L : Array Bool) (m : Nat) (e1 : Env) (T' : Array Value), Fits C.n e1 T' → (∀ t, (T'.getD t undef = T.getD t undef) ∨ ∃ v, e1.get t = some v) →
      gpures C.P C.n ops dep (fun t => T.getD t undef) is L m e1 = some (L', m', e') → wpAnyI C.P ops (QK C k F) (fun L w => L.getD dep false = true ∨ hH.le w) m L ⟨T', []⟩ w := by
    intro is
    induction is with
    | nil => intro L m e1 T' hf' _ h; simp only [gpures] at h; cases h; exact h3 T' w F hH hf' g1 g2 g3
    | cons i r ih =>
      intro L m e1 T' hf' hu h
      cases m with
      | zero => simp [gpures] at h
      | succ m =>
        simp only [gpures] at h
        cases hc : ((Region.ready .any ops L).contains i && Region.free .any ops L i && (depB ops L dep i && (dep != i) && !L.getD dep false)) with
        | false => rw [hc] at h; simp at h
        | true =>
          simp only [hc] at h
          simp only [Bool.and_eq_true, bne_iff_ne, ne_eq, Bool.not_eq_true'] at hc
          obtain ⟨⟨c1, c2⟩, ⟨c3, c4⟩, c5⟩ := hc
          cases ho' : ops[i]? with
          | none => rw [ho'] at h; simp at h
          | some o =>
            simp only [ho'] at h
            cases hw : wantE ops e1 o with
            | none => rw [hw] at h; simp at h
            | some b =>
              cases b with
              | false =>
                simp only [hw] at h
                cases hp : putE C.n o undef e1 with
                | none => rw [hp] at h; simp at h
                | some e2 =>
                  simp only [hp] at h
                  obtain ⟨T2, hT2, hf2, hu2⟩ := putE_more hp hf' hu
                  refine wpAnyI_first (J := fun w => hH.le w) QK_panic hs c4 ho' m L ⟨T', []⟩ w c3 (by simpa using c1) c5 (Hp.le_left (Owns.le g3.1)) (Region.free_spec ho' c2) (v := undef) (.inr ⟨wantE_spec hf' hw, rfl⟩) ?_
                  rw [hT2]
                  exact ih _ _ e2 T2 hf2 hu2 h
              | true =>
                simp only [hw] at h
                cases hv : peval C.P (execOp (ev e1 fun t => T.getD t undef) o) with
                | none => rw [hv] at h; simp at h
                | some nx =>
                  cases nx with
                  | value v =>
                    simp only [hv] at h
                    cases hp : putE C.n o v e1 with
                    | none => rw [hp] at h; simp at h
                    | some e2 =>
                      simp only [hp] at h
                      obtain ⟨T2, hT2, hf2, hu2⟩ := putE_more hp hf' hu
                      refine wpAnyI_first (J := fun w => hH.le w) QK_panic hs c4 ho' m L ⟨T', []⟩ w c3 (by simpa using c1) c5 (Hp.le_left (Owns.le g3.1)) (Region.free_spec ho' c2) (v := v) (.inl ⟨wantE_spec hf' hw, fun w' _ => by rw [eval_ev hf', ev_same hu]; exact run_peval hv w'⟩) ?_
                      rw [hT2]
                      exact ih _ _ e2 T2 hf2 hu2 h
                  | _ => rw [hv] at h; simp at h
  exact key is L m e T hf (fun t => .inl rfl) h1
/-- rules on what is owned -/
theorem GOps.learn {p : Prop} (h : ∀ F w, Owns A F w → p) (ha : p → GOps C ops k dep H L m e A) : GOps C ops k dep H L m e A :=
  fun T w F hH hf g1 g2 g3 => ha (h _ w g3.1) T w F hH hf g1 g2 g3
theorem GOps.learnH {p : Prop} (h : ∀ F w, Owns H F w → p) (ha : p → GOps C ops k dep H L m e A) : GOps C ops k dep H L m e A :=
  fun T w F hH hf g1 g2 g3 => ha (h _ w (star_own g1 g2 g3.1).left) T w F hH hf g1 g2 g3
theorem GOps.conseq1 {A' : List Asn} (h : ∀ F w, Owns A F w → Owns A' F w) (ha : GOps C ops k dep H L m e A') : GOps C ops k dep H L m e A :=
  fun T w F hH hf g1 g2 g3 => ha T w F hH hf g1 g2 ⟨h _ w g3.1, g3.2⟩
theorem GStep.learn {i : Nat} {p : Prop} (h : ∀ F w, Owns A F w → p) (ha : p → GStep C ops k dep H L m i e A) : GStep C ops k dep H L m i e A :=
  fun T w F hH hf g1 g2 g3 => ha (h _ w g3.1) T w F hH hf g1 g2 g3
theorem GStep.learnH {i : Nat} {p : Prop} (h : ∀ F w, Owns H F w → p) (ha : p → GStep C ops k dep H L m i e A) : GStep C ops k dep H L m i e A :=
  fun T w F hH hf g1 g2 g3 => ha (h _ w (star_own g1 g2 g3.1).left) T w F hH hf g1 g2 g3
theorem GStep.conseq1 {i : Nat} {A' : List Asn} (h : ∀ F w, Owns A F w → Owns A' F w) (ha : GStep C ops k dep H L m i e A') : GStep C ops k dep H L m i e A :=
  fun T w F hH hf g1 g2 g3 => ha T w F hH hf g1 g2 ⟨h _ w g3.1, g3.2⟩
theorem GOps.split (E : Bool → Env) (b : Bool) (ht : b = true → GOps C ops k dep H L m (E true) A) (hf : b = false → GOps C ops k dep H L m (E false) A) : GOps C ops k dep H L m (E b) A := by
  cases b
  · exact hf rfl
  · exact ht rfl
end
end Go.Sp
