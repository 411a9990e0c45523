/- A separation-style walk of Go code in the model: the judgement Run (a frame's todo list runs to the frame's leaving), silent steps, frames known by a short list of slots, heaps owned in chunks. Conditions: none. -/
import Derived.Calls
import Derived.Orders
import Derived.Deep.Quiet
import Derived.KernelRfl
set_option linter.unusedVariables false
set_option linter.unusedSimpArgs false
set_option linter.unnecessarySimpa false
namespace Go.Sp
open Go

/-! ### the run of a frame -/
def Run (P : Program) (f : FuncId) (R : Ending → World → Prop) (a : Act) (k : List Item) (w : World) : Prop :=
  ∀ (b : Frame) (cs : List Frame), b.fn = f → b.kind = .normal →
    ∃ e w' fr, R e w' ∧ Comes P (lone (b.at a k) cs w) (lone fr cs w') e ∧ fr.fn = f ∧ fr.leaving P w' e

theorem Run.mono {P : Program} {f : FuncId} {R R' : Ending → World → Prop} {a : Act} {k : List Item} {w : World}
    (h : Run P f R a k w) (hr : ∀ e w, R e w → R' e w) : Run P f R' a k w := fun b cs h1 h2 =>
  let ⟨e, w', fr, r, rest⟩ := h b cs h1 h2
  ⟨e, w', fr, hr _ _ r, rest⟩

theorem Run.step {P : Program} {f : FuncId} {R : Ending → World → Prop} {a a' : Act} {k k' : List Item} {w w' : World}
    (hs : ∀ (b : Frame) (cs : List Frame), step P (lone (b.at a k) cs w) = .next (lone (b.at a' k') cs w'))
    (h : Run P f R a' k' w') : Run P f R a k w := fun b cs h1 h2 =>
  let ⟨e, w'', fr, r, hc, rest⟩ := h b cs h1 h2
  ⟨e, w'', fr, r, .of_steps (.one (hs b cs)) hc, rest⟩

theorem step_scope {P : Program} {b : Frame} {a : Act} {k : List Item} {cs : List Frame} {w : World} {c : Code} :
    step P (lone (b.at a (.code (.scope c) :: k)) cs w) = .next (lone (b.at a (.code c :: .inScope c :: k)) cs w) :=
  step_lone_go (by simp [stepG, stepG.exec, Frame.at])
theorem step_inScope {P : Program} {b : Frame} {a : Act} {k : List Item} {cs : List Frame} {w : World} {c : Code} :
    step P (lone (b.at a (.inScope c :: k)) cs w) = .next (lone (b.at a k) cs w) :=
  step_lone_go (by simp [stepG, stepG.exec, Frame.at])

/-- one silent step -/
def adm1 : List Item → Option (List Item)
  | .code .skip :: k => some k
  | .code (.label _) :: k => some k
  | .inBlock _ :: k => some k
  | .inScope _ :: k => some k
  | .code (.seq x y) :: k => some (.code x :: .code y :: k)
  | .code (.block id c) :: k => some (.code c :: .inBlock id :: k)
  | .code (.loop c) :: k => some (.code c :: .inLoop c :: k)
  | .code (.scope c) :: k => some (.code c :: .inScope c :: k)
  | .inLoop c :: k => some (.code c :: .inLoop c :: k)
  | .code (.exit id) :: k => exitTo id k
  | .code (.goto l) :: k => gotoIn l k
  | _ => none

def adm : Nat → List Item → List Item
  | 0, k => k
  | n + 1, k => match adm1 k with
    | some k' => adm n k'
    | none => k

theorem Run.adm1 {P : Program} {f : FuncId} {R : Ending → World → Prop} {a : Act} {k k' : List Item} {w : World}
    (hk : adm1 k = some k') (h : Run P f R a k' w) : Run P f R a k w := by
  refine Run.step (fun b cs => ?_) h
  unfold Sp.adm1 at hk
  split at hk
  · cases hk; exact step_skip
  · cases hk; exact step_label
  · cases hk; exact step_inBlock
  · cases hk; exact step_inScope
  · cases hk; exact step_seq
  · cases hk; exact step_block
  · cases hk; exact step_loop
  · cases hk; exact step_scope
  · cases hk; exact step_inLoop
  · exact step_exit hk
  · exact step_goto hk
  · cases hk

theorem Run.adm {P : Program} {f : FuncId} {R : Ending → World → Prop} {a : Act} {w : World} : ∀ (n : Nat) (k : List Item),
    Run P f R a (adm n k) w → Run P f R a k w
  | 0, _, h => h
  | n + 1, k, h => by
    unfold Sp.adm at h
    split at h
    · rename_i k' hk; exact Run.adm1 hk (Run.adm n k' h)
    · exact h

theorem Run.of_wp {P : Program} {f : FuncId} {R : Ending → World → Prop} {a : Act} {k : List Item} {w : World} {c : Code} {Q : Exit → Act → World → Prop}
    (h : c.wp P Q a w) (hn : ∀ a' w', Q .normal a' w' → Run P f R a' k w') (ho : ∀ a' w', Q .outgrown a' w' → R .outgrown w')
    (hx : ∀ e a' w', Q e a' w' → e = .normal ∨ e = .outgrown) : Run P f R a (.code c :: k) w := by
  intro b cs h1 h2
  obtain ⟨e, a', w', hq, harr⟩ := h b k cs
  rcases hx _ _ _ hq with rfl | rfl
  · obtain ⟨e, w'', fr, r, hc, rest⟩ := hn _ _ hq b cs h1 h2
    exact ⟨e, w'', fr, r, .of_steps harr hc, rest⟩
  · rcases harr with harr | harr
    · rw [h2] at harr; cases harr
    · exact ⟨.outgrown, w', b, ho _ _ hq, harr, h1, trivial⟩

theorem calls_of_run {P : Program} {f : FuncId} {fn : Func} {c : Code} {args : Array Value} {w : World} {R : Ending → World → Prop}
    (hf : P.funcs[f]? = some fn) (hb : fn.body = some c)
    (h : Run P f R { tmps := args ++ Array.replicate (fn.ntmps - args.size) undef, defers := [] } [.code c] w) : Calls P f args w R := by
  intro cs
  let b : Frame := { (default : Frame) with fn := f, kind := .normal }
  have henter : Frame.enter P f args .normal =
      b.at { tmps := args ++ Array.replicate (fn.ntmps - args.size) undef, defers := [] } [.code c] := by
    simp [Frame.enter, Frame.at, hf, hb, b]
  rw [henter]
  exact h b cs rfl rfl

theorem Run.ret {P : Program} {f : FuncId} {fn : Func} {R : Ending → World → Prop} {a : Act} {k : List Item} {w : World} {v : Value}
    (hf : P.funcs[f]? = some fn) (hd : a.defers = []) (hv : (results fn a.tmps).run P w = .ok v w) (hR : R (.returned v) w) : Run P f R a (.code .ret :: k) w := by
  intro b cs h1 h2
  exact ⟨.returned v, w, _, hR, .one step_ret, h1, rfl, hd, h2, fn, by rw [show ({ b.at a (.code .ret :: k) with mode := .returning } : Frame).fn = f from h1]; exact hf, hv⟩

theorem Run.done {P : Program} {f : FuncId} {fn : Func} {R : Ending → World → Prop} {a : Act} {w : World} {v : Value}
    (hf : P.funcs[f]? = some fn) (hd : a.defers = []) (hv : (results fn a.tmps).run P w = .ok v w) (hR : R (.returned v) w) : Run P f R a [] w := by
  intro b cs h1 h2
  exact ⟨.returned v, w, _, hR, .one step_end, h1, rfl, hd, h2, fn, by rw [show ({ b.at a [] with mode := .returning } : Frame).fn = f from h1]; exact hf, hv⟩

theorem Run.cond {P : Program} {f : FuncId} {R : Ending → World → Prop} {a : Act} {k : List Item} {w : World} {c : Operand} {x y : Code} {t : Bool}
    (hc : a.eval c = .bool t) (h : Run P f R a (.code (if t then x else y) :: k) w) : Run P f R a (.code (.cond c x y) :: k) w :=
  Run.step (fun _ _ => step_cond hc) h

/-! ### frames -/
abbrev Env := List (Nat × Value)
def Env.get : Env → Nat → Option Value
  | [], _ => none
  | (j, v) :: e, i => match Nat.beq i j with
    | true => some v
    | false => Env.get e i
def Env.del : Env → Nat → Env
  | [], _ => []
  | (j, v) :: e, i => match Nat.beq i j with
    | true => Env.del e i
    | false => (j, v) :: Env.del e i
def Env.pick (e : Env) : List Nat → Option Env
  | [] => some []
  | i :: r => match e.get i, Env.pick e r with
    | some v, some e' => some ((i, v) :: e')
    | _, _ => none

structure Fits (n : Nat) (e : Env) (T : Array Value) : Prop where
  size : T.size = n
  at_ : ∀ i v, e.get i = some v → T[i]? = some v

theorem Env.get_cons {e : Env} {j i : Nat} {v : Value} : Env.get ((j, v) :: e) i = if i = j then some v else e.get i := by
  simp only [Env.get]
  by_cases h : i = j
  · subst h; simp
  · have : Nat.beq i j = false := by rw [Bool.eq_false_iff]; intro h'; exact h (Nat.eq_of_beq_eq_true h')
    rw [this, if_neg h]

theorem Env.get_del {e : Env} {j i : Nat} : Env.get (e.del j) i = if i = j then none else e.get i := by
  induction e with
  | nil => simp [Env.del, Env.get]
  | cons x e ih =>
    obtain ⟨l, v⟩ := x
    simp only [Env.del]
    by_cases h : j = l
    · subst h
      simp only [Nat.beq_refl, ih, Env.get_cons]
      split <;> rfl
    · have hb : Nat.beq j l = false := by rw [Bool.eq_false_iff]; intro h'; exact h (Nat.eq_of_beq_eq_true h')
      rw [hb]
      simp only [Env.get_cons, ih]
      by_cases h1 : i = l
      · subst h1; rw [if_pos rfl, if_neg (fun h2 => h h2.symm), if_pos rfl]
      · rw [if_neg h1, if_neg h1]

theorem Env.pick_sub {e : Env} : ∀ {l : List Nat} {e' : Env}, e.pick l = some e' → ∀ i v, e'.get i = some v → e.get i = some v
  | [], e', h, i, v, hv => by cases h; simp [Env.get] at hv
  | j :: r, e', h, i, v, hv => by
    simp only [Env.pick] at h
    split at h
    · rename_i u e1 hu he
      cases h
      rw [Env.get_cons] at hv
      split at hv
      · rename_i hij; cases hv; rw [hij]; exact hu
      · exact Env.pick_sub he i v hv
    · cases h

theorem Fits.put {n : Nat} {e : Env} {T : Array Value} (h : Fits n e T) {d : Nat} (hd : d < n) (v : Value) : Fits n ((d, v) :: e) (T.setIfInBounds d v) := by
  refine ⟨by simp [h.size], fun i u hu => ?_⟩
  rw [Env.get_cons] at hu
  rw [Array.getElem?_setIfInBounds]
  by_cases hid : d = i
  · subst hid; simp at hu; subst hu; simp [h.size, hd]
  · rw [if_neg (fun x => hid x.symm)] at hu; rw [if_neg hid]; exact h.at_ i u hu
theorem Fits.del {n : Nat} {e : Env} {T : Array Value} (h : Fits n e T) (d : Nat) (v : Value) : Fits n (e.del d) (T.setIfInBounds d v) := by
  refine ⟨by simp [h.size], fun i u hu => ?_⟩
  rw [Env.get_del] at hu
  rw [Array.getElem?_setIfInBounds]
  by_cases hid : d = i
  · subst hid; simp at hu
  · rw [if_neg (fun x => hid x.symm)] at hu; rw [if_neg hid]; exact h.at_ i u hu
theorem Fits.sub {n : Nat} {e e' : Env} {T : Array Value} (h : Fits n e T) (hs : ∀ i v, e'.get i = some v → e.get i = some v) : Fits n e' T :=
  ⟨h.size, fun i v hv => h.at_ i v (hs i v hv)⟩

/-- operands, read off a short list of slots; of the others nothing is known -/
def ev (e : Env) (u : Nat → Value) : Operand → Value
  | .tmp t => match e.get t with
    | some v => v
    | none => u t
  | .const v => v
  | .global g => .pointer (some ⟨g, 0, none⟩)
  | .func f => .func (.func f) #[] #[]

theorem eval_ev {n : Nat} {e : Env} {T : Array Value} (h : Fits n e T) (ds : List Deferred) : Act.eval ⟨T, ds⟩ = ev e (fun t => T.getD t undef) := by
  funext x
  cases x with
  | tmp t =>
    simp only [Act.eval, ev]
    split
    · rename_i v hv; have := h.at_ t v hv; rw [Array.getD_eq_getD_getElem?, this]; rfl
    · rfl
  | const v => rfl
  | global g => rfl
  | func f => rfl

/-- an effect-free computation's value -/
def peval {α : Type} (p : Program) : Sem α → Option α
  | .pure a => some a
  | .program k => peval p (k p)
  | .mark _ k => peval p k
  | _ => none
theorem run_peval {α : Type} {p : Program} {x : α} : ∀ {e : Sem α}, peval p e = some x → ∀ w, e.run p w = .ok x w
  | .pure a, h, w => by simp only [peval] at h; cases h; rfl
  | .program k, h, w => by simp only [peval] at h; exact run_peval (e := k p) h w
  | .mark _ k, h, w => by simp only [peval] at h; exact run_peval (e := k) h w
  | .load .., h, _ => by simp [peval] at h
  | .store .., h, _ => by simp [peval] at h
  | .new .., h, _ => by simp [peval] at h
  | .shape .., h, _ => by simp [peval] at h
  | .freeze .., h, _ => by simp [peval] at h
  | .frozen .., h, _ => by simp [peval] at h
  | .getObj .., h, _ => by simp [peval] at h
  | .setObj .., h, _ => by simp [peval] at h
  | .choose .., h, _ => by simp [peval] at h
  | .sys .., h, _ => by simp [peval] at h
  | .halt _, h, _ => by simp [peval] at h

/-! ### heaps -/
def Hp := Nat → Option Obj
def Hp.join (a b : Hp) : Hp := fun n => (a n).or (b n)
def Hp.disj (a b : Hp) : Prop := ∀ n, a n = none ∨ b n = none
def Hp.le (h : Hp) (w : World) : Prop := ∀ n o, h n = some o → w.heap[n]? = some o
def Hp.emp : Hp := fun _ => none
def Hp.one (b : Nat) (o : Obj) : Hp := fun n => if n = b then some o else none
abbrev Asn := Hp → Prop

def Owns : List Asn → Hp → World → Prop
  | [], F, w => F.le w
  | A :: r, F, w => ∃ h, A h ∧ h.disj F ∧ Owns r (h.join F) w

theorem Hp.disj_symm {a b : Hp} (h : a.disj b) : b.disj a := fun n => (h n).symm
theorem Hp.join_assoc (a b c : Hp) : (a.join b).join c = a.join (b.join c) := by funext n; simp only [Hp.join, Option.or_assoc]
theorem Hp.join_comm {a b : Hp} (h : a.disj b) : a.join b = b.join a := by
  funext n
  simp only [Hp.join]
  rcases h n with h | h <;> rw [h] <;> simp
theorem Hp.disj_join {a b c : Hp} : a.disj (b.join c) ↔ a.disj b ∧ a.disj c := by
  constructor
  · intro h
    refine ⟨fun n => ?_, fun n => ?_⟩ <;> rcases h n with h1 | h1
    · exact .inl h1
    · simp [Hp.join, Option.or_eq_none_iff] at h1; exact .inr h1.1
    · exact .inl h1
    · simp [Hp.join, Option.or_eq_none_iff] at h1; exact .inr h1.2
  · rintro ⟨h1, h2⟩ n
    rcases h1 n with h | h
    · exact .inl h
    · rcases h2 n with h' | h'
      · exact .inl h'
      · exact .inr (by simp [Hp.join, h, h'])
theorem Hp.join_disj {a b c : Hp} : (a.join b).disj c ↔ a.disj c ∧ b.disj c := by
  constructor
  · intro h; have := Hp.disj_join.1 (Hp.disj_symm h); exact ⟨Hp.disj_symm this.1, Hp.disj_symm this.2⟩
  · intro h; exact Hp.disj_symm (Hp.disj_join.2 ⟨Hp.disj_symm h.1, Hp.disj_symm h.2⟩)
theorem Hp.disj_emp (F : Hp) : Hp.emp.disj F := fun _ => .inl rfl
theorem Hp.emp_join (F : Hp) : Hp.emp.join F = F := by funext n; simp [Hp.join, Hp.emp]
theorem Hp.le_left {a b : Hp} {w : World} (h : (a.join b).le w) : a.le w := fun n o hn => h n o (by simp [Hp.join, hn])
theorem Hp.le_right {a b : Hp} {w : World} (hd : a.disj b) (h : (a.join b).le w) : b.le w := fun n o hn => h n o (by
  rcases hd n with h1 | h1
  · simp [Hp.join, h1, hn]
  · rw [h1] at hn; cases hn)

theorem Owns.le : ∀ {l : List Asn} {F : Hp} {w : World}, Owns l F w → F.le w
  | [], _, _, h => h
  | _ :: _, _, _, ⟨_, _, hd, h⟩ => Hp.le_right hd (Owns.le h)

theorem Owns.swap {A B : Asn} {r : List Asn} {F : Hp} {w : World} (h : Owns (A :: B :: r) F w) : Owns (B :: A :: r) F w := by
  obtain ⟨ha, h1, h2, hb, h3, h4, h5⟩ := h
  have h6 := Hp.disj_join.1 h4
  refine ⟨hb, h3, h6.2, ha, h1, Hp.disj_join.2 ⟨Hp.disj_symm h6.1, h2⟩, ?_⟩
  rw [← Hp.join_assoc, Hp.join_comm (Hp.disj_symm h6.1), Hp.join_assoc]; exact h5

theorem Owns.cons_mono {A : Asn} {r r' : List Asn} {F : Hp} {w w' : World} (hr : ∀ F, Owns r F w → Owns r' F w') (h : Owns (A :: r) F w) : Owns (A :: r') F w' := by
  obtain ⟨ha, h1, h2, h3⟩ := h
  exact ⟨ha, h1, h2, hr _ h3⟩

theorem Owns.perm {l l' : List Asn} (hp : l.Perm l') {w : World} : ∀ {F : Hp}, Owns l F w → Owns l' F w := by
  induction hp with
  | nil => exact fun h => h
  | cons x _ ih => exact fun h => Owns.cons_mono (fun _ => ih) h
  | swap x y l => exact fun h => Owns.swap h
  | trans _ _ ih1 ih2 => exact fun h => ih2 (ih1 h)

/-- the chunks at the places given, in that order, ahead; the others behind them -/
def pickAt : List Nat → List Asn → Option (List Asn × List Asn)
  | [], l => some ([], l)
  | i :: is, l => match l[i]? with
    | some A => match pickAt is (l.eraseIdx i) with
      | some (x, y) => some (A :: x, y)
      | none => none
    | none => none
theorem eraseIdx_perm : ∀ (l : List Asn) (i : Nat) (h : i < l.length), l.Perm (l[i] :: l.eraseIdx i)
  | [], _, h => by simp at h
  | A :: l, 0, _ => by simp
  | A :: l, i + 1, h => by
    simp only [List.getElem_cons_succ, List.eraseIdx_cons_succ]
    exact (List.Perm.cons A (eraseIdx_perm l i (by simpa using h))).trans (List.Perm.swap _ _ _)
theorem pickAt_perm : ∀ {is : List Nat} {l x y : List Asn}, pickAt is l = some (x, y) → l.Perm (x ++ y)
  | [], l, x, y, h => by simp only [pickAt] at h; cases h; exact List.Perm.refl _
  | i :: is, l, x, y, h => by
    simp only [pickAt] at h
    split at h
    · rename_i A hA
      split at h
      · rename_i x1 y1 h1
        cases h
        have h2 := pickAt_perm h1
        obtain ⟨hi, hA⟩ := List.getElem?_eq_some_iff.1 hA
        have h3 : l.Perm (A :: l.eraseIdx i) := by
          subst hA
          exact eraseIdx_perm l i hi
        exact h3.trans (List.Perm.cons A h2)
      · cases h
    · cases h

theorem Owns.drop {l : List Asn} {A : Asn} {F : Hp} {w : World} : Owns (A :: l) F w → Owns l F w := by
  rintro ⟨ha, h1, h2, h3⟩
  induction l generalizing F ha with
  | nil => exact Hp.le_right h2 h3
  | cons B r ih =>
    obtain ⟨hb, h4, h5, h6⟩ := h3
    have h7 := Hp.disj_join.1 h5
    refine ⟨hb, h4, h7.2, ih ha h1 (Hp.disj_join.2 ⟨Hp.disj_symm h7.1, h2⟩) ?_⟩
    rw [← Hp.join_assoc, Hp.join_comm (Hp.disj_symm h7.1), Hp.join_assoc]; exact h6
theorem Owns.dropN {l r : List Asn} {F : Hp} {w : World} (h : Owns (l ++ r) F w) : Owns r F w := by
  induction l with
  | nil => exact h
  | cons A l ih => exact ih h.drop
theorem Owns.left {l r : List Asn} {F : Hp} {w : World} (h : Owns (l ++ r) F w) : Owns l F w := by
  exact (Owns.perm (List.perm_append_comm) h).dropN

/-- what is owned behind a frame that others own, and back -/
theorem Owns.split : ∀ {x y : List Asn} {F : Hp} {w : World}, Owns (x ++ y) F w → ∃ hy : Hp, hy.disj F ∧ Owns x (hy.join F) w ∧ ∀ x' F' w', hy.disj F' → Owns x' (hy.join F') w' → Owns (x' ++ y) F' w' := by
  intro x y
  induction y generalizing x with
  | nil =>
    intro F w h
    rw [List.append_nil] at h
    refine ⟨Hp.emp, Hp.disj_emp _, by rw [Hp.emp_join]; exact h, fun x' F' w' _ h' => ?_⟩
    rw [Hp.emp_join] at h'; rw [List.append_nil]; exact h'
  | cons B y ih =>
    intro F w h
    have h' : Owns (B :: (x ++ y)) F w := Owns.perm (List.perm_middle) h
    obtain ⟨hb, h1, h2, h3⟩ := h'
    obtain ⟨hy, h4, h5, h6⟩ := ih h3
    have h7 := Hp.disj_join.1 h4
    refine ⟨hy.join hb, Hp.join_disj.2 ⟨h7.2, h2⟩, by rw [Hp.join_assoc]; exact h5, fun x' F' w' hd h8 => ?_⟩
    have h9 := Hp.join_disj.1 hd
    refine Owns.perm List.perm_middle.symm ?_
    rw [Hp.join_assoc] at h8
    exact ⟨hb, h1, h9.2, h6 _ _ _ (Hp.disj_join.2 ⟨h7.1, h9.1⟩) h8⟩

theorem Owns.get : ∀ {l : List Asn} {F : Hp} {w : World}, Owns l F w → ∀ {k : Nat} {A : Asn}, l[k]? = some A → ∃ h, A h ∧ h.le w
  | [], _, _, _, k, A, hk => by simp at hk
  | B :: r, F, w, ⟨hb, h1, h2, h3⟩, 0, A, hk => by
    simp at hk; subst hk
    exact ⟨hb, h1, Hp.le_left (Owns.le h3)⟩
  | B :: r, F, w, ⟨hb, h1, h2, h3⟩, k + 1, A, hk => Owns.get (l := r) h3 (by simpa using hk)

theorem Owns.retarget : ∀ {l : List Asn} {F : Hp} {w w' : World}, (∀ G : Hp, (∀ n o, F n = some o → G n = some o) → G.le w → G.le w') → Owns l F w → Owns l F w'
  | [], F, _, _, hG, h => hG F (fun _ _ h => h) h
  | A :: r, F, w, w', hG, ⟨ha, h1, h2, h3⟩ => ⟨ha, h1, h2, Owns.retarget (fun G hs hle => hG G (fun n o hn => hs n o (by
      rcases h2 n with h | h
      · simp [Hp.join, h, hn]
      · rw [h] at hn; cases hn)) hle) h3⟩

/-- the first chunk becomes another one over the same blocks -/
theorem Owns.update {A A' : Asn} {r : List Asn} {F : Hp} {w : World} (h : Owns (A :: r) F w) {w' : World}
    (hu : ∀ ha, A ha → ha.le w → ∃ ha', A' ha' ∧ (∀ n, ha n = none ↔ ha' n = none) ∧ ha'.le w' ∧ ∀ n, ha n = none → w'.heap[n]? = w.heap[n]?) : Owns (A' :: r) F w' := by
  obtain ⟨ha, h1, h2, h3⟩ := h
  obtain ⟨ha', h4, h5, h6, h7⟩ := hu ha h1 (Hp.le_left (Owns.le h3))
  refine ⟨ha', h4, fun n => (h2 n).imp (fun x => (h5 n).1 x) id, ?_⟩
  clear h1 h4
  -- the rest, over the new frame
  have key : ∀ (r : List Asn) (F : Hp), ha.disj F → Owns r (ha.join F) w → Owns r (ha'.join F) w' := by
    intro r
    induction r with
    | nil =>
      intro F hd h n o hn
      simp only [Hp.join] at hn
      cases hx : ha' n with
      | some o' => rw [hx] at hn; simp at hn; subst hn; exact h6 n _ hx
      | none =>
        rw [hx] at hn; simp at hn
        have hy := (h5 n).2 hx
        rw [h7 n hy]
        exact h n o (by simp [Hp.join, hy, hn])
    | cons B r ih =>
      intro F hd ⟨hb, k1, k2, k3⟩
      have k4 := Hp.disj_join.1 k2
      refine ⟨hb, k1, Hp.disj_join.2 ⟨fun n => (k4.1 n).imp id (fun x => (h5 n).1 x), k4.2⟩, ?_⟩
      have hd' : ha'.disj hb := fun n => ((k4.1 n).symm).imp (fun x => (h5 n).1 x) id
      rw [← Hp.join_assoc, Hp.join_comm (Hp.disj_symm hd'), Hp.join_assoc]
      refine ih _ (Hp.disj_join.2 ⟨Hp.disj_symm k4.1, hd⟩) ?_
      rw [← Hp.join_assoc, Hp.join_comm k4.1, Hp.join_assoc] at k3
      exact k3
  exact key r F h2 h3

/-- a new block -/
theorem Owns.push {l : List Asn} {F : Hp} {w w' : World} (h : Owns l F w) {A : Asn} {ha : Hp} (hA : A ha) (hn : ∀ n, n < w.heap.size → ha n = none) (hle : ha.le w') (hw : ∀ n, n < w.heap.size → w'.heap[n]? = w.heap[n]?) : Owns (A :: l) F w' := by
  have hlt : ∀ (G : Hp), G.le w → ∀ n, n < w.heap.size ∨ G n = none := fun G hG n => by
    cases hx : G n with
    | none => exact .inr rfl
    | some o => exact .inl (Array.getElem?_eq_some_iff.1 (hG n o hx)).1
  have hdis : ∀ (G : Hp), G.le w → ha.disj G := fun G hG n => (hlt G hG n).imp (hn n) id
  refine ⟨ha, hA, hdis F (Owns.le h), ?_⟩
  have key : ∀ (l : List Asn) (F : Hp), Owns l F w → Owns l (ha.join F) w' := by
    intro l
    induction l with
    | nil =>
      intro F h n o hn'
      simp only [Hp.join] at hn'
      cases hx : ha n with
      | some o' => rw [hx] at hn'; simp at hn'; subst hn'; exact hle n _ hx
      | none =>
        rw [hx] at hn'; simp at hn'
        have := h n o hn'
        rw [hw n (Array.getElem?_eq_some_iff.1 this).1]; exact this
    | cons B r ih =>
      intro F ⟨hb, k1, k2, k3⟩
      have hle' := Owns.le k3
      have h1 : ha.disj hb := hdis hb (Hp.le_left hle')
      refine ⟨hb, k1, Hp.disj_join.2 ⟨Hp.disj_symm h1, k2⟩, ?_⟩
      rw [← Hp.join_assoc, Hp.join_comm (Hp.disj_symm h1), Hp.join_assoc]
      exact ih _ k3
  exact key l F h

/-- chunks that are chunks -/
def star : List Asn → Asn
  | [] => fun _ => True
  | A :: r => fun h => ∃ a b, A a ∧ star r b ∧ a.disj b ∧ h = a.join b
theorem Owns.star_out : ∀ {l r : List Asn} {F : Hp} {w : World}, Owns (star l :: r) F w → Owns (l ++ r) F w
  | [], r, F, w, h => h.drop
  | A :: l, r, F, w, ⟨h, hs, h4, h5⟩ => by
    obtain ⟨a, b, h1, h2, h3, rfl⟩ := hs
    have h6 := Hp.join_disj.1 h4
    refine ⟨a, h1, h6.1, Owns.star_out ⟨b, h2, Hp.disj_join.2 ⟨Hp.disj_symm h3, h6.2⟩, ?_⟩⟩
    rw [← Hp.join_assoc, Hp.join_comm (Hp.disj_symm h3)]; exact h5
theorem Owns.star_in : ∀ {l r : List Asn} {F : Hp} {w : World}, Owns (l ++ r) F w → Owns (star l :: r) F w
  | [], r, F, w, h => ⟨Hp.emp, trivial, Hp.disj_emp _, by rw [Hp.emp_join]; exact h⟩
  | A :: l, r, F, w, ⟨a, h1, h2, h3⟩ => by
    obtain ⟨b, h4, h5, h6⟩ := Owns.star_in (l := l) h3
    have h7 := Hp.disj_join.1 h5
    refine ⟨a.join b, ⟨a, b, h1, h4, Hp.disj_symm h7.1, rfl⟩, Hp.join_disj.2 ⟨h2, h7.2⟩, ?_⟩
    rw [Hp.join_comm (Hp.disj_symm h7.1), Hp.join_assoc]; exact h6
def ex {X : Type} (f : X → List Asn) : Asn := fun h => ∃ x, star (f x) h
theorem Owns.ex_out {X : Type} {f : X → List Asn} {r : List Asn} {F : Hp} {w : World} (h : Owns (ex f :: r) F w) : ∃ x, Owns (f x ++ r) F w :=
  let ⟨a, ⟨x, h1⟩, h2, h3⟩ := h
  ⟨x, Owns.star_out ⟨a, h1, h2, h3⟩⟩
theorem Owns.ex_in {X : Type} {f : X → List Asn} (x : X) {r : List Asn} {F : Hp} {w : World} (h : Owns (f x ++ r) F w) : Owns (ex f :: r) F w :=
  let ⟨a, h1, h2, h3⟩ := Owns.star_in h
  ⟨a, ⟨x, h1⟩, h2, h3⟩
/-- a fact among the chunks -/
def fact (p : Prop) : Asn := fun _ => p
theorem Owns.fact_out {p : Prop} {r : List Asn} {F : Hp} {w : World} (h : Owns (fact p :: r) F w) : p ∧ Owns r F w := ⟨let ⟨_, h1, _, _⟩ := h; h1, h.drop⟩
theorem Owns.fact_in {p : Prop} {r : List Asn} {F : Hp} {w : World} (hp : p) (h : Owns r F w) : Owns (fact p :: r) F w := ⟨Hp.emp, hp, Hp.disj_emp _, by rw [Hp.emp_join]; exact h⟩

end Go.Sp
