/- LeasePlays' plain things: a map of pointers to blocks, each bearing what the desk has. Conditions: none. -/
import Derived.Test.YtdibbcmfgdgdfaaLeM
set_option linter.unnecessarySimpa false
set_option linter.unusedVariables false
set_option linter.unusedSimpArgs false
namespace Go.Le
open Go Go.Sp
structure Deed where
  kind : Int
  now : Int
  thing : Int
  who : Int
  tok : Int
  long : Int
def encA (a : Deed) : List Value := [.int .u8 a.kind, .int .i64 a.now, .int .i64 a.thing, .int .i64 a.who, .int .i64 a.tok, .int .i64 a.long]
def a0 : Deed := ⟨0, 0, 0, 0, 0, 0⟩
def encT (t : Th) : List Value := [.int .i64 t.who, .int .i64 t.tok, .int .i64 t.fin, .bool t.given]
/-- a map's pointers -/
def ptr (pt : Nat → Option Nat) : Int → Option Value := fun i => if 0 ≤ i ∧ i < 256 then (pt i.toNat).map (fun p => .pointer (some ⟨p, 0, none⟩)) else none
def add (pt : Nat → Option Nat) (i p : Nat) : Nat → Option Nat := fun j => if j = i then some p else pt j
def thp (th : Nat → Th) (i : Nat) (t : Th) : Nat → Th := fun j => if j = i then t else th j
theorem ptr_none : ptr (fun _ => none) = fun _ => none := by funext i; simp [ptr]
theorem ptr_add {pt : Nat → Option Nat} {i : Int} {p : Nat} (h0 : 0 ≤ i) (h1 : i < 256) : (fun x => if x = i then some (Value.pointer (some ⟨p, 0, none⟩)) else ptr pt x) = ptr (add pt i.toNat p) := by
  funext x
  unfold ptr add
  by_cases hx : x = i
  · subst hx; simp [h0, h1]
  · rw [if_neg hx]
    by_cases hr : 0 ≤ x ∧ x < 256
    · rw [if_pos hr, if_pos hr]
      have : x.toNat ≠ i.toNat := by omega
      simp [this]
    · rw [if_neg hr, if_neg hr]
theorem ptr_get {pt : Nat → Option Nat} {i : Int} (h0 : 0 ≤ i) (h1 : i < 256) : ptr pt i = (pt i.toNat).map (fun p => .pointer (some ⟨p, 0, none⟩)) := by unfold ptr; rw [if_pos ⟨h0, h1⟩]
theorem ptr_some {pt : Nat → Option Nat} {i : Int} {v : Value} (h : ptr pt i = some v) : 0 ≤ i ∧ i < 256 ∧ ∃ p, pt i.toNat = some p ∧ v = .pointer (some ⟨p, 0, none⟩) := by
  unfold ptr at h
  split at h
  · rename_i hr
    obtain ⟨p, hp, rfl⟩ := Option.map_eq_some_iff.1 h
    exact ⟨hr.1, hr.2, p, hp, rfl⟩
  · cases h
theorem thp_same (th : Nat → Th) (i : Nat) : thp th i (th i) = th := by funext j; unfold thp; by_cases h : j = i <;> simp [h]
theorem thp_put (s : De) (i : Nat) (t : Th) : thp s.th i t = (s.put i t).th := rfl
/-- the things' blocks -/
def ThC (pt : Nat → Option Nat) (th : Nat → Th) : Asn := fun h => (∀ i p, pt i = some p → h p = some (.cells (encT (th i)).toArray 41 (0, 0))) ∧ ∀ i j p, pt i = some p → pt j = some p → i = j
section
variable {pt : Nat → Option Nat} {tt : Nat → Th} {i p : Nat} {t : Th}
theorem Rd.th (hp : pt i = some p) {o : Nat} {v : Value} (h : (encT t)[o]? = some v) : Rd (ThC pt (thp tt i t)) p o v := by
  rintro h' ⟨h1, _⟩
  have := h1 i p hp
  rw [show thp tt i t i = t by simp [thp]] at this
  exact ⟨_, _, _, this, by simpa using h⟩
theorem Wr.th (hp : pt i = some p) {o : Nat} {vs : List Value} {t' : Th} (hl : o + vs.length ≤ 4) (h : upd (encT t) o vs = encT t') : Wr (ThC pt (thp tt i t)) p o vs (ThC pt (thp tt i t')) := by
  rintro h' ⟨h1, h2⟩
  have h3 := h1 i p hp
  rw [show thp tt i t i = t by simp [thp]] at h3
  refine ⟨encT t, 41, h3, by simpa [encT] using hl, fun j q hq => ?_, h2⟩
  by_cases hqp : q = p
  · subst hqp
    have : j = i := h2 j i q hq hp
    subst this
    simp [thp, h]
  · simp only [hqp, if_false]
    have hji : j ≠ i := fun e => by subst e; rw [hp] at hq; cases hq; exact hqp rfl
    have := h1 j q hq
    simpa [thp, hji] using this
/-- one thing more -/
theorem ThC.more {A : List Asn} {F : Hp} {w : World} (hi : pt i = none) (ht : tt i = t) (ho : Owns (Cells p 41 (encT t) :: ThC pt tt :: A) F w) : Owns (ThC (add pt i p) tt :: A) F w := by
  obtain ⟨ha, h1, h2, hb, ⟨h3, h4⟩, h5, h6⟩ := ho
  have h7 := Hp.disj_join.1 h5
  unfold Cells at h1
  have hnp : ∀ j q, pt j = some q → q ≠ p := fun j q hq e => by
    subst e
    rcases h7.1 q with h | h
    · rw [h3 j q hq] at h; cases h
    · rw [h1] at h; cases h
  refine ⟨hb.join ha, ⟨fun j q hq => ?_, fun j k q hj hk => ?_⟩, Hp.join_disj.2 ⟨h7.2, h2⟩, by rw [Hp.join_assoc]; exact h6⟩
  · unfold add at hq
    by_cases hji : j = i
    · subst hji
      rw [if_pos rfl] at hq; cases hq
      have : hb p = none := by
        rcases h7.1 p with h | h
        · exact h
        · rw [h1] at h; cases h
      simp only [Hp.join, this, Option.none_or]
      rw [h1, ht]
    · rw [if_neg hji] at hq
      simp only [Hp.join, h3 j q hq, Option.some_or]
  · unfold add at hj hk
    by_cases hji : j = i
    · by_cases hki : k = i
      · rw [hji, hki]
      · rw [if_pos hji] at hj; rw [if_neg hki] at hk; cases hj
        exact absurd rfl (hnp k p hk)
    · rw [if_neg hji] at hj
      by_cases hki : k = i
      · rw [if_pos hki] at hk; cases hk
        exact absurd rfl (hnp j p hj)
      · rw [if_neg hki] at hk; exact h4 j k q hj hk
theorem ThC.none {A : List Asn} {F : Hp} {w : World} (ho : Owns A F w) : Owns (ThC (fun _ => none) tt :: A) F w :=
  ⟨Hp.emp, ⟨fun i p h => by simp at h, fun i j p h => by simp at h⟩, Hp.disj_emp _, by rw [Hp.emp_join]; exact ho⟩
end
/-! ### what holds between the rounds -/
structure Inv1 (grace : Int) (s : De) (pt : Nat → Option Nat) (k : Nat) : Prop where
  g : s.grace = grace
  no : ∀ i, pt i = none → s.th i = t0
  tok : ∀ i, 0 ≤ (s.th i).tok ∧ (s.th i).tok ≤ k
  fin : ∀ i, -2251799813685248 ≤ (s.th i).fin ∧ (s.th i).fin ≤ 2251799813685248
  lo : -1125899906842624 ≤ s.now
  hi : s.now ≤ 1125899906842624
structure Inv (grace : Int) (s : De) (pt : Nat → Option Nat) (now : Int) (k : Nat) : Prop where
  g : s.grace = grace
  no : ∀ i, pt i = none → s.th i = t0
  tok : ∀ i, 0 ≤ (s.th i).tok ∧ (s.th i).tok ≤ k
  fin : ∀ i, -2251799813685248 ≤ (s.th i).fin ∧ (s.th i).fin ≤ 2251799813685248
  nw : ∀ x, -1125899906842624 ≤ x → max s.now x = max now x
  hi : s.now ≤ 1125899906842624
theorem Inv.new {g : Int} : Inv g (newD g) (fun _ => none) (-2305843009213693952) 0 :=
  ⟨rfl, fun i _ => rfl, fun i => by simp [newD, t0], fun i => by simp [newD, t0], fun x hx => by simp only [newD]; omega, by simp [newD]⟩
theorem Inv1.inv {g : Int} {s : De} {pt : Nat → Option Nat} {k : Nat} (h : Inv1 g s pt k) : Inv g s pt s.now k := ⟨h.g, h.no, h.tok, h.fin, fun _ _ => rfl, h.hi⟩
theorem Inv.mono {g : Int} {s : De} {pt : Nat → Option Nat} {now : Int} {k : Nat} (h : Inv g s pt now k) : Inv g s pt now (k + 1) := ⟨h.g, h.no, fun i => ⟨(h.tok i).1, by have := (h.tok i).2; omega⟩, h.fin, h.nw, h.hi⟩
theorem Inv1.mono {g : Int} {s : De} {pt : Nat → Option Nat} {k : Nat} (h : Inv1 g s pt k) : Inv1 g s pt (k + 1) := ⟨h.g, h.no, fun i => ⟨(h.tok i).1, by have := (h.tok i).2; omega⟩, h.fin, h.lo, h.hi⟩
theorem Inv.add {g : Int} {s : De} {pt : Nat → Option Nat} {now : Int} {k i p : Nat} (h : Inv g s pt now k) : Inv g s (add pt i p) now k :=
  ⟨h.g, fun j hj => h.no j (by unfold Le.add at hj; split at hj; cases hj; exact hj), h.tok, h.fin, h.nw, h.hi⟩
theorem clamp_in {t : Int} (h0 : -1125899906842624 ≤ t) (h1 : t ≤ 1125899906842624) : clampI t = t := by unfold clampI; omega
theorem Inv.tick {g : Int} {s : De} {pt : Nat → Option Nat} {now : Int} {k : Nat} {t : Int} (h : Inv g s pt now k) (h0 : -1125899906842624 ≤ t) (h1 : t ≤ 1125899906842624) : Inv1 g (s.tick t) pt k ∧ (s.tick t).now = max now t := by
  have e : (s.tick t).now = max s.now t := by show max s.now (clampI t) = _; rw [clamp_in h0 h1]
  refine ⟨⟨h.g, h.no, h.tok, h.fin, ?_, ?_⟩, by rw [e, h.nw t h0]⟩
  · rw [e]; omega
  · rw [e]; have := h.hi; omega
theorem Inv1.put {g : Int} {s : De} {pt : Nat → Option Nat} {k i p : Nat} {t : Th} (h : Inv1 g s pt k) (hp : pt i = some p) (ht : 0 ≤ t.tok ∧ t.tok ≤ k + 1) (hf : -2251799813685248 ≤ t.fin ∧ t.fin ≤ 2251799813685248) : Inv1 g (s.put i t) pt (k + 1) := by
  refine ⟨h.g, fun j hj => ?_, fun j => ?_, fun j => ?_, h.lo, h.hi⟩
  · have : j ≠ i := fun e => by subst e; rw [hp] at hj; cases hj
    simp only [De.put, if_neg this]; exact h.no j hj
  · simp only [De.put]
    by_cases e : j = i
    · rw [if_pos e]; exact ⟨ht.1, by have := ht.2; omega⟩
    · rw [if_neg e]; have := h.tok j; exact ⟨this.1, by omega⟩
  · simp only [De.put]
    by_cases e : j = i
    · rw [if_pos e]; exact hf
    · rw [if_neg e]; exact h.fin j
theorem tick_put (s : De) (i : Nat) (t : Th) (x : Int) : (s.put i t).tick x = (s.tick x).put i t := rfl
theorem add_in {a b : Int} (h0 : -1125899906842624 ≤ a) (h1 : a ≤ 1125899906842624) (h2 : 1 ≤ b) (h3 : b ≤ 1099511627776) : addI a b = a + b := by
  unfold addI clampI; rw [if_neg (by omega)]; omega
theorem sub_in {a b : Int} (h0 : -1125899906842624 ≤ a) (h1 : a ≤ 1125899906842624) (h2 : -2251799813685248 ≤ b) (h3 : b ≤ 2251799813685248) : subI a b = a - b := by
  unfold subI clampI; rw [if_neg (by omega)]; omega
/-! ### what is counted -/
def did (pt : Nat → Option Nat) (left : Int → Bool) (s : De) : Nat → Bool := fun i => (pt i).isSome && !left i && s.held i
theorem did_none {pt : Nat → Option Nat} {s : De} (n : Nat) : cntP (did pt (fun k => (ptr pt k).isSome) s) n ≤ n := cntP_le _ n
theorem did_start {pt : Nat → Option Nat} {s : De} {i : Nat} (hi : i < 256) : did pt (fun k => (ptr pt k).isSome) s i = false := by
  unfold did
  have : ptr pt (i : Int) = (pt i).map (fun p => .pointer (some ⟨p, 0, none⟩)) := ptr_get (by omega) (by omega)
  simp only [this, Option.isSome_map]
  cases pt i <;> rfl
theorem did_cnt0 {pt : Nat → Option Nat} {s : De} : cntP (did pt (fun k => (ptr pt k).isSome) s) 256 = 0 := by
  rw [cntP_congr (q := fun _ => false) (fun i hi => did_start hi), cntP_none]
theorem did_min0 {pt : Nat → Option Nat} {s : De} {f : Nat → Int} : minP (did pt (fun k => (ptr pt k).isSome) s) f 256 = 4611686018427387903 := by
  rw [minP_congr (q := fun _ => false) (g := f) (fun i hi => ⟨did_start hi, fun _ => rfl⟩), minP_none]
theorem did_end {g : Int} {pt : Nat → Option Nat} {left : Int → Bool} {s : De} {k : Nat} (h : Inv1 g s pt k) (hl : ∀ x, left x = false) (i : Nat) : did pt left s i = s.held i := by
  unfold did
  rw [hl]
  cases hp : pt i with
  | none =>
    have := h.no i hp
    simp [De.held, this, t0]
  | some p => simp
theorem did_step {pt : Nat → Option Nat} {left : Int → Bool} {s : De} {x : Int} {p : Nat} (h0 : 0 ≤ x) (hp : pt x.toNat = some p) (hl : left x = true) : did pt left s x.toNat = false ∧ did pt (fun z => left z && !decide (z = x)) s x.toNat = s.held x.toNat ∧ ∀ i, i ≠ x.toNat → did pt (fun z => left z && !decide (z = x)) s i = did pt left s i := by
  have hx : ((x.toNat : Nat) : Int) = x := by omega
  refine ⟨?_, ?_, fun i hi => ?_⟩
  · unfold did; rw [hx, hl]; simp
  · unfold did; rw [hx, hp]; simp
  · unfold did
    have : ¬ ((i : Int) = x) := by omega
    simp [this]
theorem did_no {pt : Nat → Option Nat} {left : Int → Bool} {s : De} {x : Int} {p : Nat} (h0 : 0 ≤ x) (hp : pt x.toNat = some p) (hl : left x = true) (hh : s.held x.toNat = false) : did pt (fun z => left z && !decide (z = x)) s = did pt left s := by
  obtain ⟨h1, h2, h3⟩ := did_step (s := s) h0 hp hl
  funext i
  by_cases hi : i = x.toNat
  · rw [hi, h2, h1, hh]
  · exact h3 i hi
def leftN (left : Int → Bool) : Nat := cntP (fun i => left (i : Int)) 256
theorem left_less {left : Int → Bool} {x : Int} (h0 : 0 ≤ x) (h1 : x < 256) (hl : left x = true) : leftN (fun z => left z && !decide (z = x)) < leftN left := by
  have hx : ((x.toNat : Nat) : Int) = x := by omega
  have := cntP_more (p := fun i : Nat => left (i : Int) && !decide ((i : Int) = x)) (q := fun i : Nat => left (i : Int)) (x := x.toNat) (by simp [hx]) (by simp [hx, hl]) (fun i hi => by
    have : ¬ ((i : Int) = x) := by omega
    simp [this]) (n := 256) (by omega)
  show cntP (fun i : Nat => left (i : Int) && !decide ((i : Int) = x)) 256 < cntP (fun i : Nat => left (i : Int)) 256
  omega
end Go.Le
