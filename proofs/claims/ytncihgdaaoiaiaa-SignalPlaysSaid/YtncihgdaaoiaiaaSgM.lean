/- Signals as plain lists. Conditions: none. -/
import Derived.Test.YtncihgdaaoiaiaaS11
import Derived.Laws.Bits64
set_option linter.unnecessarySimpa false
set_option linter.unusedVariables false
set_option linter.unusedSimpArgs false
namespace Go.Sg
open Go Go.Sp
structure Sig where
  no : Int
  timer : Int
  over : Int
def encG (s : Sig) : List Value := [.int .i64 s.no, .int .i64 s.timer, .int .i64 s.over]
def s0 : Sig := ⟨0, 0, 0⟩
def idxI : Option Nat → Int
  | none => -1
  | some k => (k : Int)
theorem find_none {l : List Sig} {p : Sig → Bool} {n k : Nat} (hl : l.length = n) (hk : n ≤ k) (h : ∀ q, q < k → p (l.getD q s0) = false) : l.findIdx? p = none := by
  rw [List.findIdx?_eq_none_iff]
  intro x hx
  obtain ⟨j, hj, rfl⟩ := List.getElem_of_mem hx
  have := h j (by omega)
  simpa [hj] using this
theorem find_some {l : List Sig} {p : Sig → Bool} {n k : Nat} (hl : l.length = n) (hk : k < n) (h : ∀ q, q < k → p (l.getD q s0) = false) (hy : p (l.getD k s0) = true) : l.findIdx? p = some k := by
  rw [List.findIdx?_eq_some_iff_getElem]
  refine ⟨by omega, by simpa [show k < l.length by omega] using hy, fun j hj => ?_⟩
  have := h j hj
  simpa [show j < l.length by omega] using this
def overI (n : Int) : Int := min (max n 0) 2147483647
def rightN (no : Int) : Bool := decide (1 ≤ no ∧ no ≤ 63)
/-- is a number not blocked? -/
def openB (w : BitVec 64) (no : Int) : Bool := decide ((w.toNat : Int) / 2 ^ no.toNat % 2 = 0)
def GoodG (l : List Sig) : Prop := l.length ≤ 32 ∧ ∀ p, p < l.length → 1 ≤ (l.getD p s0).no ∧ (l.getD p s0).no ≤ 63 ∧ -1 ≤ (l.getD p s0).timer ∧ 0 ≤ (l.getD p s0).over ∧ (l.getD p s0).over ≤ 2147483647
/-- the queue: what waits, and which numbers are blocked -/
def QuC (q : Nat) (l : List Sig) (bv : BitVec 64) : Asn := ex fun x : Option Addr × Nat => [Cells q 42 [.slice x.1 l.length x.2, .int .u64 (bv.toNat : Int)], Grow x.1 x.2 31 3 l.length (l.flatMap encG)]
theorem QuC.close {q n cap : Nat} {S : Option Addr} {l : List Sig} {bv : BitVec 64} (hn : l.length = n) {A D : List Asn} {F : Hp} {w : World} (is : List Nat) (hp : pickAt is A = some ([Cells q 42 [.slice S n cap, .int .u64 (bv.toNat : Int)], Grow S cap 31 3 n (l.flatMap encG)], D)) (ho : Owns A F w) : Owns (QuC q l bv :: D) F w := by
  subst hn
  exact Owns.ex_in (S, cap) (Owns.perm (pickAt_perm hp) ho)
theorem QuC.open_ {q : Nat} {l : List Sig} {bv : BitVec 64} {r : List Asn} {F : Hp} {w : World} (ho : Owns (QuC q l bv :: r) F w) : ∃ x : Option Addr × Nat, Owns ([Cells q 42 [.slice x.1 l.length x.2, .int .u64 (bv.toNat : Int)], Grow x.1 x.2 31 3 l.length (l.flatMap encG)] ++ r) F w := Owns.ex_out ho
def openI (l : List Sig) (bv : BitVec 64) : Option Nat := l.findIdx? (fun x => openB bv x.no)
theorem openI_lt {l : List Sig} {bv : BitVec 64} {k : Nat} (h : openI l bv = some k) : k < l.length := by
  unfold openI at h; rw [List.findIdx?_eq_some_iff_getElem] at h; exact h.1
def takeS (l : List Sig) (bv : BitVec 64) : Sig := match openI l bv with | none => s0 | some k => l.getD k s0
def takeL (l : List Sig) (bv : BitVec 64) : List Sig := match openI l bv with | none => l | some k => l.eraseIdx k
def bitW (no : Int) : BitVec 64 := 1#64 <<< no.toNat
theorem openB_lsb (bv : BitVec 64) (no : Int) : openB bv no = !bv.getLsbD no.toNat := by
  unfold openB
  rw [BitVec.getLsbD, Nat.testBit_eq_decide_div_mod_eq]
  have : ((bv.toNat : Int) / 2 ^ no.toNat % 2) = ((bv.toNat / 2 ^ no.toNat % 2 : Nat) : Int) := by
    rw [Int.natCast_emod, Int.natCast_ediv, Int.natCast_pow]; rfl
  rw [this]
  have h2 := Nat.mod_lt (bv.toNat / 2 ^ no.toNat) (show 2 > 0 by omega)
  by_cases h : bv.toNat / 2 ^ no.toNat % 2 = 1
  · simp [h]
  · have : bv.toNat / 2 ^ no.toNat % 2 = 0 := by omega
    simp [this]
theorem pv_bit {P : Program} {no : Int} (h0 : 0 ≤ no) (h1 : no ≤ 63) : peval P (vN (Op.shift .shl .u64 1 .u64 no)) = some (.value (.int .u64 ((bitW no).toNat : Int))) := by
  have h2 : ¬ (no < 0) := by omega
  have h3 : min no.toNat IntKind.u64.bits = no.toNat := by show min no.toNat 64 = _; omega
  simp only [vN, Op.shift, if_neg h2, h3, bind, pure, Sem.bind, peval]
  have : IntKind.u64.wrap (1 * 2 ^ no.toNat) = ((bitW no).toNat : Int) := by
    rw [IntKind.wrap_u64]
    unfold bitW
    rw [BitVec.toNat_shiftLeft, Nat.shiftLeft_eq, Int.natCast_emod, Int.natCast_mul, Int.natCast_pow]; rfl
  rw [this]
theorem was_open {bv : BitVec 64} {no : Int} (h0 : 0 ≤ no) (h1 : no ≤ 63) : (((bv &&& bitW no).toNat : Int) != 0) = !openB bv no := by
  rw [openB_lsb, Bool.not_not]
  have h2 : bv &&& bitW no = if bv.getLsbD no.toNat then bitW no else 0#64 := by
    apply BitVec.eq_of_getLsbD_eq
    intro i hi
    unfold bitW
    by_cases hx : bv.getLsbD no.toNat
    · simp only [hx, if_true, BitVec.getLsbD_and, BitVec.getLsbD_shiftLeft, BitVec.getLsbD_one]
      by_cases hin : i = no.toNat
      · subst hin; simp [hx]
      · have : ¬ (i - no.toNat = 0 ∧ ¬ i < no.toNat) := by omega
        by_cases hlt : i < no.toNat
        · simp [hlt]
        · simp [hlt, show ¬ i - no.toNat = 0 by omega]
    · simp only [hx, Bool.false_eq_true, if_false, BitVec.getLsbD_and, BitVec.getLsbD_shiftLeft, BitVec.getLsbD_one, BitVec.getLsbD_zero]
      by_cases hin : i = no.toNat
      · subst hin; simp [hx]
      · by_cases hlt : i < no.toNat
        · simp [hlt]
        · simp [hlt, show ¬ i - no.toNat = 0 by omega]
  rw [h2]
  cases hx : bv.getLsbD no.toNat
  · simp
  · simp only [if_true]
    have : (bitW no).toNat ≠ 0 := by
      intro h
      have h3 : bitW no = 0#64 := BitVec.eq_of_toNat_eq (by simpa using h)
      have h4 : (bitW no).getLsbD no.toNat = true := by unfold bitW; simp [BitVec.getLsbD_shiftLeft]; omega
      rw [h3] at h4; simp at h4
    simp [this]
def blockW (bv : BitVec 64) (no : Int) (yes : Bool) : BitVec 64 := if rightN no = true then (if yes = true then (bv &&& ~~~bitW no) ||| bitW no else bv &&& ~~~bitW no) else bv
def blockB (bv : BitVec 64) (no : Int) : Bool := rightN no && !openB bv no
theorem block_open {bv : BitVec 64} {no m : Int} {yes : Bool} (hr : rightN no = true) (hm0 : 1 ≤ m) (hm1 : m ≤ 63) : openB (blockW bv no yes) m = if m = no then !yes else openB bv m := by
  have h := of_decide_eq_true hr
  unfold blockW
  rw [if_pos hr, openB_lsb, openB_lsb]
  have hb : (bitW no).getLsbD m.toNat = decide (m = no) := by
    unfold bitW
    rw [BitVec.getLsbD_shiftLeft, BitVec.getLsbD_one]
    by_cases he : m = no
    · subst he; simp; omega
    · by_cases hlt : m.toNat < no.toNat
      · simp [hlt, he]
      · simp [hlt, he]; omega
  have hlt : m.toNat < 64 := by omega
  cases yes
  · simp only [Bool.false_eq_true, if_false, BitVec.getLsbD_and, BitVec.getLsbD_not, hb, hlt, decide_true, Bool.true_and]
    by_cases he : m = no <;> simp [he]
  · simp only [if_true, BitVec.getLsbD_or, BitVec.getLsbD_and, BitVec.getLsbD_not, hb, hlt, decide_true, Bool.true_and]
    by_cases he : m = no <;> simp [he]
def atG (l : List Sig) (no tm : Int) : Option Nat := l.findIdx? (fun x => decide (x.no = no) && decide (x.timer = tm))
theorem atG_lt {l : List Sig} {no tm : Int} {k : Nat} (h : atG l no tm = some k) : k < l.length := by
  unfold atG at h; rw [List.findIdx?_eq_some_iff_getElem] at h; exact h.1
def badG (no tm ov : Int) : Bool := !rightN no || decide (tm < -1) || decide (ov < 0)
def sendE (l : List Sig) (no tm ov : Int) : Int := if badG no tm ov = true then 2 else match atG l no tm with | some _ => 0 | none => if 32 ≤ l.length then 3 else 0
def sendL (l : List Sig) (no tm ov : Int) : List Sig := if badG no tm ov = true then l else match atG l no tm with
  | some k => if tm = -1 then l else l.set k ⟨(l.getD k s0).no, (l.getD k s0).timer, overI ((l.getD k s0).over + overI ov + 1)⟩
  | none => if 32 ≤ l.length then l else l ++ [⟨no, tm, overI ov⟩]
theorem overI_range (x : Int) : 0 ≤ overI x ∧ overI x ≤ 2147483647 := by unfold overI; omega
/-- a row that is being thinned out: i stay of the first j -/
structure Thin (p : Sig → Bool) (l c : List Sig) (i j : Nat) : Prop where
  len : c.length = l.length
  ij : i ≤ j
  jl : j ≤ l.length
  head : c.take i = (l.take j).filter (fun x => !p x)
  tail : c.drop j = l.drop j
theorem Thin.at_ {p : Sig → Bool} {l c : List Sig} {i j : Nat} (h : Thin p l c i j) (hj : j < l.length) : c.getD j s0 = l.getD j s0 := by
  have := congrArg (fun x => x.getD 0 s0) h.tail
  simpa [List.getD_eq_getElem?_getD, List.getElem?_drop] using this
theorem Thin.start {p : Sig → Bool} {l : List Sig} {k : Nat} (h : l.findIdx? p = some k) : Thin p l l k (k + 1) := by
  rw [List.findIdx?_eq_some_iff_getElem] at h
  obtain ⟨hk, hp, hn⟩ := h
  refine ⟨rfl, by omega, by omega, ?_, rfl⟩
  rw [List.take_succ_eq_append_getElem hk, List.filter_append]
  have h1 : (l.take k).filter (fun x => !p x) = l.take k := by
    rw [List.filter_eq_self]
    intro x hx
    obtain ⟨q, hq, rfl⟩ := List.getElem_of_mem hx
    simp only [List.length_take] at hq
    have := hn q (by omega)
    simpa using this
  rw [h1]; simp [hp]
theorem Thin.gone {p : Sig → Bool} {l c : List Sig} {i j : Nat} (h : Thin p l c i j) (hj : j < l.length) (hp : p (c.getD j s0) = true) : Thin p l c i (j + 1) := by
  rw [h.at_ hj] at hp
  have e : l[j] = l.getD j s0 := by simp [hj]
  refine ⟨h.len, by have := h.ij; omega, by omega, ?_, ?_⟩
  · rw [List.take_succ_eq_append_getElem hj, List.filter_append, ← h.head, e]; simp at hp ⊢; simp [hp]
  · have := congrArg (List.drop 1) h.tail; rwa [List.drop_drop, List.drop_drop] at this
theorem Thin.stays {p : Sig → Bool} {l c : List Sig} {i j : Nat} (h : Thin p l c i j) (hj : j < l.length) (hp : p (c.getD j s0) = false) : Thin p l (c.set i (c.getD j s0)) (i + 1) (j + 1) := by
  have hat := h.at_ hj
  rw [hat] at hp ⊢
  have e : l[j] = l.getD j s0 := by simp [hj]
  have hi : i < c.length := by have := h.ij; have := h.len; omega
  refine ⟨by rw [List.length_set]; exact h.len, by have := h.ij; omega, by omega, ?_, ?_⟩
  · rw [List.take_succ_eq_append_getElem hj, List.filter_append, ← h.head, e]
    rw [List.set_eq_take_append_cons_drop, if_pos hi]
    have hlt : (c.take i).length = i := by rw [List.length_take]; omega
    rw [List.take_append, hlt, show i + 1 - i = 1 by omega, List.take_of_length_le (by omega)]
    simp at hp ⊢; simp [hp]
  · rw [List.drop_set_of_lt (by have := h.ij; omega)]
    have := congrArg (List.drop 1) h.tail; rwa [List.drop_drop, List.drop_drop] at this
theorem Thin.done {p : Sig → Bool} {l c : List Sig} {i j : Nat} (h : Thin p l c i j) (hj : l.length ≤ j) : c.take i = l.filter (fun x => !p x) := by
  rw [h.head, List.take_of_length_le hj]
theorem filter_none {p : Sig → Bool} {l : List Sig} (h : l.findIdx? p = none) : l.filter (fun x => !p x) = l := by
  rw [List.findIdx?_eq_none_iff] at h
  rw [List.filter_eq_self]; intro x hx; simp [h x hx]
def isT (tm : Int) (x : Sig) : Bool := decide (x.timer = tm)
def dropL (l : List Sig) (tm : Int) : List Sig := l.filter (fun x => !isT tm x)
structure Doing where
  kind : Int
  no : Int
  timer : Int
  over : Int
  yes : Bool
def encC (a : Doing) : List Value := [.int .u8 a.kind, .int .i64 a.no, .int .i64 a.timer, .int .i64 a.over, .bool a.yes]
def c0 : Doing := ⟨0, 0, 0, 0, false⟩
end Go.Sg
