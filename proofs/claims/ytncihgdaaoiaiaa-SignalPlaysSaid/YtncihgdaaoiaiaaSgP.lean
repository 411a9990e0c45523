/- SignalPlays' plain round: what is open, what is blocked, in the law's map and in the queue's word. Conditions: none. -/
import Derived.Test.YtncihgdaaoiaiaaSgN
set_option linter.unnecessarySimpa false
set_option linter.unusedVariables false
set_option linter.unusedSimpArgs false
namespace Go.Sg
open Go Go.Sp
/-- the map says what the word says -/
def Bl (bv : BitVec 64) (g : Int → Option Bool) : Prop := ∀ no, 1 ≤ no → no ≤ 63 → (g no).getD false = !openB bv no
theorem bl_nil : Bl 0#64 (fun _ => none) := by
  intro no h1 h2
  rw [openB_lsb]; simp
theorem bl_put {bv : BitVec 64} {g : Int → Option Bool} {no : Int} {yes : Bool} (h : Bl bv g) (hr : rightN no = true) : Bl (blockW bv no yes) (fun x => if x = no then some yes else g x) := by
  intro m h1 h2
  rw [block_open hr h1 h2]
  by_cases e : m = no
  · simp [e]
  · simp only [if_neg e]; exact h m h1 h2
theorem bl_no {bv : BitVec 64} {no : Int} {yes : Bool} (hr : rightN no = false) : blockW bv no yes = bv := by
  unfold blockW; rw [if_neg (by rw [hr]; decide)]
theorem block_no {bv : BitVec 64} {no : Int} (hr : rightN no = false) : blockB bv no = false := by
  unfold blockB; rw [hr]; rfl
theorem block_yes {bv : BitVec 64} {g : Int → Option Bool} {no : Int} (h : Bl bv g) (hr : rightN no = true) : blockB bv no = (g no).getD false := by
  have h1 := of_decide_eq_true hr
  unfold blockB; rw [hr, h no h1.1 h1.2]; rfl
theorem find_congr {p q : Sig → Bool} : ∀ {l : List Sig}, (∀ x ∈ l, p x = q x) → l.findIdx? p = l.findIdx? q
  | [], _ => rfl
  | a :: l, h => by
    rw [List.findIdx?_cons, List.findIdx?_cons, h a (by simp), find_congr (fun x hx => h x (by simp [hx]))]
theorem first_open {r : List Sig} {bv : BitVec 64} {g : Int → Option Bool} (hf : FineG r) (hb : Bl bv g) : r.findIdx? (fun x => !((g x.no).getD false)) = openI r bv := by
  unfold openI
  refine find_congr (fun x hx => ?_)
  have h1 := hf.ok x hx
  rw [hb x.no h1.1 h1.2.1, Bool.not_not]
theorem idx_ge (o : Option Nat) : decide (idxI o ≥ 0) = o.isSome := by
  cases o with
  | none => rfl
  | some k => simp [idxI]
theorem take_none {r : List Sig} {bv : BitVec 64} (h : openI r bv = none) : takeS r bv = s0 ∧ takeL r bv = r := by
  unfold takeS takeL; rw [h]; exact ⟨rfl, rfl⟩
theorem take_some {r : List Sig} {bv : BitVec 64} {k : Nat} (h : openI r bv = some k) : takeS r bv = r.getD k s0 ∧ takeL r bv = r.take k ++ r.drop (k + 1) := by
  unfold takeS takeL; rw [h]; exact ⟨rfl, List.eraseIdx_eq_take_drop_succ ..⟩
theorem bad_yes {no tm ov : Int} (h : no < 1 ∨ no > 63 ∨ tm < -1 ∨ ov < 0) : badG no tm ov = true := by
  unfold badG rightN
  simp only [Bool.or_eq_true, Bool.not_eq_true', decide_eq_false_iff_not, decide_eq_true_eq]
  omega
theorem bad_no {no tm ov : Int} (h : 1 ≤ no ∧ no ≤ 63 ∧ -1 ≤ tm ∧ 0 ≤ ov) : badG no tm ov = false := by
  unfold badG rightN
  simp only [Bool.or_eq_false_iff, Bool.not_eq_false', decide_eq_true_eq, decide_eq_false_iff_not]
  omega
theorem bne_no {a b : Int} (h : a = b) : (a != b) = false := by rw [h]; exact bne_self_eq_false b
theorem right_no {no : Int} (h : no < 1 ∨ no > 63) : rightN no = false := decide_eq_false (fun hh => by omega)
end Go.Sg
