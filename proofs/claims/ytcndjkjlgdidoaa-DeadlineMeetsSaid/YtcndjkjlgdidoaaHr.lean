import Derived.Test.YtcndjkjlgdidoaaRows
import Derived.Test.YtcndjkjlgdidoaaGa
import Derived.WalkKit
import Derived.ProofKit
import Derived.OpenShut
import Derived.ShutString
import Derived.ChangeOld
import Derived.Below
import Derived.SizedLaws
import Derived.Deep.Slices
import Derived.Deep.Fields
import Derived.ChangeSame
import Derived.Test.YtcndjkjlgdidoaaWSized
namespace Go.Proofs.Ytcndjkjlgdidoaa.Da
open Go.ChangeShapes Go.WideShapes Go.ChangeAt Go.RowKit Go.Deep Go.Proofs.YtcndjkjlgdidoaaW.PrintWords
open PDl
set_option linter.unusedVariables false

/-- a slice of structs of one-cell fields, as an argument: each element's each cell, with its own reading -/
theorem slice_cells {H : Type} {enc : TypeId × Value → H} {P : Program} {w : World} {base : Nat} {spare : Nat → Bool} {held : Bool} {t e : TypeId} {fs : Array Field} {fuel : Nat} {cs : List Value} {x : DataW H × List MemPlace}
    (ht : P.underlying t = some (.slice e)) (he : P.underlying e = some (.struct fs)) (hone : oneCellFields P fs = true) (hC : P.cellsOf e = fs.size) (h : DataW.trod enc P w base spare held fuel t cs = some x) :
    cs = [.slice none 0 0] ∨ ∃ (a : Addr) (len cap : Nat), cs = [.slice (some a) len cap] ∧ len ≤ cap ∧ cap ≤ maxLen ∧
      ∀ i, i < len → ∀ (j : Nat) (f : Field), fs[j]? = some f → ∃ (v : Value) (y : DataW H × List MemPlace) (n : Nat), w.cell? (a.add (i * fs.size + j)) = some v ∧ DataW.trod enc P w base spare held n f.type [v] = some y := by
  rcases open_slice ht h with h0 | ⟨a, len, cap, m, n, D, Pl, hcs, _, hl, hm, hmm, _, hi⟩
  · exact .inl h0.1
  · refine .inr ⟨a, len, cap, hcs, hl, hm, fun i hlt j f hj => ?_⟩
    obtain ⟨cs', hc, ht'⟩ := hi i (by rw [hmm]; split <;> omega)
    rw [hC] at hc
    obtain ⟨ys, n', _, _, hlen, hyl, hf⟩ := DataW.trod_struct he ht'
    obtain ⟨_, hcl, hat⟩ := World.cells?_some hc
    obtain ⟨ho, hk⟩ := hone_of hone j f hj
    have hjl : j < fs.size := (Array.getElem?_eq_some_iff.1 hj).1
    have h1 := hf j f hj
    have hjc : j < cs'.length := by omega
    have hjy : j < ys.length := by omega
    have hd : (cs'.drop f.offset).take (P.cellsOf f.type) = [cs'[j]] := by
      rw [ho, hk, List.drop_eq_getElem_cons hjc]; rfl
    rw [hd, List.getElem?_eq_getElem hjy] at h1
    refine ⟨cs'[j], ys[j], _, ?_, h1⟩
    rw [← Go.Deep.add_add, hat j hjl, List.getElem?_eq_getElem hjc]

theorem own : ownKnob Try.prog.godebug = none := by kernel_rfl
theorem laidOut : laidOutB Try.prog = true := by kernel_rfl
theorem cells35 : Try.prog.cellsOf 35 = 3 := by kernel_rfl

/-- the tasks that came in -/
theorem tasks_of {H : Type} {enc : TypeId × Value → H} {w : World} {base : Nat} {spare : Nat → Bool} {held : Bool} {fuel : Nat} {A : Option Addr} {len cap : Nat} {x : DataW H × List MemPlace}
    (h : DataW.trod enc Try.prog w base spare held fuel 22 [.slice A len cap] = some x) : ∃ l : List S35, l.length = len ∧ len ≤ cap ∧ Kd.C k35 w A l.length l := by
  rcases slice_cells Try.underlying22 Try.underlying35 (by kernel_rfl) cells35 h with hcs | ⟨a, l, c, hcs, hl, hm, hcell⟩
  · simp at hcs
    obtain ⟨rfl, rfl, rfl⟩ := hcs
    exact ⟨[], rfl, Nat.le_refl _, rfl, by decide, fun h => absurd h (by decide)⟩
  · simp at hcs
    obtain ⟨rfl, rfl, rfl⟩ := hcs
    have hex : ∀ i, ∃ t : S35, i < len → w.cell? (a.add (i * 3 + 0)) = some (.int .i64 t.f0) ∧ w.cell? (a.add (i * 3 + 1)) = some (.int .i64 t.f1) ∧ w.cell? (a.add (i * 3 + 2)) = some (.int .i64 t.f2) := by
      intro i
      by_cases hi : i < len
      · obtain ⟨v0, y0, n0, c0, t0⟩ := hcell i hi 0 _ rfl
        obtain ⟨v1, y1, n1, c1, t1⟩ := hcell i hi 1 _ rfl
        obtain ⟨v2, y2, n2, c2, t2⟩ := hcell i hi 2 _ rfl
        obtain ⟨b0, e0, _, _⟩ := DataW.trod_int Try.underlying3 t0
        obtain ⟨b1, e1, _, _⟩ := DataW.trod_int Try.underlying3 t1
        obtain ⟨b2, e2, _, _⟩ := DataW.trod_int Try.underlying3 t2
        simp at e0 e1 e2
        subst e0; subst e1; subst e2
        exact ⟨⟨b0, b1, b2⟩, fun _ => ⟨c0, c1, c2⟩⟩
      · exact ⟨z35, fun h => absurd h hi⟩
    obtain ⟨f, hf⟩ := Classical.axiomOfChoice hex
    refine ⟨(List.range len).map f, by simp, hl, ?_⟩
    refine ⟨rfl, by simp; unfold maxLen at hm; omega, fun _ => ⟨a, rfl, ?_⟩⟩
    intro j p hj
    have hjl : j < len := by
      have := (List.getElem?_eq_some_iff.1 hj).1
      simpa using this
    rw [List.getElem?_map, List.getElem?_range hjl] at hj
    obtain rfl := Option.some.inj hj
    obtain ⟨g0, g1, g2⟩ := hf j hjl
    refine ⟨_, rfl, k35_mk w _, fun i u hu => ?_⟩
    match i, hu with
    | 0, hu => cases Option.some.inj hu; exact g0
    | 1, hu => cases Option.some.inj hu; exact g1
    | 2, hu => cases Option.some.inj hu; exact g2
end Go.Proofs.Ytcndjkjlgdidoaa.Da
