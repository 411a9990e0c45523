/- fuseelaw34.DeadlinePlays: what is done in each tick, what is missed, and how many ticks are idle, is what a plain row of jobs tells. Conditions: none beyond the statement's own. -/
import Derived.Test.YtcndjkjlgdidoaaRows
import Derived.Test.YtcndjkjlgdidoaaDlH
import Derived.WalkKit
import Derived.ProofKit
import Derived.OpenShut
import Derived.ShutString
import Derived.ChangeOld
import Derived.Below
import Derived.SizedLaws
import Derived.Deep.Slices
import Derived.Deep.Fields
import Derived.ChangeSame
set_option linter.unusedSimpArgs false
set_option linter.unnecessarySimpa false
namespace Go.Proofs.Ytcndjkjlgdidoaa.deadlinePlays
open Go.ChangeShapes Go.WideShapes Go.ChangeAt Go.RowKit Go.Deep
set_option linter.unusedVariables false
/-- a slice of structs of one-cell fields, as an argument: each element's each cell, with its own reading -/
theorem slice_cells {H : Type} {enc : TypeId × Value → H} {P : Program} {w : World} {base : Nat} {spare : Nat → Bool} {held : Bool} {t e : TypeId} {fs : Array Field} {fuel : Nat} {cs : List Value} {x : DataW H × List MemPlace}
    (ht : P.underlying t = some (.slice e)) (he : P.underlying e = some (.struct fs)) (hone : oneCellFields P fs = true) (hC : P.cellsOf e = fs.size) (h : DataW.trod enc P w base spare held fuel t cs = some x) :
    cs = [.slice none 0 0] ∨ ∃ (a : Addr) (len cap : Nat), cs = [.slice (some a) len cap] ∧ len ≤ cap ∧ cap ≤ maxLen ∧
      ∀ i, i < len → ∀ (j : Nat) (f : Field), fs[j]? = some f → ∃ (v : Value) (y : DataW H × List MemPlace) (n : Nat), w.cell? (a.add (i * fs.size + j)) = some v ∧ DataW.trod enc P w base spare held n f.type [v] = some y := by
  rcases open_slice ht h with h0 | ⟨a, len, cap, m, n, D, Pl, hcs, _, hl, hm, hmm, _, hi⟩
  · exact .inl h0.1
  · refine .inr ⟨a, len, cap, hcs, hl, hm, fun i hlt j f hj => ?_⟩
    obtain ⟨cs', hc, ht'⟩ := hi i (by rw [hmm]; split <;> omega)
    rw [hC] at hc
    obtain ⟨ys, n', _, _, hlen, hyl, hf⟩ := DataW.trod_struct he ht'
    obtain ⟨_, hcl, hat⟩ := World.cells?_some hc
    obtain ⟨ho, hk⟩ := hone_of hone j f hj
    have hjl : j < fs.size := (Array.getElem?_eq_some_iff.1 hj).1
    have h1 := hf j f hj
    have hjc : j < cs'.length := by omega
    have hjy : j < ys.length := by omega
    have hd : (cs'.drop f.offset).take (P.cellsOf f.type) = [cs'[j]] := by
      rw [ho, hk, List.drop_eq_getElem_cons hjc]; rfl
    rw [hd, List.getElem?_eq_getElem hjy] at h1
    refine ⟨cs'[j], ys[j], _, ?_, h1⟩
    rw [← Go.Deep.add_add, hat j hjl, List.getElem?_eq_getElem hjc]

theorem own : ownKnob Try.prog.godebug = none := by kernel_rfl
theorem laidOut : laidOutB Try.prog = true := by kernel_rfl
theorem cells35 : Try.prog.cellsOf 35 = 3 := by kernel_rfl

theorem cell_addr {w : World} {a : Addr} {v : Value} (h : w.cell? a = some v) : a = ⟨a.block, a.off, none⟩ := by
  unfold World.cell? at h
  split at h
  · split at h
    · cases h
    · rename_i hs
      cases hsp : a.spot with
      | none => cases a; simp at hsp; rw [hsp]
      | some x => rw [hsp] at hs; simp at hs
  · cases h

/-- the tasks that came in -/
theorem tasks_of {H : Type} {enc : TypeId × Value → H} {w : World} {base : Nat} {spare : Nat → Bool} {held : Bool} {fuel : Nat} {A : Option Addr} {len cap : Nat} {x : DataW H × List MemPlace}
    (h : DataW.trod enc Try.prog w base spare held fuel 22 [.slice A len cap] = some x) : ∃ l : List Dl.Task, l.length = len ∧ Sp.InW w A (Dl.tasks l) := by
  rcases slice_cells Try.underlying22 Try.underlying35 (by kernel_rfl) cells35 h with hcs | ⟨a, l, c, hcs, hl, hm, hcell⟩
  · simp at hcs
    obtain ⟨rfl, rfl, rfl⟩ := hcs
    exact ⟨[], rfl, fun j v hj => by simp [Dl.tasks] at hj⟩
  · simp at hcs
    obtain ⟨rfl, rfl, rfl⟩ := hcs
    have hex : ∀ i, ∃ t : Dl.Task, i < len → w.cell? (a.add (i * 3 + 0)) = some (.int .i64 t.p) ∧ w.cell? (a.add (i * 3 + 1)) = some (.int .i64 t.c) ∧ w.cell? (a.add (i * 3 + 2)) = some (.int .i64 t.b) := by
      intro i
      by_cases hi : i < len
      · obtain ⟨v0, y0, n0, c0, t0⟩ := hcell i hi 0 _ rfl
        obtain ⟨v1, y1, n1, c1, t1⟩ := hcell i hi 1 _ rfl
        obtain ⟨v2, y2, n2, c2, t2⟩ := hcell i hi 2 _ rfl
        obtain ⟨b0, e0, _, _⟩ := DataW.trod_int Try.underlying3 t0
        obtain ⟨b1, e1, _, _⟩ := DataW.trod_int Try.underlying3 t1
        obtain ⟨b2, e2, _, _⟩ := DataW.trod_int Try.underlying3 t2
        simp at e0 e1 e2
        subst e0; subst e1; subst e2
        exact ⟨⟨b0, b1, b2⟩, fun _ => ⟨c0, c1, c2⟩⟩
      · exact ⟨⟨0, 0, 0⟩, fun h => absurd h hi⟩
    obtain ⟨f, hf⟩ := Classical.axiomOfChoice hex
    refine ⟨(List.range len).map f, by simp, ?_⟩
    intro j v hj
    have hjl : j < ((List.range len).map f).length * 3 := by
      have := (List.getElem?_eq_some_iff.1 hj).1
      rwa [Dl.tasks_len] at this
    simp only [List.length_map, List.length_range] at hjl
    have hi : j / 3 < len := by omega
    obtain ⟨g0, g1, g2⟩ := hf (j / 3) hi
    have hget : ((List.range len).map f)[j / 3]? = some (f (j / 3)) := by simp [hi]
    have ha0 : a = ⟨a.block, a.off, none⟩ := by
      obtain ⟨z0, _, _⟩ := hf 0 (by omega)
      have : a.add (0 * 3 + 0) = a := by simp [Addr.add]
      rw [this] at z0
      exact cell_addr z0
    have hadd : ∀ i, a.add i = ⟨a.block, a.off + i, none⟩ := by intro i; rw [ha0]; exact Sp.add_none _ _ _
    have hs : j = j / 3 * 3 + j % 3 := by omega
    have hm3 : j % 3 < 3 := Nat.mod_lt _ (by omega)
    have hval : ∀ c u, (Dl.encT (f (j / 3)))[c]? = some u → (Dl.tasks ((List.range len).map f))[j / 3 * 3 + c]? = some u := fun c u hu => Sp.flat_get Dl.encT 3 (fun _ => rfl) _ _ _ _ _ hget hu
    refine ⟨by simp only [Sp.blk, Sp.ofs]; rw [← ha0], ?_⟩
    simp only [Sp.blk, Sp.ofs]
    rw [← hadd]
    rw [hs] at hj
    generalize hq : j % 3 = q at *
    match q, hm3 with
    | 0, _ => rw [hval 0 _ rfl] at hj; cases hj; rw [hs, show (j / 3 * 3 + 0) / 3 = j / 3 by omega]; exact g0
    | 1, _ => rw [hval 1 _ rfl] at hj; cases hj; rw [hs, show (j / 3 * 3 + 1) / 3 = j / 3 by omega]; exact g1
    | 2, _ => rw [hval 2 _ rfl] at hj; cases hj; rw [hs, show (j / 3 * 3 + 2) / 3 = j / 3 by omega]; exact g2

set_option maxRecDepth 100000 in
theorem lifted (os : Os) (started : os.Started) (H : Type) (enc : TypeId × Value → H) :
    ReturnsInHanded {} Try.checked os 3 .any (Rows.deadlinePlaysSpec.pre6 enc Try.prog Try.f3 Rows.deadlinePlaysRow.domain false) (Rows.deadlinePlaysSpec.post enc Try.prog Try.f3 false true false false) := by
  refine returnsInHanded_of_change_sized (C := Try.checked) own started (by kernel_rfl) Try.func3
    (ChangeSpec.witness6 (enc := enc) (C := Try.checked) false ⟨#[], #[(.slice none 0 0), (.int .i64 0)], []⟩ 8 (by kernel_rfl) (by kernel_rfl) (by kernel_rfl) (by kernel_rfl)) ?_
  intro W base args ds gs before hval0 hW hcnd hsz0 _
  have hval : ∀ (j : Nat) t v, Try.f3.params[j]? = some t → args[j]? = some v → Value.okWide Try.prog W .any base t v := hval0
  have hW' := hW
  obtain ⟨p, q, hA0, hV, rfl, hfz, hnd⟩ := hW
  have hA : DataW.TrodAll enc Try.prog W 0 (fun _ => true) true Try.f3.params.toList args.toList ds p := hA0
  rw [Try.params3] at hA hval
  obtain ⟨v0, vs0, d0, ds0, p0, q0, hargs, rfl, rfl, h0, r0⟩ := trodAll_cons hA
  obtain ⟨v1, vs1, d1, ds1, p1, q1, rfl, rfl, rfl, h1, r1⟩ := trodAll_cons r0
  obtain ⟨rfl, rfl, rfl⟩ := trodAll_nil r1
  obtain rfl : args = #[v0, v1] := by cases args; simp_all
  obtain ⟨rfl, rfl⟩ := trodVars_none hV
  obtain ⟨A, len, cap, rfl⟩ := okWide_slice Try.underlying22 (hval 0 22 v0 rfl rfl)
  have k0 := h0
  have lt0 : ∀ x ∈ p0, x.block < W.heap.size := by obtain ⟨m, hm⟩ := k0; exact DataW.trod_lt m _ _ _ hm
  obtain ⟨fuel, hf⟩ := h0
  obtain ⟨l, rfl, hin⟩ := tasks_of hf
  obtain ⟨b0, rfl, rfl, rfl, w0⟩ := open_int Try.underlying3 (hval 1 3 v1 rfl rfl) h1
  clear hA0 hval0 hsz0
  refine (Dl.law_calls W A l cap hin b0).mono fun e W' ⟨he, bel⟩ => ?_
  subst he
  exact ⟨_, rfl, _, _, _, [], _, [], hW', trodAll_mk1 (shut_bool Try.underlying4 _), (trodAll_cons_mk (Below.trod laidOut (by kernel_rfl) (of_decide_eq_true (by kernel_rfl)) k0 bel lt0) (trodAll_cons_mk (shut_int Try.underlying3 w0) trodAll_mk0)), rfl, bel.frame _, fun h => by cases h⟩
theorem over : Rows.deadlinePlaysRow.holds Try.pinned (OpenSpec.ofChange Rows.deadlinePlaysSpec) :=
  OpenClaim.holds_of_wide 3 Try.f3 rfl rfl rfl rfl rfl rfl rfl ⟨rfl, rfl, rfl, rfl, rfl⟩ rfl rfl rfl rfl rfl (by kernel_rfl) Try.func3 (by kernel_rfl)
    (of_decide_eq_true (by kernel_rfl)) (by unfold Func.isWrapper; first | (rw [if_pos (by decide +kernel)]; kernel_rfl) | (rw [if_neg (by decide +kernel)]; exact ⟨rfl, rfl⟩))
    (fun os started H enc _ => lifted os started H enc)
end Go.Proofs.Ytcndjkjlgdidoaa.deadlinePlays
namespace Go.Proofs.Ytcndjkjlgdidoaa
theorem deadlinePlays_holds : Rows.DeadlinePlaysSaid := deadlinePlays.over
#print axioms deadlinePlays_holds
end Go.Proofs.Ytcndjkjlgdidoaa
