/- What comes and goes, as it lies in memory at the start. Conditions: none. -/
import Derived.Test.YtdibbcmfgdgdfaaProg
import Derived.Test.YtdibbcmfgdgdfaaLeN
import Derived.WalkKit
import Derived.ProofKit
import Derived.OpenShut
import Derived.ShutString
import Derived.ChangeOld
import Derived.Below
import Derived.SizedLaws
import Derived.Deep.Slices
import Derived.Deep.Fields
import Derived.ChangeSame
set_option linter.unnecessarySimpa false
namespace Go.Proofs.Le
open Go Go.Sp Go.Le
open Go.ChangeShapes Go.WideShapes Go.ChangeAt Go.RowKit Go.Deep
set_option linter.unusedVariables false
set_option linter.unusedSimpArgs false
theorem own : ownKnob Try.prog.godebug = none := by kernel_rfl
theorem laidOut : laidOutB Try.prog = true := by kernel_rfl
theorem cells34 : Try.prog.cellsOf 34 = 6 := by kernel_rfl
theorem cell_addr {w : World} {a : Addr} {v : Value} (h : w.cell? a = some v) : a = ⟨a.block, a.off, none⟩ := by
  unfold World.cell? at h
  split at h
  · split at h
    · cases h
    · rename_i hs
      cases hsp : a.spot with
      | none => cases a; simp at hsp; rw [hsp]
      | some x => rw [hsp] at hs; simp at hs
  · cases h
/-- one that comes or goes -/
theorem doing_of {H : Type} {enc : TypeId × Value → H} {w : World} {base : Nat} {spare : Nat → Bool} {held : Bool} {fuel : Nat} {cs : List Value} {x : DataW H × List MemPlace}
    (h : DataW.trod enc Try.prog w base spare held fuel 34 cs = some x) : ∃ d : Deed, cs = encA d ∧ 0 ≤ d.kind := by
  obtain ⟨fs, hu⟩ : ∃ fs, Try.prog.underlying 34 = some (.struct fs) := ⟨_, Try.underlying34⟩
  have hf : Try.prog.fieldsOf 34 = fs := by unfold Program.fieldsOf; rw [hu]
  obtain ⟨ys, n, _, _, hlen, hyl, hat⟩ := DataW.trod_struct hu h
  rw [cells34] at hlen
  subst hf
  match cs, hlen with
  | [c0, c1, c2, c3, c4, c5], _ =>
    have h5 : (Try.prog.fieldsOf 34).size = 6 := by kernel_rfl
    have c1_ : Try.prog.cellsOf 3 = 1 := by kernel_rfl
    have c3_ : Try.prog.cellsOf 5 = 1 := by kernel_rfl
    have f0 := hat 0 _ (by kernel_rfl : (Try.prog.fieldsOf 34)[0]? = some ⟨"Kind", 5, 0, false, "", "", 0⟩)
    have f1 := hat 1 _ (by kernel_rfl : (Try.prog.fieldsOf 34)[1]? = some ⟨"Now", 3, 1, false, "", "", 8⟩)
    have f2 := hat 2 _ (by kernel_rfl : (Try.prog.fieldsOf 34)[2]? = some ⟨"Thing", 3, 2, false, "", "", 16⟩)
    have f3 := hat 3 _ (by kernel_rfl : (Try.prog.fieldsOf 34)[3]? = some ⟨"Who", 3, 3, false, "", "", 24⟩)
    have f4 := hat 4 _ (by kernel_rfl : (Try.prog.fieldsOf 34)[4]? = some ⟨"Token", 3, 4, false, "", "", 32⟩)
    have f5 := hat 5 _ (by kernel_rfl : (Try.prog.fieldsOf 34)[5]? = some ⟨"Long", 3, 5, false, "", "", 40⟩)
    simp only [c1_, c3_, List.drop_zero, List.drop_succ_cons, List.take_succ_cons, List.take_zero] at f0 f1 f2 f3 f4 f5
    rw [List.getElem?_eq_getElem (show 0 < ys.length by omega)] at f0
    rw [List.getElem?_eq_getElem (show 1 < ys.length by omega)] at f1
    rw [List.getElem?_eq_getElem (show 2 < ys.length by omega)] at f2
    rw [List.getElem?_eq_getElem (show 3 < ys.length by omega)] at f3
    rw [List.getElem?_eq_getElem (show 4 < ys.length by omega)] at f4
    rw [List.getElem?_eq_getElem (show 5 < ys.length by omega)] at f5
    obtain ⟨k, g0, _, hwf⟩ := DataW.trod_int Try.underlying5 f0
    obtain ⟨b1, g1, _, _⟩ := DataW.trod_int Try.underlying3 f1
    obtain ⟨b2, g2, _, _⟩ := DataW.trod_int Try.underlying3 f2
    obtain ⟨b3, g3, _, _⟩ := DataW.trod_int Try.underlying3 f3
    obtain ⟨b4, g4, _, _⟩ := DataW.trod_int Try.underlying3 f4
    obtain ⟨b5, g5, _, _⟩ := DataW.trod_int Try.underlying3 f5
    simp only [List.cons.injEq, and_true] at g0 g1 g2 g3 g4 g5
    subst g0; subst g1; subst g2; subst g3; subst g4; subst g5
    refine ⟨⟨k, b1, b2, b3, b4, b5⟩, rfl, ?_⟩
    simp [Lit.wf, IntKind.min, IntKind.max, IntKind.wrap, IntKind.bits, IntKind.signed] at hwf
    show 0 ≤ k
    omega
/-- all that came in -/
theorem doings_of {H : Type} {enc : TypeId × Value → H} {w : World} {base : Nat} {spare : Nat → Bool} {held : Bool} {fuel : Nat} {A : Option Addr} {len cap : Nat} {x : DataW H × List MemPlace}
    (h : DataW.trod enc Try.prog w base spare held fuel 22 [.slice A len cap] = some x) : ∃ l : List Deed, l.length = len ∧ Sp.InW w A (l.flatMap encA) ∧ ∀ i, i < len → 0 ≤ (l.getD i a0).kind := by
  rcases open_slice Try.underlying22 h with h0 | ⟨a, l, c, m, n, D, Pl, hcs, _, hl, hm, hmm, _, hi⟩
  · have := h0.1
    simp at this
    obtain ⟨rfl, rfl, rfl⟩ := this
    exact ⟨[], rfl, fun j v hj => by simp at hj, fun i hi => by omega⟩
  · simp at hcs
    obtain ⟨rfl, rfl, rfl⟩ := hcs
    have hex : ∀ i, ∃ d : Deed, i < len → 0 ≤ d.kind ∧ ∀ c v, (encA d)[c]? = some v → w.cell? (a.add (i * 6 + c)) = some v := by
      intro i
      by_cases hi' : i < len
      · obtain ⟨cs', hc, ht'⟩ := hi i (by rw [hmm]; split <;> omega)
        rw [cells34] at hc
        obtain ⟨d, rfl, hk⟩ := doing_of ht'
        obtain ⟨_, hcl, hat⟩ := World.cells?_some hc
        refine ⟨d, fun _ => ⟨hk, fun c v hv => ?_⟩⟩
        have hc6 : c < 6 := by have := (List.getElem?_eq_some_iff.1 hv).1; simpa [encA] using this
        rw [← Go.Deep.add_add, hat c hc6, hv]
      · exact ⟨a0, fun h => absurd h hi'⟩
    obtain ⟨f, hf⟩ := Classical.axiomOfChoice hex
    refine ⟨(List.range len).map f, by simp, ?_, fun i hi' => ?_⟩
    · intro j v hj
      have hjl : j < ((List.range len).map f).length * 6 := by
        have := (List.getElem?_eq_some_iff.1 hj).1
        rwa [flat_len encA 6 (fun _ => rfl)] at this
      simp only [List.length_map, List.length_range] at hjl
      have hi' : j / 6 < len := by omega
      obtain ⟨_, hcell⟩ := hf (j / 6) hi'
      have hget : ((List.range len).map f)[j / 6]? = some (f (j / 6)) := by simp [hi']
      have ha0 : a = ⟨a.block, a.off, none⟩ := by
        obtain ⟨_, z⟩ := hf 0 (by omega)
        have z0 := z 0 _ rfl
        have : a.add (0 * 6 + 0) = a := by simp [Addr.add]
        rw [this] at z0
        exact cell_addr z0
      have hadd : ∀ i, a.add i = ⟨a.block, a.off + i, none⟩ := by intro i; rw [ha0]; exact Sp.add_none _ _ _
      have hs : j = j / 6 * 6 + j % 6 := by omega
      have hc6 : j % 6 < 6 := Nat.mod_lt _ (by omega)
      obtain ⟨u, hu⟩ : ∃ u, (encA (f (j / 6)))[j % 6]? = some u := ⟨_, List.getElem?_eq_getElem (by simpa [encA] using hc6)⟩
      have h1 := Sp.flat_get encA 6 (fun _ => rfl) _ _ _ _ _ hget hu
      rw [← hs, hj] at h1
      cases h1
      have h2 := hcell _ _ hu
      rw [← hs, hadd] at h2
      exact ⟨by simp only [Sp.blk, Sp.ofs]; rw [← ha0], h2⟩
    · have := (hf i hi').1
      simpa [hi'] using this
end Go.Proofs.Le
