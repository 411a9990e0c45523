/- What comes and goes, as it lies in memory at the start. Conditions: none. -/
import Derived.Test.YtiaapecdhcibnaaProg
import Derived.Test.YtiaapecdhcibnaaWkM
import Derived.WalkKit
import Derived.ProofKit
import Derived.OpenShut
import Derived.ShutString
import Derived.ChangeOld
import Derived.Below
import Derived.SizedLaws
import Derived.Deep.Slices
import Derived.Deep.Fields
import Derived.ChangeSame
set_option linter.unnecessarySimpa false
namespace Go.Proofs.Wk
open Go Go.Sp Go.Wk
open Go.ChangeShapes Go.WideShapes Go.ChangeAt Go.RowKit Go.Deep
set_option linter.unusedVariables false
set_option linter.unusedSimpArgs false
theorem own : ownKnob Try.prog.godebug = none := by kernel_rfl
theorem laidOut : laidOutB Try.prog = true := by kernel_rfl
theorem cells47 : Try.prog.cellsOf 47 = 5 := by kernel_rfl
theorem cell_addr {w : World} {a : Addr} {v : Value} (h : w.cell? a = some v) : a = ⟨a.block, a.off, none⟩ := by
  unfold World.cell? at h
  split at h
  · split at h
    · cases h
    · rename_i hs
      cases hsp : a.spot with
      | none => cases a; simp at hsp; rw [hsp]
      | some x => rw [hsp] at hs; simp at hs
  · cases h
/-- one that comes or goes -/
theorem doing_of {H : Type} {enc : TypeId × Value → H} {w : World} {base : Nat} {spare : Nat → Bool} {held : Bool} {fuel : Nat} {cs : List Value} {x : DataW H × List MemPlace}
    (h : DataW.trod enc Try.prog w base spare held fuel 47 cs = some x) : ∃ d : Doing, cs = encC d ∧ 0 ≤ d.kind := by
  obtain ⟨fs, hu⟩ : ∃ fs, Try.prog.underlying 47 = some (.struct fs) := ⟨_, Try.underlying47⟩
  have hf : Try.prog.fieldsOf 47 = fs := by unfold Program.fieldsOf; rw [hu]
  obtain ⟨ys, n, _, _, hlen, hyl, hat⟩ := DataW.trod_struct hu h
  rw [cells47] at hlen
  subst hf
  have e0 := hat 0 _ (by kernel_rfl : (Try.prog.fieldsOf 47)[0]? = some ⟨"Kind", 5, 0, false, "", "", 0⟩)
  have e1 := hat 1 _ (by kernel_rfl : (Try.prog.fieldsOf 47)[1]? = some ⟨"Alarm", 30, 1, false, "", "", 8⟩)
  match cs, hlen with
  | [c0, c1, c2, c3, c4], _ =>
    have s0 : (([c0, c1, c2, c3, c4].drop 0).take (Try.prog.cellsOf 5)) = [c0] := by rw [show Try.prog.cellsOf 5 = 1 by kernel_rfl]; rfl
    have s1 : (([c0, c1, c2, c3, c4].drop 1).take (Try.prog.cellsOf 30)) = [c1, c2, c3, c4] := by rw [show Try.prog.cellsOf 30 = 4 by kernel_rfl]; rfl
    simp only [s0, s1] at e0 e1
    have h2 : (Try.prog.fieldsOf 47).size = 2 := by kernel_rfl
    have y0 : ∃ y, ys[0]? = some y := ⟨_, List.getElem?_eq_getElem (by omega)⟩
    have y1 : ∃ y, ys[1]? = some y := ⟨_, List.getElem?_eq_getElem (by omega)⟩
    obtain ⟨y0, hy0⟩ := y0
    obtain ⟨y1, hy1⟩ := y1
    rw [hy0] at e0
    rw [hy1] at e1
    obtain ⟨k, hk, _, hwf⟩ := DataW.trod_int Try.underlying5 e0
    obtain ⟨fs2, hu2⟩ : ∃ fs, Try.prog.underlying 30 = some (.struct fs) := ⟨_, Try.underlying30⟩
    have hf2 : Try.prog.fieldsOf 30 = fs2 := by unfold Program.fieldsOf; rw [hu2]
    obtain ⟨zs, n2, _, _, _, hzl, hat2⟩ := DataW.trod_struct hu2 e1
    subst hf2
    have h4 : (Try.prog.fieldsOf 30).size = 4 := by kernel_rfl
    have c1_ : Try.prog.cellsOf 3 = 1 := by kernel_rfl
    have c2_ : Try.prog.cellsOf 4 = 1 := by kernel_rfl
    have f0 := hat2 0 _ (by kernel_rfl : (Try.prog.fieldsOf 30)[0]? = some ⟨"ID", 3, 0, false, "", "", 0⟩)
    have f1 := hat2 1 _ (by kernel_rfl : (Try.prog.fieldsOf 30)[1]? = some ⟨"Minute", 3, 1, false, "", "", 8⟩)
    have f2 := hat2 2 _ (by kernel_rfl : (Try.prog.fieldsOf 30)[2]? = some ⟨"Days", 3, 2, false, "", "", 16⟩)
    have f3 := hat2 3 _ (by kernel_rfl : (Try.prog.fieldsOf 30)[3]? = some ⟨"Off", 4, 3, false, "", "", 24⟩)
    simp only [c1_, c2_, List.drop_zero, List.drop_succ_cons, List.take_succ_cons, List.take_zero] at f0 f1 f2 f3
    rw [List.getElem?_eq_getElem (show 0 < zs.length by omega)] at f0
    rw [List.getElem?_eq_getElem (show 1 < zs.length by omega)] at f1
    rw [List.getElem?_eq_getElem (show 2 < zs.length by omega)] at f2
    rw [List.getElem?_eq_getElem (show 3 < zs.length by omega)] at f3
    obtain ⟨b0, g0, _, _⟩ := DataW.trod_int Try.underlying3 f0
    obtain ⟨b1, g1, _, _⟩ := DataW.trod_int Try.underlying3 f1
    obtain ⟨b2, g2, _, _⟩ := DataW.trod_int Try.underlying3 f2
    obtain ⟨b3, g3, _⟩ := DataW.trod_bool Try.underlying4 f3
    simp only [List.cons.injEq, and_true] at hk g0 g1 g2 g3
    subst hk; subst g0; subst g1; subst g2; subst g3
    refine ⟨⟨k, b0, b1, b2, b3⟩, rfl, ?_⟩
    simp [Lit.wf, IntKind.min, IntKind.max, IntKind.wrap, IntKind.bits, IntKind.signed] at hwf
    show 0 ≤ k
    omega
/-- all that came in -/
theorem doings_of {H : Type} {enc : TypeId × Value → H} {w : World} {base : Nat} {spare : Nat → Bool} {held : Bool} {fuel : Nat} {A : Option Addr} {len cap : Nat} {x : DataW H × List MemPlace}
    (h : DataW.trod enc Try.prog w base spare held fuel 22 [.slice A len cap] = some x) : ∃ l : List Doing, l.length = len ∧ Sp.InW w A (l.flatMap encC) ∧ ∀ i, i < len → 0 ≤ (l.getD i c0).kind := by
  rcases open_slice Try.underlying22 h with h0 | ⟨a, l, c, m, n, D, Pl, hcs, _, hl, hm, hmm, _, hi⟩
  · have := h0.1
    simp at this
    obtain ⟨rfl, rfl, rfl⟩ := this
    exact ⟨[], rfl, fun j v hj => by simp at hj, fun i hi => by omega⟩
  · simp at hcs
    obtain ⟨rfl, rfl, rfl⟩ := hcs
    have hex : ∀ i, ∃ d : Doing, i < len → 0 ≤ d.kind ∧ ∀ c v, (encC d)[c]? = some v → w.cell? (a.add (i * 5 + c)) = some v := by
      intro i
      by_cases hi' : i < len
      · obtain ⟨cs', hc, ht'⟩ := hi i (by rw [hmm]; split <;> omega)
        rw [cells47] at hc
        obtain ⟨d, rfl, hk⟩ := doing_of ht'
        obtain ⟨_, hcl, hat⟩ := World.cells?_some hc
        refine ⟨d, fun _ => ⟨hk, fun c v hv => ?_⟩⟩
        have hc5 : c < 5 := by have := (List.getElem?_eq_some_iff.1 hv).1; simpa [encC] using this
        rw [← Go.Deep.add_add, hat c hc5, hv]
      · exact ⟨c0, fun h => absurd h hi'⟩
    obtain ⟨f, hf⟩ := Classical.axiomOfChoice hex
    refine ⟨(List.range len).map f, by simp, ?_, fun i hi' => ?_⟩
    · intro j v hj
      have hjl : j < ((List.range len).map f).length * 5 := by
        have := (List.getElem?_eq_some_iff.1 hj).1
        rwa [flat_len encC 5 (fun _ => rfl)] at this
      simp only [List.length_map, List.length_range] at hjl
      have hi' : j / 5 < len := by omega
      obtain ⟨_, hcell⟩ := hf (j / 5) hi'
      have hget : ((List.range len).map f)[j / 5]? = some (f (j / 5)) := by simp [hi']
      have ha0 : a = ⟨a.block, a.off, none⟩ := by
        obtain ⟨_, z⟩ := hf 0 (by omega)
        have z0 := z 0 _ rfl
        have : a.add (0 * 5 + 0) = a := by simp [Addr.add]
        rw [this] at z0
        exact cell_addr z0
      have hadd : ∀ i, a.add i = ⟨a.block, a.off + i, none⟩ := by intro i; rw [ha0]; exact Sp.add_none _ _ _
      have hs : j = j / 5 * 5 + j % 5 := by omega
      have hc5 : j % 5 < 5 := Nat.mod_lt _ (by omega)
      obtain ⟨u, hu⟩ : ∃ u, (encC (f (j / 5)))[j % 5]? = some u := ⟨_, List.getElem?_eq_getElem (by simpa [encC] using hc5)⟩
      have h1 := Sp.flat_get encC 5 (fun _ => rfl) _ _ _ _ _ hget hu
      rw [← hs, hj] at h1
      cases h1
      have h2 := hcell _ _ hu
      rw [← hs, hadd] at h2
      exact ⟨by simp only [Sp.blk, Sp.ofs]; rw [← ha0], h2⟩
    · have := (hf i hi').1
      simpa [hi'] using this
end Go.Proofs.Wk
