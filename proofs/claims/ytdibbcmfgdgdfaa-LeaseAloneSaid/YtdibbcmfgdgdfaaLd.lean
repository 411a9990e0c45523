import Derived.Test.YtdibbcmfgdgdfaaLc
namespace Go.Proofs.Ytdibbcmfgdgdfaa.Le
open Go.RowKit Go.Proofs.YtdibbcmfgdgdfaaW.PrintWords Go.Proofs.YtdibbcmfgdgdfaaW.PrintLast Go.Proofs.YtdibbcmfgdgdfaaW.PrintMore
open PLe
attribute [local go_sem] max2_int min2_int max_two min_two max_three min_three max_four min_four
set_option linter.unusedVariables false
set_option linter.unusedSimpArgs false

theorem Dsk.other {w : World} {g : Nat} {s : Dk} (h : Dsk w g s) {p : Addr} {v : Value} (hne : g ≠ p.block) : Dsk (w.setCell p v) g s := by
  unfold Dsk; rw [Below.heap_setCell _ _ _ _ hne]; exact h
theorem Dsk.below {w W : World} {g : Nat} {s : Dk} (h : Dsk w g s) (hb : Below w.heap.size w W) : Dsk W g s := (hb.block g h.lt).trans h
theorem grown_below {w W : World} (hb : Below w.heap.size w W) (r : Option Nat) : w.grownBy W r := ⟨hb.os, hb.tape, hb.output, hb.size, fun k hk _ => hb.block k hk⟩
/-- a desk's call: the desk's block and new ones alone have turned -/
def Only (w W : World) (g : Nat) : Prop := w.heap.size ≤ W.heap.size ∧ W.os = w.os ∧ W.tape = w.tape ∧ W.output = w.output ∧ ∀ k, k < w.heap.size → k ≠ g → W.heap[k]? = w.heap[k]?
theorem Only.refl (w : World) (g : Nat) : Only w w g := ⟨Nat.le_refl _, rfl, rfl, rfl, fun _ _ _ => rfl⟩
theorem Only.of_grown {w W : World} {g : Nat} (h : w.grownBy W (some g)) : Only w W g := ⟨h.size, h.os, h.tape, h.output, fun k hk hne => h.block k hk (fun e => hne (Option.some.inj e))⟩
theorem Only.trans {a b c : World} {g : Nat} (h : Only a b g) (k : Only b c g) : Only a c g :=
  ⟨Nat.le_trans h.1 k.1, k.2.1.trans h.2.1, k.2.2.1.trans h.2.2.1, k.2.2.2.1.trans h.2.2.2.1, fun i hi hne => (k.2.2.2.2 i (Nat.lt_of_lt_of_le hi h.1) hne).trans (h.2.2.2.2 i hi hne)⟩
theorem Only.alloc {w W : World} {g : Nat} (h : Only w W g) (o : Obj) : Only w (W.alloc o) g :=
  h.trans ⟨by simp, rfl, rfl, rfl, fun k hk _ => Below.heap_alloc _ _ _ hk⟩
theorem Only.drewN {w W : World} {g : Nat} (h : Only w W g) (n : Nat) : Only w (W.drewN n) g := h
theorem Only.drew {w W : World} {g : Nat} (h : Only w W g) : Only w W.drew g := h
theorem Only.setG {w W : World} {g : Nat} (h : Only w W g) (o : Nat) (v : Value) : Only w (W.setCell ⟨g, o, none⟩ v) g :=
  h.trans ⟨by simp [World.setCell], rfl, rfl, rfl, fun k _ hne => Below.heap_setCell _ _ _ _ hne⟩
theorem Only.setNew {w W : World} {g : Nat} (h : Only w W g) {b : Nat} (hb : w.heap.size ≤ b) (o : Nat) (v : Value) : Only w (W.setCell ⟨b, o, none⟩ v) g :=
  ⟨by have := h.1; simpa [World.setCell] using this, h.2.1, h.2.2.1, h.2.2.2.1, fun k hk hne => (Below.heap_setCell _ _ _ _ (by show k ≠ b; omega)).trans (h.2.2.2.2 k hk hne)⟩
theorem Only.below {w W : World} {g : Nat} (h : Only w W g) (hg : w.heap.size ≤ g) : Below w.heap.size w W :=
  ⟨h.2.1, h.2.2.1, h.2.2.2.1, h.1, fun k hk => h.2.2.2.2 k hk (by omega)⟩
theorem Only.blk {w W : World} {g b : Nat} {o : Obj} (h : Only w W g) (hb : w.heap[b]? = some o) (hne : b ≠ g) : W.heap[b]? = some o := (h.2.2.2.2 b (lt_of_block hb) hne).trans hb

def hold (a b c : Int) : Value := .agg #[.int .i64 a, .int .i64 b, .int .i64 c]

set_option maxHeartbeats 1000000 in
set_option maxRecDepth 100000 in
theorem of_yes (g : Nat) (s : Dk) (now : Int) (i : Nat) (hi : i < 256) (w : World) (hD : Dsk w g s) (hh : heldB (tickD s now) i = true) :
    Calls Try.prog 7 #[.pointer (some ⟨g, 0, none⟩), .int .i64 now, .int .i64 (i : Int)] w fun e w' =>
      e = .returned (.tuple #[hold (s.who i) (s.tok i) (s.en i), .bool true]) ∧ Dsk w' g (tickD s now) ∧ Only w w' g := by
  have HD := Aside0.mk hD
  have HH := Aside0.mk hh
  have hlt := hD.lt
  clear hD hh
  go_enter Try.func7, Try.ntmps7
  go_wp2_with fail
  refine (at_any g s now i hi _ (HD.out.alloc _)).mono ?_
  rintro e w1 ⟨rfl, hD1, hg1⟩
  have HD1 := Aside0.mk hD1
  have HB1 := Aside0.mk (hg1.block w.heap.size (by simp) (by simp; omega))
  have HO1 : Aside0 (Only w w1 g) := ⟨((Only.refl w g).alloc _).trans (Only.of_grown hg1)⟩
  have hrb := HB1.out.trans (heap_alloc_new w (.cells #[.int .i64 0, .int .i64 0, .int .i64 0] 27))
  have hrl := lt_of_block hrb
  have hr0 : w1.cell? ⟨w.heap.size, 0, none⟩ = some (.int .i64 0) := (blk_cell hrb 0).trans rfl
  have hr1 : w1.cell? ⟨w.heap.size, 1, none⟩ = some (.int .i64 0) := (blk_cell hrb 1).trans rfl
  have hr2 : w1.cell? ⟨w.heap.size, 2, none⟩ = some (.int .i64 0) := (blk_cell hrb 2).trans rfl
  have hf0 := blk_frozen hrb 0
  have hf1 := blk_frozen hrb 1
  have hf2 := blk_frozen hrb 2
  have hx0 := HD1.out.who hi
  have hx1 := HD1.out.tok hi
  have hx2 := HD1.out.en hi
  have hne : g ≠ w.heap.size := by omega
  clear hD1 hg1 HB1 hrb HD
  go_wp2_with (go_at_call 15; refine (held_any g (tickD s now) i hi _ (HD1.out.drewN 0)).mono ?_; rintro e w2 ⟨rfl, ⟨n2, rfl⟩⟩; rw [HH.out])
  refine bodyPost_ret (v := .tuple #[.agg #[.int .i64 (s.who i), .int .i64 (s.tok i), .int .i64 (s.en i)], .bool true]) (by simp [results, Try.results7, go_sem, hrl, hr0, hr1, hr2, tickD]) rfl ⟨rfl, ?_, ?_⟩
  · exact (((HD1.out.drewN _).other (p := ⟨w.heap.size, 0, none⟩) hne).other (p := ⟨w.heap.size, 1, none⟩) hne).other (p := ⟨w.heap.size, 2, none⟩) hne
  · exact (((HO1.out.drewN _).setNew (Nat.le_refl _) 0 _).setNew (Nat.le_refl _) 1 _).setNew (Nat.le_refl _) 2 _
set_option maxHeartbeats 1000000 in
set_option maxRecDepth 100000 in
theorem of_no (g : Nat) (s : Dk) (now : Int) (i : Nat) (hi : i < 256) (w : World) (hD : Dsk w g s) (hh : heldB (tickD s now) i = false) :
    Calls Try.prog 7 #[.pointer (some ⟨g, 0, none⟩), .int .i64 now, .int .i64 (i : Int)] w fun e w' =>
      e = .returned (.tuple #[hold 0 0 0, .bool false]) ∧ Dsk w' g (tickD s now) ∧ Only w w' g := by
  have HD := Aside0.mk hD
  have HH := Aside0.mk hh
  have hlt := hD.lt
  clear hD hh
  go_enter Try.func7, Try.ntmps7
  go_wp2_with fail
  refine (at_any g s now i hi _ (HD.out.alloc _)).mono ?_
  rintro e w1 ⟨rfl, hD1, hg1⟩
  have HD1 := Aside0.mk hD1
  have HB1 := Aside0.mk (hg1.block w.heap.size (by simp) (by simp; omega))
  have HO1 : Aside0 (Only w w1 g) := ⟨((Only.refl w g).alloc _).trans (Only.of_grown hg1)⟩
  have hrb := HB1.out.trans (heap_alloc_new w (.cells #[.int .i64 0, .int .i64 0, .int .i64 0] 27))
  have hrl := lt_of_block hrb
  have hr0 : w1.cell? ⟨w.heap.size, 0, none⟩ = some (.int .i64 0) := (blk_cell hrb 0).trans rfl
  have hr1 : w1.cell? ⟨w.heap.size, 1, none⟩ = some (.int .i64 0) := (blk_cell hrb 1).trans rfl
  have hr2 : w1.cell? ⟨w.heap.size, 2, none⟩ = some (.int .i64 0) := (blk_cell hrb 2).trans rfl
  have hf0 := blk_frozen hrb 0
  have hf1 := blk_frozen hrb 1
  have hf2 := blk_frozen hrb 2
  have hx0 := HD1.out.who hi
  have hx1 := HD1.out.tok hi
  have hx2 := HD1.out.en hi
  have hne : g ≠ w.heap.size := by omega
  clear hD1 hg1 HB1 hrb HD
  go_wp2_with (go_at_call 15; refine (held_any g (tickD s now) i hi _ (HD1.out.drewN 0)).mono ?_; rintro e w2 ⟨rfl, ⟨n2, rfl⟩⟩; rw [HH.out])
  refine bodyPost_ret (v := .tuple #[.agg #[.int .i64 (0), .int .i64 (0), .int .i64 (0)], .bool false]) (by simp [results, Try.results7, go_sem, hrl, hr0, hr1, hr2, tickD]) rfl ⟨rfl, ?_, ?_⟩
  · exact (((HD1.out.drewN _).other (p := ⟨w.heap.size, 0, none⟩) hne).other (p := ⟨w.heap.size, 1, none⟩) hne).other (p := ⟨w.heap.size, 2, none⟩) hne
  · exact (((HO1.out.drewN _).setNew (Nat.le_refl _) 0 _).setNew (Nat.le_refl _) 1 _).setNew (Nat.le_refl _) 2 _
end Go.Proofs.Ytdibbcmfgdgdfaa.Le
