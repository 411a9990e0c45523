import Derived.Test.YtcndjkjlgdidoaaPDlx3
namespace Go.Proofs.Ytcndjkjlgdidoaa.Da
open Go.RowKit Go.Proofs.YtcndjkjlgdidoaaW.PrintWords Go.Proofs.YtcndjkjlgdidoaaW.PrintLast Go.Proofs.YtcndjkjlgdidoaaW.PrintMore
open PDl
set_option linter.unusedVariables false
set_option linter.unusedSimpArgs false

/-- a row of n whole numbers told by a function -/
def row (n : Nat) (f : Nat → Int) : Array Value := Array.ofFn (n := n) fun i => .int .i64 (f i)
theorem row_size (n : Nat) (f : Nat → Int) : (row n f).size = n := by simp [row]
theorem row_get {n : Nat} (f : Nat → Int) {i : Nat} (h : i < n) : (row n f)[i]? = some (.int .i64 (f i)) := by
  simp [row, h]
theorem row_set {n : Nat} (f : Nat → Int) (i : Nat) (x : Int) : (row n f).setIfInBounds i (.int .i64 x) = row n (fun j => if j = i then x else f j) := by
  apply Array.ext_getElem?
  intro j
  rw [Array.getElem?_setIfInBounds]
  by_cases hj : j < n
  · rw [row_get _ hj]
    by_cases e : i = j
    · subst e; simp [row, hj]
    · have : ¬ j = i := fun h => e h.symm
      rw [if_neg e, row_get _ hj, if_neg this]
  · have h1 : (row n f)[j]? = none := by simp [row]; omega
    have h2 : (row n (fun j => if j = i then x else f j))[j]? = none := by simp [row]; omega
    rw [h1, h2]; split
    · rename_i e; subst e; rw [if_neg (by simp [row]; omega)]
    · rfl

def Rw (w : World) (b n : Nat) (f : Nat → Int) : Prop := w.heap[b]? = some (.cells (row n f) 3 (0, 0))
theorem Rw.cell {w : World} {b n : Nat} {f : Nat → Int} (h : Rw w b n f) {i : Nat} (hi : i < n) : w.cell? ⟨b, i, none⟩ = some (.int .i64 (f i)) := by
  rw [blk_cell h]; exact row_get f hi
theorem Rw.frozen {w : World} {b n : Nat} {f : Nat → Int} (h : Rw w b n f) (i : Nat) : w.frozen? ⟨b, i, none⟩ = false := blk_frozen h i
theorem Rw.set {w : World} {b n : Nat} {f : Nat → Int} (h : Rw w b n f) (i : Nat) (x : Int) : Rw (w.setCell ⟨b, i, none⟩ (.int .i64 x)) b n (fun j => if j = i then x else f j) := by
  unfold Rw; rw [← row_set]; exact blk_set h i _

theorem at35 {w : World} {A : Option Addr} {xs : List S35} (h : Kd.C k35 w A xs.length xs) (i : Nat) (h1 : i < xs.length) : ∃ ad , A = some ad ∧ w.cell? (ad.add (i * 3)) = some (.int .i64 (rd_T35 xs i).f0) ∧ w.cell? ⟨(ad.add (i * 3)).block, (ad.add (i * 3)).off + 1, none⟩ = some (.int .i64 (rd_T35 xs i).f1) ∧ w.cell? ⟨(ad.add (i * 3)).block, (ad.add (i * 3)).off + 2, none⟩ = some (.int .i64 (rd_T35 xs i).f2) :=
  at_T35 h (i : Int) (by omega) (by omega)
theorem rd35_mem {xs : List S35} {i : Nat} (h : i < xs.length) : rd_T35 xs i ∈ xs := by
  unfold rd_T35; simp [h]
/-- the player, as come and next see it -/
structure Pl (w : World) (g gl gd gm n : Nat) (A0 : Option Addr) (c0 : Nat) (L D M : Nat → Int) (did : Value) (idle : Int) : Prop where
  G : w.heap[g]? = some (.cells #[.slice A0 n c0, .slice (some ⟨gl, 0, none⟩) n n, .slice (some ⟨gd, 0, none⟩) n n, did, .slice (some ⟨gm, 0, none⟩) n n, .int .i64 idle] 43 (0, 0))
  L : Rw w gl n L
  D : Rw w gd n D
  M : Rw w gm n M
  ne : g ≠ gl ∧ g ≠ gd ∧ g ≠ gm ∧ gl ≠ gd ∧ gl ≠ gm ∧ gd ≠ gm

section
variable {w : World} {g gl gd gm n : Nat} {A0 : Option Addr} {c0 : Nat} {L D M : Nat → Int} {did : Value} {idle : Int}
theorem Pl.G0 (h : Pl w g gl gd gm n A0 c0 L D M did idle) : w.cell? ⟨g, 0, none⟩ = some (.slice A0 n c0) := (blk_cell h.G 0).trans rfl
theorem Pl.G1 (h : Pl w g gl gd gm n A0 c0 L D M did idle) : w.cell? ⟨g, 1, none⟩ = some (.slice (some ⟨gl, 0, none⟩) n n) := (blk_cell h.G 1).trans rfl
theorem Pl.G2 (h : Pl w g gl gd gm n A0 c0 L D M did idle) : w.cell? ⟨g, 2, none⟩ = some (.slice (some ⟨gd, 0, none⟩) n n) := (blk_cell h.G 2).trans rfl
theorem Pl.G3 (h : Pl w g gl gd gm n A0 c0 L D M did idle) : w.cell? ⟨g, 3, none⟩ = some did := (blk_cell h.G 3).trans rfl
theorem Pl.G4 (h : Pl w g gl gd gm n A0 c0 L D M did idle) : w.cell? ⟨g, 4, none⟩ = some (.slice (some ⟨gm, 0, none⟩) n n) := (blk_cell h.G 4).trans rfl
theorem Pl.G5 (h : Pl w g gl gd gm n A0 c0 L D M did idle) : w.cell? ⟨g, 5, none⟩ = some (.int .i64 idle) := (blk_cell h.G 5).trans rfl
end


def fires (t : S35) (tick : Int) : Bool := decide (t.f2 ≤ tick) && decide ((tick - t.f2) % t.f0 = 0)
def stL (l : List S35) (tick : Int) (L : Nat → Int) (k : Nat) : Nat → Int := fun i => if i < k ∧ fires (rd_T35 l i) tick = true then (rd_T35 l i).f1 else L i
def stD (l : List S35) (tick : Int) (D : Nat → Int) (k : Nat) : Nat → Int := fun i => if i < k ∧ fires (rd_T35 l i) tick = true then tick + (rd_T35 l i).f0 else D i
def stM (l : List S35) (tick : Int) (L M : Nat → Int) (k : Nat) : Nat → Int := fun i => if i < k ∧ fires (rd_T35 l i) tick = true ∧ 0 < L i then M i + 1 else M i

section
variable {w : World} {g gl gd gm n : Nat} {A0 : Option Addr} {c0 : Nat} {L D M : Nat → Int} {did : Value} {idle : Int}
theorem blk_other {w : World} {b : Nat} {o : Obj} {p : Addr} {v : Value} (h : w.heap[b]? = some o) (hne : b ≠ p.block) : (w.setCell p v).heap[b]? = some o := by
  rw [Below.heap_setCell _ _ _ _ hne]; exact h
theorem Rw.other {b : Nat} {f : Nat → Int} (h : Rw w b n f) {p : Addr} {v : Value} (hne : b ≠ p.block) : Rw (w.setCell p v) b n f := blk_other h hne
theorem blk_alloc {w : World} {b : Nat} {o o' : Obj} (h : w.heap[b]? = some o) : (w.alloc o').heap[b]? = some o := by
  rw [Below.heap_alloc _ _ _ (lt_of_block h)]; exact h
theorem Rw.alloc {b : Nat} {f : Nat → Int} (h : Rw w b n f) (o : Obj) : Rw (w.alloc o) b n f := blk_alloc h
theorem Pl.alloc (h : Pl w g gl gd gm n A0 c0 L D M did idle) (o : Obj) : Pl (w.alloc o) g gl gd gm n A0 c0 L D M did idle :=
  ⟨blk_alloc h.G, h.L.alloc o, h.D.alloc o, h.M.alloc o, h.ne⟩
theorem Pl.drewN (h : Pl w g gl gd gm n A0 c0 L D M did idle) (m : Nat) : Pl (w.drewN m) g gl gd gm n A0 c0 L D M did idle := ⟨h.G, h.L, h.D, h.M, h.ne⟩
theorem Pl.drew (h : Pl w g gl gd gm n A0 c0 L D M did idle) : Pl w.drew g gl gd gm n A0 c0 L D M did idle := ⟨h.G, h.L, h.D, h.M, h.ne⟩
theorem Pl.setL (h : Pl w g gl gd gm n A0 c0 L D M did idle) (i : Nat) (x : Int) : Pl (w.setCell ⟨gl, i, none⟩ (.int .i64 x)) g gl gd gm n A0 c0 (fun j => if j = i then x else L j) D M did idle := by
  obtain ⟨h1, h2, h3, h4, h5, h6⟩ := h.ne
  exact ⟨blk_other h.G h1, h.L.set i x, h.D.other (Ne.symm h4), h.M.other (Ne.symm h5), h.ne⟩
theorem Pl.setD (h : Pl w g gl gd gm n A0 c0 L D M did idle) (i : Nat) (x : Int) : Pl (w.setCell ⟨gd, i, none⟩ (.int .i64 x)) g gl gd gm n A0 c0 L (fun j => if j = i then x else D j) M did idle := by
  obtain ⟨h1, h2, h3, h4, h5, h6⟩ := h.ne
  exact ⟨blk_other h.G h2, h.L.other h4, h.D.set i x, h.M.other (Ne.symm h6), h.ne⟩
theorem Pl.setM (h : Pl w g gl gd gm n A0 c0 L D M did idle) (i : Nat) (x : Int) : Pl (w.setCell ⟨gm, i, none⟩ (.int .i64 x)) g gl gd gm n A0 c0 L D (fun j => if j = i then x else M j) did idle := by
  obtain ⟨h1, h2, h3, h4, h5, h6⟩ := h.ne
  exact ⟨blk_other h.G h3, h.L.other h5, h.D.other h6, h.M.set i x, h.ne⟩
theorem Pl.to {L' D' M' : Nat → Int} (h : Pl w g gl gd gm n A0 c0 L D M did idle) (e1 : L = L') (e2 : D = D') (e3 : M = M') : Pl w g gl gd gm n A0 c0 L' D' M' did idle := by
  subst e1; subst e2; subst e3; exact h
end

theorem stL_no {l : List S35} {tick : Int} {L : Nat → Int} {k : Nat} (h : fires (rd_T35 l k) tick = false) : stL l tick L k = stL l tick L (k + 1) := by
  funext i; unfold stL
  by_cases e : i = k
  · subst e; simp [h]
  · have : i < k ↔ i < k + 1 := by omega
    simp only [this]
theorem stD_no {l : List S35} {tick : Int} {L : Nat → Int} {k : Nat} (h : fires (rd_T35 l k) tick = false) : stD l tick L k = stD l tick L (k + 1) := by
  funext i; unfold stD
  by_cases e : i = k
  · subst e; simp [h]
  · have : i < k ↔ i < k + 1 := by omega
    simp only [this]
theorem stM_no {l : List S35} {tick : Int} {L M : Nat → Int} {k : Nat} (h : fires (rd_T35 l k) tick = false ∨ ¬ 0 < L k) : stM l tick L M k = stM l tick L M (k + 1) := by
  funext i; unfold stM
  by_cases e : i = k
  · subst e; rcases h with h | h <;> simp [h]
  · have : i < k ↔ i < k + 1 := by omega
    simp only [this]
theorem stL_yes {l : List S35} {tick : Int} {L : Nat → Int} {k : Nat} (h : fires (rd_T35 l k) tick = true) : (fun j => if j = k then (rd_T35 l k).f1 else stL l tick L k j) = stL l tick L (k + 1) := by
  funext i; unfold stL
  by_cases e : i = k
  · subst e; simp [h]
  · have : i < k ↔ i < k + 1 := by omega
    simp only [this, if_neg e]
theorem stD_yes {l : List S35} {tick : Int} {L : Nat → Int} {k : Nat} (h : fires (rd_T35 l k) tick = true) : (fun j => if j = k then tick + (rd_T35 l k).f0 else stD l tick L k j) = stD l tick L (k + 1) := by
  funext i; unfold stD
  by_cases e : i = k
  · subst e; simp [h]
  · have : i < k ↔ i < k + 1 := by omega
    simp only [this, if_neg e]
theorem stM_yes {l : List S35} {tick : Int} {L M : Nat → Int} {k : Nat} (h : fires (rd_T35 l k) tick = true) (h2 : 0 < L k) : (fun j => if j = k then M k + 1 else stM l tick L M k j) = stM l tick L M (k + 1) := by
  funext i; unfold stM
  by_cases e : i = k
  · subst e; simp [h, h2]
  · have : i < k ↔ i < k + 1 := by omega
    simp only [this, if_neg e]
theorem stL_at (l : List S35) (tick : Int) (L : Nat → Int) (k : Nat) : stL l tick L k k = L k := by simp [stL]
theorem stD_at (l : List S35) (tick : Int) (L : Nat → Int) (k : Nat) : stD l tick L k k = L k := by simp [stD]
theorem stM_at (l : List S35) (tick : Int) (L M : Nat → Int) (k : Nat) : stM l tick L M k k = M k := by simp [stM]
theorem stL_0 (l : List S35) (tick : Int) (L : Nat → Int) : L = stL l tick L 0 := by funext i; simp [stL]
theorem stD_0 (l : List S35) (tick : Int) (L : Nat → Int) : L = stD l tick L 0 := by funext i; simp [stD]
theorem stM_0 (l : List S35) (tick : Int) (L M : Nat → Int) : M = stM l tick L M 0 := by funext i; simp [stM]

def okTask (t : S35) : Prop := 1 ≤ t.f0 ∧ t.f0 ≤ 1000 ∧ 1 ≤ t.f1 ∧ t.f1 ≤ t.f0 ∧ 0 ≤ t.f2 ∧ t.f2 ≤ 1000

/-- all blocks that were there stand as they did, but the three rows -/
def Keep4 (w W : World) (S : Nat → Prop) : Prop := Kept w W S

set_option maxHeartbeats 400000 in
set_option maxRecDepth 100000 in
theorem come_any (g gl gd gm : Nat) (A0 : Option Addr) (c0 : Nat) (l : List S35) (L D M : Nat → Int) (did : Value) (idle tick : Int) (w0 w : World)
    (hl : Kd.C k35 w0 A0 l.length l) (hn : l.length ≤ 16) (hB : Below w0.heap.size w0 w) (hP : Pl w g gl gd gm l.length A0 c0 L D M did idle) (hg : w0.heap.size ≤ g ∧ w0.heap.size ≤ gl ∧ w0.heap.size ≤ gd ∧ w0.heap.size ≤ gm)
    (ht : 0 ≤ tick ∧ tick ≤ 20000) (hr : ∀ t ∈ l, okTask t) (hM : ∀ i, 0 ≤ M i ∧ M i ≤ 20000) :
    Calls Try.prog 15 #[.pointer (some ⟨g, 0, none⟩), .int .i64 tick] w fun e w' => e = .returned (.tuple #[]) ∧ Pl w' g gl gd gm l.length A0 c0 (stL l tick L l.length) (stD l tick D l.length) (stM l tick L M l.length) did idle ∧ Below w0.heap.size w0 w' ∧ Kept w w' (fun i => i = gl ∨ i = gd ∨ i = gm) := by
  have HL := Aside0.mk hl
  have HB := Aside0.mk hB
  have HP := Aside0.mk hP
  have HG := Aside0.mk hg
  have HR := Aside0.mk hr
  have HM := Aside0.mk hM
  have HK := Aside0.mk (Kept.refl w (fun i => i = gl ∨ i = gd ∨ i = gm))
  have hcz0 := hP.G0
  clear hl hB hP hg hr hM
  have hu35 := Try.underlying35
  go_enter Try.func15, Try.ntmps15
  go_wp2
  go_loopw [11] (fun v wr => ∃ (k : Nat), k ≤ l.length ∧ v = .int .i64 k ∧ Aside0 (Pl wr g gl gd gm l.length A0 c0 (stL l tick L k) (stD l tick D k) (stM l tick L M k) did idle) ∧ Aside0 (Below w0.heap.size w0 wr) ∧ Aside0 (Kept w wr (fun i => i = gl ∨ i = gd ∨ i = gm))) (fun v _ => l.length - (intOf v).toNat)
  case atStart => exact ⟨0, Nat.zero_le _, rfl, ⟨HP.out.to (stL_0 _ _ _) (stD_0 _ _ _) (stM_0 _ _ _ _)⟩, HB, HK⟩
  case round =>
    clear hcz0 HP HB HK
    obtain ⟨k, hk, rfl, HP1, HB1, HK1⟩ := hrel
    by_cases hlt : k < l.length
    · have hcz1 := HP1.out.G1
      have hcz2 := HP1.out.G2
      have hcz4 := HP1.out.G4
      have hL := HP1.out.L.cell hlt
      have hD := HP1.out.D.cell hlt
      have hMc := HP1.out.M.cell hlt
      rw [stL_at] at hL
      rw [stD_at] at hD
      rw [stM_at] at hMc
      have hLf := HP1.out.L.frozen k
      have hDf := HP1.out.D.frozen k
      have hMf := HP1.out.M.frozen k
      obtain ⟨ad, rfl, hx0, hx1, hx2⟩ := at35 HL.out k hlt
      replace hx0 := (HB1.out.cell (World.block_lt_of_cell? w0 _ hx0)).trans hx0
      replace hx1 := (HB1.out.cell (World.block_lt_of_cell? w0 _ hx1)).trans hx1
      replace hx2 := (HB1.out.cell (World.block_lt_of_cell? w0 _ hx2)).trans hx2
      obtain ⟨hr0, hr1, hr2, hr3, hr4, hr5⟩ := HR.out (rd_T35 l k) (rd35_mem hlt)
      have hk16 : (k : Int) ≤ 16 := by omega
      have hs0 : g < wr.heap.size := lt_of_block HP1.out.G
      have hs1 : gl < wr.heap.size := lt_of_block HP1.out.L
      have hs2 : gd < wr.heap.size := lt_of_block HP1.out.D
      have hs3 : gm < wr.heap.size := lt_of_block HP1.out.M
      obtain ⟨hn1, hn2, hn3, hn4, hn5, hn6⟩ := HP1.out.ne
      have hM0 := HM.out k
      have HPa := Aside0.mk (HP1.out.alloc (.cells #[.int .i64 (rd_T35 l k).f0, .int .i64 (rd_T35 l k).f1, .int .i64 (rd_T35 l k).f2] 35))
      by_cases h1 : tick < (rd_T35 l k).f2
      · go_wp2
        go_roundw
        case rel =>
            have hf : fires (rd_T35 l k) tick = false := by simp [fires]; omega
            exact ⟨k + 1, by omega, by go_num, ⟨HPa.out.to (stL_no hf) (stD_no hf) (stM_no (.inl hf))⟩, ⟨below_alloc HB1.out _⟩, ⟨HK1.out.alloc _⟩⟩
        case measure => simp [intOf]; omega
      · by_cases h2 : (tick - (rd_T35 l k).f2) % (rd_T35 l k).f0 = 0
        · by_cases h3 : 0 < L k
          · have hf : Aside0 (fires (rd_T35 l k) tick = true) := ⟨by simp [fires, h2]; omega⟩
            go_wp2
            go_region
            go_wp2
            go_roundw
            case rel =>
              obtain ⟨hg0, hg1, hg2, hg3⟩ := HG.out
              refine ⟨k + 1, by omega, by go_num, ⟨((((HP1.out.setM k (M k + 1)).setL k (rd_T35 l k).f1).setD k (tick + (rd_T35 l k).f0)).alloc _).drew.to (stL_yes hf.out) (stD_yes hf.out) (stM_yes hf.out h3)⟩,
                ⟨(below_alloc (((HB1.out.setCell (p := ⟨gm, k, none⟩) hg3 _).setCell (p := ⟨gl, k, none⟩) hg1 _).setCell (p := ⟨gd, k, none⟩) hg2 _) _).drew⟩,
                ⟨((((HK1.out.setCell (p := ⟨gm, k, none⟩) (.inl (.inr (.inr rfl))) _).setCell (p := ⟨gl, k, none⟩) (.inl (.inl rfl)) _).setCell (p := ⟨gd, k, none⟩) (.inl (.inr (.inl rfl))) _).alloc _).drew⟩⟩
            case measure => simp [intOf]; omega
          · have hf : Aside0 (fires (rd_T35 l k) tick = true) := ⟨by simp [fires, h2]; omega⟩
            go_wp2
            go_region
            go_wp2
            go_roundw
            case rel =>
              obtain ⟨hg0, hg1, hg2, hg3⟩ := HG.out
              refine ⟨k + 1, by omega, by go_num, ⟨(((HP1.out.setL k (rd_T35 l k).f1).setD k (tick + (rd_T35 l k).f0)).alloc _).drew.to (stL_yes hf.out) (stD_yes hf.out) (stM_no (.inr (by omega)))⟩,
                ⟨(below_alloc ((HB1.out.setCell (p := ⟨gl, k, none⟩) hg1 _).setCell (p := ⟨gd, k, none⟩) hg2 _) _).drew⟩,
                ⟨(((HK1.out.setCell (p := ⟨gl, k, none⟩) (.inl (.inl rfl)) _).setCell (p := ⟨gd, k, none⟩) (.inl (.inr (.inl rfl))) _).alloc _).drew⟩⟩
            case measure => simp [intOf]; omega
        · go_wp2
          go_roundw
          case rel =>
            have hf : fires (rd_T35 l k) tick = false := by simp [fires]; omega
            exact ⟨k + 1, by omega, by go_num, ⟨HPa.out.to (stL_no hf) (stD_no hf) (stM_no (.inl hf))⟩, ⟨below_alloc HB1.out _⟩, ⟨HK1.out.alloc _⟩⟩
          case measure => simp [intOf]; omega
    · have hkl : k = l.length := by omega
      subst hkl
      go_wp2
      go_end0
      exact ⟨rfl, HP1.out, HB1.out, HK1.out⟩
end Go.Proofs.Ytcndjkjlgdidoaa.Da
