import Derived.Test.YtcndjkjlgdidoaaDb
namespace Go.Proofs.Ytcndjkjlgdidoaa.Da
open Go.RowKit Go.Proofs.YtcndjkjlgdidoaaW.PrintWords Go.Proofs.YtcndjkjlgdidoaaW.PrintLast Go.Proofs.YtcndjkjlgdidoaaW.PrintMore
open PDl
set_option linter.unusedVariables false
set_option linter.unusedSimpArgs false

theorem own_kept {w W : World} {S : Nat → Prop} {base : Nat} {e : TypeId} {size n : Nat} {v : Value} {xs : List Value} (h : w.ownsRow base e size v n xs) (hk : Kept w W S) (hne : ∀ k, S k → k < base) : W.ownsRow base e size v n xs := by
  obtain ⟨h1, h2⟩ := h
  refine ⟨h1, ?_⟩
  rcases h2 with h2 | ⟨g, cap, cur, rfl, hg, hh, r⟩
  · exact Or.inl h2
  · exact Or.inr ⟨g, cap, cur, rfl, hg, by rw [hk.2 g (lt_of_block hh) (fun hs => by have := hne g hs; omega)]; exact hh, r⟩
theorem own_set {w : World} {base : Nat} {e : TypeId} {size n : Nat} {v u : Value} {xs : List Value} {p : Addr} (h : w.ownsRow base e size v n xs) (hne : p.block < base) : (w.setCell p u).ownsRow base e size v n xs := ownsRow_setCell_below h hne u
theorem Pl.kept {w W : World} {S : Nat → Prop} {g gl gd gm n : Nat} {A0 : Option Addr} {c0 : Nat} {L D M : Nat → Int} {did : Value} {idle : Int} (h : Pl w g gl gd gm n A0 c0 L D M did idle) (hk : Kept w W S) (hs : ¬ S g ∧ ¬ S gl ∧ ¬ S gd ∧ ¬ S gm) : Pl W g gl gd gm n A0 c0 L D M did idle :=
  ⟨blk_kept h.G hk hs.1, blk_kept h.L hk hs.2.1, blk_kept h.D hk hs.2.2.1, blk_kept h.M hk hs.2.2.2, h.ne⟩
theorem Pl.setDid {w : World} {g gl gd gm n : Nat} {A0 : Option Addr} {c0 : Nat} {L D M : Nat → Int} {did : Value} {idle : Int} (h : Pl w g gl gd gm n A0 c0 L D M did idle) (v : Value) : Pl (w.setCell ⟨g, 3, none⟩ v) g gl gd gm n A0 c0 L D M v idle := by
  obtain ⟨h1, h2, h3, h4, h5, h6⟩ := h.ne
  exact ⟨by simpa using blk_set h.G 3 v, h.L.other (Ne.symm h1), h.D.other (Ne.symm h2), h.M.other (Ne.symm h3), h.ne⟩
theorem Pl.setIdle {w : World} {g gl gd gm n : Nat} {A0 : Option Addr} {c0 : Nat} {L D M : Nat → Int} {did : Value} {idle : Int} (h : Pl w g gl gd gm n A0 c0 L D M did idle) (v : Int) : Pl (w.setCell ⟨g, 5, none⟩ (.int .i64 v)) g gl gd gm n A0 c0 L D M did v := by
  obtain ⟨h1, h2, h3, h4, h5, h6⟩ := h.ne
  exact ⟨by simpa using blk_set h.G 5 (.int .i64 v), h.L.other (Ne.symm h1), h.D.other (Ne.symm h2), h.M.other (Ne.symm h3), h.ne⟩
theorem Try.info3 : (Try.prog.info? 3).map (fun i => (i.zero, i.size, i.bytes)) = some (some (.int .i64 0), 1, 8) := by kernel_rfl

/-- what a tick does -/
structure St where
  L : Nat → Int
  D : Nat → Int
  M : Nat → Int
  did : List Int
  idle : Int
def tickSt (l : List S35) (t : Int) (s : St) : St :=
  let L1 := stL l t s.L l.length
  let D1 := stD l t s.D l.length
  let b := best L1 D1 l.length
  { L := fun j => if 0 ≤ b ∧ j = b.toNat then L1 j - 1 else L1 j, D := D1, M := stM l t s.L s.M l.length, did := s.did ++ [b], idle := if b < 0 then s.idle + 1 else s.idle }

def PlS (w0 w : World) (Bd g gl gd gm : Nat) (A0 : Option Addr) (c0 : Nat) (l : List S35) (s : St) : Prop :=
  ∃ did, Pl w g gl gd gm l.length A0 c0 s.L s.D s.M did s.idle ∧ w.ownsRow Bd 3 1 did s.did.length (s.did.map (Value.int .i64)) ∧ Below w0.heap.size w0 w

structure Bounds (l : List S35) (t : Int) (s : St) : Prop where
  M : ∀ i, 0 ≤ s.M i ∧ s.M i ≤ t
  I : 0 ≤ s.idle ∧ s.idle ≤ t
  d : (s.did.length : Int) = t
  L : ∀ i, 0 ≤ s.L i ∧ s.L i ≤ 1000

set_option maxHeartbeats 1000000 in
set_option maxRecDepth 100000 in
theorem tick_any (Bd g gl gd gm : Nat) (A0 : Option Addr) (c0 : Nat) (l : List S35) (s : St) (t : Int) (w0 w : World)
    (hl : Kd.C k35 w0 A0 l.length l) (hn : l.length ≤ 16) (hP : PlS w0 w Bd g gl gd gm A0 c0 l s) (hg : w0.heap.size ≤ g ∧ w0.heap.size ≤ gl ∧ w0.heap.size ≤ gd ∧ w0.heap.size ≤ gm)
    (hb : g < Bd ∧ gl < Bd ∧ gd < Bd ∧ gm < Bd ∧ Bd ≤ w.heap.size) (ht : 0 ≤ t ∧ t < 20000) (hr : ∀ t ∈ l, okTask t) (hs : Bounds l t s) :
    Calls Try.prog 13 #[.pointer (some ⟨g, 0, none⟩), .int .i64 t] w fun e w' => e = .returned (.tuple #[]) ∧ PlS w0 w' Bd g gl gd gm A0 c0 l (tickSt l t s) ∧ (∀ b, b < Bd → b ≠ g → b ≠ gl → b ≠ gd → b ≠ gm → w'.heap[b]? = w.heap[b]?) ∧ w.heap.size ≤ w'.heap.size := by
  obtain ⟨did, hP, ho, hB⟩ := hP
  have HL := Aside0.mk hl
  have HB := Aside0.mk hB
  have HP := Aside0.mk hP
  have HO := Aside0.mk ho
  have HG := Aside0.mk hg
  have HR := Aside0.mk hr
  have HS := Aside0.mk hs
  have Hb := Aside0.mk hb
  clear hl hB hP hg hr ho hs hb
  go_enter Try.func13, Try.ntmps13
  go_wp2_with fail
  refine (come_any g gl gd gm A0 c0 l s.L s.D s.M did s.idle t w0 w HL.out hn HB.out HP.out HG.out (by omega) HR.out (fun i => by have := HS.out.M i; omega)).mono ?_
  rintro e w1 ⟨rfl, hP1, hB1, hK1⟩
  have HP1 := Aside0.mk hP1
  have HB1 := Aside0.mk hB1
  have HK1 := Aside0.mk hK1
  clear hP1 hB1 hK1
  go_wp2_with fail
  refine (next_any g gl gd gm l.length A0 c0 _ _ _ did s.idle w0 w1 hn HB1.out HP1.out).mono ?_
  rintro e w2 ⟨rfl, hP2, hB2, hK2⟩
  have HP2 := Aside0.mk hP2
  have HB2 := Aside0.mk hB2
  have HO2 := Aside0.mk (own_kept (own_kept HO.out HK1.out (by obtain ⟨h1, h2, h3, h4, h5⟩ := Hb.out; rintro k (rfl | rfl | rfl) <;> assumption)) hK2 (fun _ h => h.elim))
  have HZ := Aside0.mk (Nat.le_trans Hb.out.2.2.2.2 (Nat.le_trans HK1.out.1 hK2.1))
  have HZ2 := Aside0.mk (Nat.le_trans HK1.out.1 hK2.1)
  have HF2 : Aside0 (∀ b, b < Bd → b ≠ g → b ≠ gl → b ≠ gd → b ≠ gm → w2.heap[b]? = w.heap[b]?) := ⟨fun b hb hg hl hd hm =>
    (hK2.2 b (by have := HK1.out.1; have := Hb.out.2.2.2.2; omega) (fun h => h)).trans (HK1.out.2 b (by have := Hb.out.2.2.2.2; omega) (fun h => by rcases h with h | h | h <;> contradiction))⟩
  clear hP2 hB2 hK2 HP1 HB1 HK1 HO HP HB
  have hcz3 := HP2.out.G3
  have hs0 : g < w2.heap.size := lt_of_block HP2.out.G
  obtain ⟨i0, hi, hz0, hz1, hz2⟩ := info_parts Try.info3
  have Hbb := Aside0.mk (best_bd (stL l t s.L l.length) (stD l t s.D l.length) l.length)
  have hSd := HS.out.d
  have hdd : (s.did.length + 1) ≤ maxLen := by unfold maxLen; omega
  go_wp2_with (at_builtin; refine wpList_append_own _ rfl _ _ 24 rfl Bd 3 i0 (.int .i64 0) 1 8 Try.underlying24 hi hz0 hz1 hz2 rfl (by decide) _ _ _ rfl (HO2.out.alloc _) ⟨w2.heap.size, 0, none⟩ 1 1 [.int .i64 (best (stL l t s.L l.length) (stD l t s.D l.length) l.length)] rfl rfl ?c1 ?c2 ?c3 ?c4 ?c5 ?_)
  case c1 => exact cell_one_new _ _ _
  case c2 => intro u hu; simp at hu; subst hu; rfl
  case c3 => exact hdd
  case c4 => unfold maxLen at hdd; omega
  case c5 => simp; have := HZ.out; omega
  intro did1 w3 hown1 hgrow1 _
  obtain ⟨gq, capq, rfl⟩ : ∃ gq capq, did1 = .slice (some ⟨gq, 0, none⟩) (s.did.length + 1) capq := by
    rcases hown1.2 with ⟨_, h⟩ | ⟨gq, cap, _, h, _⟩
    · omega
    · exact ⟨gq, cap, h⟩
  have hrow : Aside0 (∀ k, did.ownBlock = some k → Bd ≤ k) := ⟨fun k hk => (HO2.out.lt k hk).1⟩
  have HO3 := Aside0.mk hown1
  have HG3 := Aside0.mk hgrow1
  clear hown1 hgrow1
  have HPa := Aside0.mk (HP2.out.alloc (.cells #[.int .i64 (best (stL l t s.L l.length) (stD l t s.D l.length) l.length)] 3))
  have HP3 : Aside0 (Pl w3 g gl gd gm l.length A0 c0 (stL l t s.L l.length) (stD l t s.D l.length) (stM l t s.L s.M l.length) did s.idle) := by
    obtain ⟨h1, h2, h3, h4, h5⟩ := Hb.out
    have hne : ∀ b, b < Bd → some b ≠ did.ownBlock := fun b hb he => by have := hrow.out b he.symm; omega
    have hx : ∀ b o, b < Bd → (w2.alloc (.cells #[.int .i64 (best (stL l t s.L l.length) (stD l t s.D l.length) l.length)] 3)).heap[b]? = some o → w3.heap[b]? = some o := fun b o hb ho =>
      (HG3.out.block b (lt_of_block ho) (hne b hb)).trans ho
    exact ⟨hx _ _ h1 HPa.out.G, hx _ _ h2 HPa.out.L, hx _ _ h3 HPa.out.D, hx _ _ h4 HPa.out.M, HPa.out.ne⟩
  have HF3 : Aside0 (∀ b, b < Bd → b ≠ g → b ≠ gl → b ≠ gd → b ≠ gm → w3.heap[b]? = w.heap[b]?) := ⟨fun b hb hg hl hd hm => by
    have hne : some b ≠ did.ownBlock := fun he => by have := hrow.out b he.symm; omega
    have h1 := HG3.out.block b (by simp; have := HZ.out; omega) hne
    rw [Below.heap_alloc _ _ _ (by have := HZ.out; omega)] at h1
    exact h1.trans (HF2.out b hb hg hl hd hm)⟩
  have HS3 : Aside0 (w.heap.size ≤ w3.heap.size) := ⟨by have := HG3.out.size; have := HZ2.out; simp at *; omega⟩
  have HB3 : Aside0 (Below w0.heap.size w0 w3) := ⟨by
    obtain ⟨h1, h2, h3, h4, h5⟩ := Hb.out
    have := HG.out
    have hb2 := (HB2.out.alloc HB2.out.size (.cells #[.int .i64 (best (stL l t s.L l.length) (stD l t s.D l.length) l.length)] 3))
    exact hb2.grown HG3.out hb2.size (fun k hk => by have := hrow.out k hk; omega)⟩
  clear HPa HP2 HB2 HO2 HG3
  have hs3 : g < w3.heap.size := lt_of_block HP3.out.G
  have hcg3 := HP3.out.G3
  have hfg3 : w3.frozen? ⟨g, 3, none⟩ = false := blk_frozen HP3.out.G 3
  obtain ⟨b, hb⟩ : ∃ b, best (stL l t s.L l.length) (stD l t s.D l.length) l.length = b := ⟨_, rfl⟩
  have hb1 := Hbb.out
  rw [hb] at hb1 HO3 ⊢
  have HBB := Aside0.mk hb
  clear hb
  by_cases hneg : b < 0
  · have hcg5 := HP3.out.G5
    have hfg5 : w3.frozen? ⟨g, 5, none⟩ = false := blk_frozen HP3.out.G 5
    have hI := HS.out.I
    go_wp2_with fail
    refine bodyPost_ret (results_none rfl _ _ _) rfl ?_
    refine ⟨rfl, ⟨.slice (some ⟨gq, 0, none⟩) (s.did.length + 1) capq, ?_, ?_, ?_⟩, ?_, ?_⟩
    · have hh := (HP3.out.setDid (.slice (some ⟨gq, 0, none⟩) (s.did.length + 1) capq)).setIdle (s.idle + 1)
      have e1 : (tickSt l t s).L = stL l t s.L l.length := by
        funext j; simp only [tickSt, HBB.out]; rw [if_neg (by omega)]
      have e2 : (tickSt l t s).idle = s.idle + 1 := by simp only [tickSt, HBB.out]; rw [if_pos hneg]
      rw [e1, e2]
      exact hh
    · have e : (tickSt l t s).did = s.did ++ [b] := by simp only [tickSt, HBB.out]
      rw [e]
      simpa using own_set (own_set HO3.out (p := ⟨g, 3, none⟩) Hb.out.1) (p := ⟨g, 5, none⟩) Hb.out.1
    · exact (HB3.out.setCell (p := ⟨g, 3, none⟩) HG.out.1 _).setCell (p := ⟨g, 5, none⟩) HG.out.1 _
    · intro b hb hg hl hd hm
      rw [Below.heap_setCell _ _ _ _ hg, Below.heap_setCell _ _ _ _ hg]
      exact HF3.out b hb hg hl hd hm
    · simpa [World.setCell] using HS3.out
  · have hbl : b.toNat < l.length := by omega
    have h0 : 0 ≤ b := by omega
    have hcg1 := HP3.out.G1
    have hcL := HP3.out.L.cell hbl
    have hfL := HP3.out.L.frozen b.toNat
    have hs1 : gl < w3.heap.size := lt_of_block HP3.out.L
    have hne1 : g ≠ gl := HP3.out.ne.1
    have hLb : 0 ≤ stL l t s.L l.length b.toNat ∧ stL l t s.L l.length b.toNat ≤ 1000 := by
      unfold stL; split
      · have := HR.out (rd_T35 l (b.toNat : Nat)) (rd35_mem hbl); unfold okTask at this; omega
      · exact HS.out.L _
    go_wp2_with fail
    go_end0
    refine ⟨rfl, ⟨.slice (some ⟨gq, 0, none⟩) (s.did.length + 1) capq, ?_, ?_, ?_⟩, ?_, ?_⟩
    · have hh := (HP3.out.setDid (.slice (some ⟨gq, 0, none⟩) (s.did.length + 1) capq)).setL b.toNat (stL l t s.L l.length b.toNat - 1)
      have e1 : (tickSt l t s).L = (fun j => if j = b.toNat then stL l t s.L l.length b.toNat - 1 else stL l t s.L l.length j) := by
        funext j; simp only [tickSt, HBB.out]
        by_cases e : j = b.toNat
        · subst e; rw [if_pos ⟨h0, rfl⟩, if_pos rfl]
        · rw [if_neg (fun x => e x.2), if_neg e]
      have e2 : (tickSt l t s).idle = s.idle := by simp only [tickSt, HBB.out]; rw [if_neg (by omega)]
      rw [e1, e2]
      exact hh
    · have e : (tickSt l t s).did = s.did ++ [b] := by simp only [tickSt, HBB.out]
      rw [e]
      simpa using own_set (own_set HO3.out (p := ⟨g, 3, none⟩) Hb.out.1) (p := ⟨gl, b.toNat, none⟩) Hb.out.2.1
    · exact (HB3.out.setCell (p := ⟨g, 3, none⟩) HG.out.1 _).setCell (p := ⟨gl, b.toNat, none⟩) HG.out.2.1 _
    · intro b hb hg hl hd hm
      rw [Below.heap_setCell _ _ _ _ hl, Below.heap_setCell _ _ _ _ hg]
      exact HF3.out b hb hg hl hd hm
    · simpa [World.setCell] using HS3.out
end Go.Proofs.Ytcndjkjlgdidoaa.Da
