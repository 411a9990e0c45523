/- The fixed answers of a queue of signals. Conditions: none. -/
import Derived.Test.YtncihgdaaoiaiaaSgM
set_option linter.unnecessarySimpa false
set_option linter.unusedVariables false
set_option linter.unusedSimpArgs false
namespace Go.Sg
open Go Go.Sp
def w14 : BitVec 64 := blockW 0#64 14 true
def w0 : BitVec 64 := blockW w14 14 false
def a1 : Sig := ⟨14, 3, 0⟩
def a2 : Sig := ⟨14, 3, 1⟩
def a3 : Sig := ⟨9, -1, 0⟩
theorem y1 : sendE [] 14 3 0 = 0 := by kernel_rfl
theorem y2 : sendL [] 14 3 0 = [a1] := by kernel_rfl
theorem y3 : sendE [a1] 14 3 0 = 0 := by kernel_rfl
theorem y4 : sendL [a1] 14 3 0 = [a2] := by kernel_rfl
theorem y5 : sendE [a2] 9 (-1) 0 = 0 := by kernel_rfl
theorem y6 : sendL [a2] 9 (-1) 0 = [a2, a3] := by kernel_rfl
theorem y7 : blockB 0#64 14 = false := by kernel_rfl
theorem y8 : openI [a2, a3] w14 = some 1 := by kernel_rfl
theorem y9 : takeS [a2, a3] w14 = a3 := by kernel_rfl
theorem y10 : takeL [a2, a3] w14 = [a2] := by kernel_rfl
theorem y11 : blockB w14 14 = true := by kernel_rfl
theorem y12 : openI [a2] w0 = some 0 := by kernel_rfl
theorem y13 : takeS [a2] w0 = a2 := by kernel_rfl
theorem y14 : takeL [a2] w0 = [] := by kernel_rfl
theorem y15 : openI [] w0 = none := by kernel_rfl
theorem y16 : takeS [] w0 = s0 := by kernel_rfl
theorem y17 : takeL [] w0 = [] := by kernel_rfl
theorem y18 : sendE [] 0 0 0 = 2 := by kernel_rfl
theorem y19 : sendL [] 0 0 0 = [] := by kernel_rfl
theorem g0 : GoodG [] := ⟨by simp, fun p h => by simp at h⟩
theorem g1 : GoodG [a1] := ⟨by simp, fun p h => by
  have : p = 0 := by simpa using h
  subst this; decide⟩
theorem g2 : GoodG [a2] := ⟨by simp, fun p h => by
  have : p = 0 := by simpa using h
  subst this; decide⟩
theorem g3 : GoodG [a2, a3] := ⟨by simp, fun p h => by
  have : p = 0 ∨ p = 1 := by simp at h; omega
  rcases this with rfl | rfl <;> decide⟩
end Go.Sg
