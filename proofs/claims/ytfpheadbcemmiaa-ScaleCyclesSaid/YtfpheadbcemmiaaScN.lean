import Derived.Test.YtfpheadbcemmiaaPScx2
import Derived.Lib.Mul64
import Derived.Laws.Bits64b
namespace Go.Proofs.Ytfpheadbcemmiaa.Sc
open Go.RowKit Go.Proofs.YtfpheadbcemmiaaW.PrintWords Go.Proofs.YtfpheadbcemmiaaW.PrintLast Go.Proofs.YtfpheadbcemmiaaW.PrintMore
open PSc
set_option linter.unusedVariables false
set_option linter.unusedSimpArgs false

theorem wrap_u64 (n : Int) : IntKind.u64.wrap n = n % 18446744073709551616 := by simp [IntKind.wrap, IntKind.bits, IntKind.signed]
theorem wrap_in {n : Int} (h0 : 0 ≤ n) (h1 : n < 18446744073709551616) : IntKind.u64.wrap n = n := by rw [wrap_u64]; omega
theorem and32 (x : Nat) (h : x < 18446744073709551616) : Go.bits .and .u64 (x : Int) 4294967295 = ((x % 4294967296 : Nat) : Int) := by
  have h1 := bits_and_u64_nat x 4294967295 h (by decide)
  have h2 : x &&& 4294967295 = x % 4294967296 := Nat.and_two_pow_sub_one_eq_mod x 32
  rw [h2] at h1
  exact h1
theorem wrap_nat {n : Nat} (h1 : n < 18446744073709551616) : IntKind.u64.wrap (n : Int) = (n : Int) := wrap_in (by omega) (by omega)
theorem mul_nat (x y : Nat) (hx : x < 18446744073709551616) (hy : y < 18446744073709551616) :
    bits_Mul64.f (x : Int) (y : Int) = some (((x * y / 18446744073709551616 : Nat) : Int), ((x * y % 18446744073709551616 : Nat) : Int)) := by
  obtain ⟨h1, h2, h3, h4⟩ := Lib.mul64_hi x y hx hy
  have e1 : ((x : Int) / 4294967296) = ((x / 4294967296 : Nat) : Int) := by omega
  have e2 : ((y : Int) / 4294967296) = ((y / 4294967296 : Nat) : Int) := by omega
  unfold bits_Mul64.f
  rw [and32 x hx, and32 y hy, e1, e2]
  have hp : ∀ a b : Nat, ((a : Int) * (b : Int)) = ((a * b : Nat) : Int) := fun a b => by simp
  have hs : ∀ a b : Nat, ((a : Int) + (b : Int)) = ((a + b : Nat) : Int) := fun a b => by simp
  have hd : ∀ a : Nat, ((a : Int) / 4294967296) = ((a / 4294967296 : Nat) : Int) := fun a => by omega
  have ha := Lib.half_mul_le (a := x / 4294967296) (b := y / 4294967296) (by omega) (by omega)
  have hb := Lib.half_mul_le (a := x / 4294967296) (b := y % 4294967296) (by omega) (by omega)
  have hc := Lib.half_mul_le (a := x % 4294967296) (b := y / 4294967296) (by omega) (by omega)
  have hdd := Lib.half_mul_le (a := x % 4294967296) (b := y % 4294967296) (by omega) (by omega)
  simp only [hp]
  rw [← h4]
  have e5 : IntKind.u64.wrap ((x * y : Nat) : Int) = ((x * y % 18446744073709551616 : Nat) : Int) := by rw [wrap_u64]; omega
  rw [e5]
  generalize (x / 4294967296) * (y / 4294967296) = a at *
  generalize (x / 4294967296) * (y % 4294967296) = b at *
  generalize (x % 4294967296) * (y / 4294967296) = c at *
  generalize (x % 4294967296) * (y % 4294967296) = d at *
  generalize (x * y % 18446744073709551616) = z at *
  congr 2
  rw [wrap_nat (n := a) (by omega), wrap_nat (n := b) (by omega), wrap_nat (n := c) (by omega), wrap_nat (n := d) (by omega), hd, hs, wrap_nat (n := b + d / 4294967296) (by omega), and32 _ (by omega), hd, hs, hs, wrap_nat (n := a + (b + d / 4294967296) / 4294967296) (by omega), wrap_nat (n := (b + d / 4294967296) % 4294967296 + c) (by omega), hd, hs, wrap_nat (by omega)]
end Go.Proofs.Ytfpheadbcemmiaa.Sc
