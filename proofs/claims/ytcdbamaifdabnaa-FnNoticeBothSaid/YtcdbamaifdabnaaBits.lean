/- 'a | b' of two numbers that are not negative. -/
import Derived.Test.YtcdbamaifdabnaaBase
namespace Go.Proofs.Ytcdbamaifdabnaa
set_option linter.unusedVariables false
open Go.RowKit
/-- 'a | b' as the machine reckons it. -/
def orI (a b : Int) : Int := bits .or .i64 a b
theorem orI_nat (a b : Nat) (ha : a < 9223372036854775808) (hb : b < 9223372036854775808) : orI (a : Int) (b : Int) = ((a ||| b : Nat) : Int) := by
  have hx : a ||| b < 2 ^ 63 := Nat.or_lt_two_pow (by omega) (by omega)
  have h1 : (BitVec.ofInt 64 (a : Int)).toNat = a := by
    rw [BitVec.ofInt_natCast, BitVec.toNat_ofNat]; exact Nat.mod_eq_of_lt (by omega)
  have h2 : (BitVec.ofInt 64 (b : Int)).toNat = b := by
    rw [BitVec.ofInt_natCast, BitVec.toNat_ofNat]; exact Nat.mod_eq_of_lt (by omega)
  show IntKind.i64.wrap ((BitVec.ofInt 64 (a : Int) ||| BitVec.ofInt 64 (b : Int)).toNat : Int) = _
  rw [BitVec.toNat_or, h1, h2, IntKind.wrap_i64]
  omega
theorem orI_small {a b : Int} (ha : 0 ≤ a ∧ a ≤ 255) (hb : 0 ≤ b ∧ b ≤ 255) : 0 ≤ orI a b ∧ orI a b ≤ 255 ∧ b ≤ orI a b ∧ a ≤ orI a b := by
  obtain ⟨x, rfl⟩ := Int.eq_ofNat_of_zero_le ha.1
  obtain ⟨y, rfl⟩ := Int.eq_ofNat_of_zero_le hb.1
  rw [orI_nat x y (by omega) (by omega)]
  have h1 : x ||| y < 2 ^ 8 := Nat.or_lt_two_pow (by omega) (by omega)
  have h2 : y ≤ x ||| y := Nat.right_le_or
  have h3 : x ≤ x ||| y := Nat.left_le_or
  omega
theorem orI_again {a b : Int} (ha : 0 ≤ a ∧ a ≤ 255) (hb : 0 ≤ b ∧ b ≤ 255) : orI (orI a b) b = orI a b := by
  obtain ⟨x, rfl⟩ := Int.eq_ofNat_of_zero_le ha.1
  obtain ⟨y, rfl⟩ := Int.eq_ofNat_of_zero_le hb.1
  have h1 : x ||| y < 2 ^ 8 := Nat.or_lt_two_pow (by omega) (by omega)
  rw [orI_nat x y (by omega) (by omega), orI_nat _ y (by omega) (by omega), Nat.or_assoc, Nat.or_self]
theorem orI_comm {a b : Int} (ha : 0 ≤ a ∧ a ≤ 255) (hb : 0 ≤ b ∧ b ≤ 255) : orI a b = orI b a := by
  obtain ⟨x, rfl⟩ := Int.eq_ofNat_of_zero_le ha.1
  obtain ⟨y, rfl⟩ := Int.eq_ofNat_of_zero_le hb.1
  rw [orI_nat x y (by omega) (by omega), orI_nat y x (by omega) (by omega), Nat.or_comm]
theorem orI_zero {b : Int} (hb : 0 ≤ b ∧ b ≤ 255) : orI 0 b = b := by
  obtain ⟨y, rfl⟩ := Int.eq_ofNat_of_zero_le hb.1
  have := orI_nat 0 y (by omega) (by omega)
  simpa using this
end Go.Proofs.Ytcdbamaifdabnaa
