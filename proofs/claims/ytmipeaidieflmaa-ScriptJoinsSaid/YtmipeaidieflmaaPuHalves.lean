/- Pu: chapter 08: shifts of wide numbers, sums with weights that halve. -/
import Derived.Test.YtmipeaidieflmaaPuPolys
set_option linter.unusedVariables false
set_option linter.unusedSimpArgs false
set_option linter.unnecessarySimpa false
set_option linter.unusedSectionVars false
namespace Go.Win
open Go.Vc Go.Dec

theorem ior_disj {a b k : Nat} (hb : b < 2 ^ k) (h : a * 2 ^ k + b < 18446744073709551616) : ior .u64 ((a * 2 ^ k : Nat) : Int) (b : Int) = ((a * 2 ^ k + b : Nat) : Int) := by
  show IntKind.u64.wrap _ = _
  have hbits : IntKind.u64.bits = 64 := rfl
  rw [hbits, IntKind.wrap_u64, BitVec.toNat_or, BitVec.toNat_ofInt, BitVec.toNat_ofInt]
  have e1 : ((((a * 2 ^ k : Nat) : Int) % ((2 ^ 64 : Nat) : Int)).toNat) = a * 2 ^ k := by omega
  have e2 : (((b : Int) % ((2 ^ 64 : Nat) : Int)).toNat) = b := by omega
  rw [e1, e2]
  have e3 : a * 2 ^ k ||| b = a * 2 ^ k + b := by
    rw [← Nat.shiftLeft_eq, Nat.shiftLeft_add_eq_or_of_lt hb]
  rw [e3]
  omega

theorem ishl_eq (x : Int) {k : Nat} (hk : k ≤ 64) : ishl .u64 x (k : Int) = (x * 2 ^ k) % 18446744073709551616 := by
  show IntKind.u64.wrap (x * 2 ^ (min (k : Int).toNat IntKind.u64.bits)) = _
  have : min (k : Int).toNat IntKind.u64.bits = k := by
    have hbits : IntKind.u64.bits = 64 := rfl
    rw [hbits, Int.toNat_natCast]; omega
  rw [this, IntKind.wrap_u64]

theorem ishr_eq (x : Int) {k : Nat} (hk : k ≤ 64) : ishr .u64 x (k : Int) = x / 2 ^ k := by
  show x.fdiv (2 ^ (min (k : Int).toNat IntKind.u64.bits)) = _
  have : min (k : Int).toNat IntKind.u64.bits = k := by
    have hbits : IntKind.u64.bits = 64 := rfl
    rw [hbits, Int.toNat_natCast]; omega
  rw [this, Int.fdiv_eq_ediv_of_nonneg _ (Int.le_of_lt (Int.pow_pos (by decide)))]

end Go.Win

