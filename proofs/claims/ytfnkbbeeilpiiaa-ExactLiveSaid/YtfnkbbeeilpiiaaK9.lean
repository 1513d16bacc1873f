import Derived.Test.YtfnkbbeeilpiiaaK8
namespace Go.Proofs.Ytfnkbbeeilpiiaa
open Go.Vc

theorem andLow {x : Int} (h0 : 0 ≤ x) (h1 : x < 18446744073709551616) : ((BitVec.ofInt IntKind.u64.bits x &&& BitVec.ofInt IntKind.u64.bits 4294967295).toNat : Int) = x % 4294967296 := by
  obtain ⟨n, rfl⟩ := Int.eq_ofNat_of_zero_le h0
  have e : (BitVec.ofInt IntKind.u64.bits (n : Int) &&& BitVec.ofInt IntKind.u64.bits 4294967295).toNat = n % 4294967296 := by
    have hb : IntKind.u64.bits = 64 := rfl
    rw [hb, BitVec.toNat_and, BitVec.toNat_ofInt, BitVec.toNat_ofInt]
    have h2 : (((n : Int) % ((2 ^ 64 : Nat) : Int)).toNat) = n := by omega
    have h3 : ((4294967295 : Int) % ((2 ^ 64 : Nat) : Int)).toNat = 2 ^ 32 - 1 := by decide
    rw [h2, h3, Nat.and_two_pow_sub_one_eq_mod]
  rw [e]
  omega

theorem andLowW (n : Int) : ((BitVec.ofInt IntKind.u64.bits (IntKind.u64.wrap n) &&& BitVec.ofInt IntKind.u64.bits 4294967295).toNat : Int) = IntKind.u64.wrap n % 4294967296 :=
  andLow (by rw [wrapU]; omega) (by rw [wrapU]; omega)

theorem shr32 (x : Int) : x.fdiv (2 ^ (min (32 : Int).toNat IntKind.u64.bits)) = x / 4294967296 := by
  have : (2 : Int) ^ (min (32 : Int).toNat IntKind.u64.bits) = 4294967296 := by decide
  rw [this, Int.fdiv_eq_ediv_of_nonneg _ (by decide)]

theorem wrapSmall (y : Int) : IntKind.u64.wrap (y % 4294967296) = y % 4294967296 := by
  rw [wrapU]; omega

theorem four (a b c d : Int) : (a * 4294967296 + b) * (c * 4294967296 + d) = (a * c) * 18446744073709551616 + (a * d + b * c) * 4294967296 + b * d := by
  grind

theorem bound {a b : Int} (ha : 0 ≤ a ∧ a < 4294967296) (hb : 0 ≤ b ∧ b < 4294967296) : 0 ≤ a * b ∧ a * b ≤ 18446744065119617025 := by
  refine ⟨Int.mul_nonneg ha.1 hb.1, ?_⟩
  have := Int.mul_le_mul (show a ≤ 4294967295 by omega) (show b ≤ 4294967295 by omega) hb.1 (by decide)
  simpa using this

theorem c79 (x y : Int) (hx : 0 ≤ x ∧ x < 18446744073709551616) (hy : 0 ≤ y ∧ y < 18446744073709551616) :
    Contract Try.prog 79 [.int .u64 x, .int .u64 y] [] (.tup [.int .u64 (x * y / 18446744073709551616), .int .u64 (x * y % 18446744073709551616)]) [] := by
  refine contract_of_vc tab_ok orders_ok Try.func79 Try.call79 (by kernel_rfl) 0 rfl rfl _ rfl ?_
  refine And.intro (by decide) (And.intro (by decide) (And.intro (by decide) (And.intro (by decide) (And.intro (by decide) (And.intro ?_ (And.intro ?_ trivial))))))
  · simp only [andLow hx.1 hx.2, andLow hy.1 hy.2, shr32, andLowW, wrapSmall]
    have e := four (x / 4294967296) (x % 4294967296) (y / 4294967296) (y % 4294967296)
    rw [show x / 4294967296 * 4294967296 + x % 4294967296 = x by omega, show y / 4294967296 * 4294967296 + y % 4294967296 = y by omega] at e
    have bp := bound (a := x % 4294967296) (b := y % 4294967296) (by omega) (by omega)
    have bq := bound (a := x / 4294967296) (b := y % 4294967296) (by omega) (by omega)
    have br := bound (a := x % 4294967296) (b := y / 4294967296) (by omega) (by omega)
    have bs := bound (a := x / 4294967296) (b := y / 4294967296) (by omega) (by omega)
    generalize x % 4294967296 * (y % 4294967296) = p at *
    generalize x / 4294967296 * (y % 4294967296) = q at *
    generalize x % 4294967296 * (y / 4294967296) = r at *
    generalize x / 4294967296 * (y / 4294967296) = s at *
    generalize x * y = X at *
    simp only [wrapU]
    omega
  · rw [wrapU]
end Go.Proofs.Ytfnkbbeeilpiiaa
