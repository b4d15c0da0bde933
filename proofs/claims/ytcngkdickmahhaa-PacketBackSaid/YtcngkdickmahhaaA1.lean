/- Words for walks: wrapped numbers, rows of bytes and of numbers, what a call may answer. -/
import Derived.Test.YtcngkdickmahhaaL4
namespace Go.Proofs.Ytcngkdickmahhaa
set_option maxRecDepth 100000
set_option linter.unusedVariables false
set_option linter.unusedSimpArgs false

theorem w_i64 (n : Int) : IntKind.i64.wrap n = (n + 9223372036854775808) % 18446744073709551616 - 9223372036854775808 := by
  simp [IntKind.wrap, IntKind.bits, IntKind.signed]; omega
theorem w_u64 (n : Int) : IntKind.u64.wrap n = n % 18446744073709551616 := by simp [IntKind.wrap, IntKind.bits, IntKind.signed]
theorem w_u32 (n : Int) : IntKind.u32.wrap n = n % 4294967296 := by simp [IntKind.wrap, IntKind.bits, IntKind.signed]
theorem w_u16 (n : Int) : IntKind.u16.wrap n = n % 65536 := by simp [IntKind.wrap, IntKind.bits, IntKind.signed]
theorem w_u8 (n : Int) : IntKind.u8.wrap n = n % 256 := by simp [IntKind.wrap, IntKind.bits, IntKind.signed]
theorem w_i32 (n : Int) : IntKind.i32.wrap n = (n + 2147483648) % 4294967296 - 2147483648 := by
  simp [IntKind.wrap, IntKind.bits, IntKind.signed]; omega
theorem wi64 {n : Int} (h1 : -9223372036854775808 ≤ n) (h2 : n ≤ 9223372036854775807) : IntKind.i64.wrap n = n := by rw [w_i64]; omega
theorem wu64 {n : Int} (h1 : 0 ≤ n) (h2 : n ≤ 18446744073709551615) : IntKind.u64.wrap n = n := by rw [w_u64]; omega
theorem wu32 {n : Int} (h1 : 0 ≤ n) (h2 : n ≤ 4294967295) : IntKind.u32.wrap n = n := by rw [w_u32]; omega
theorem wu16 {n : Int} (h1 : 0 ≤ n) (h2 : n ≤ 65535) : IntKind.u16.wrap n = n := by rw [w_u16]; omega
theorem wu8 {n : Int} (h1 : 0 ≤ n) (h2 : n ≤ 255) : IntKind.u8.wrap n = n := by rw [w_u8]; omega
theorem minL (a b : Int) : (if a < b then a else b) = min a b := by rw [Int.min_def]; split <;> split <;> omega
theorem maxL (a b : Int) : (if a > b then a else b) = max a b := by rw [Int.max_def]; split <;> split <;> omega
theorem mn_u64 {a : Nat} (h : a ≤ 64) : min a IntKind.u64.bits = a := Nat.min_eq_left h
theorem mn_i64 {a : Nat} (h : a ≤ 64) : min a IntKind.i64.bits = a := Nat.min_eq_left h
theorem mn_u32 {a : Nat} (h : a ≤ 32) : min a IntKind.u32.bits = a := Nat.min_eq_left h
theorem mn_u16 {a : Nat} (h : a ≤ 16) : min a IntKind.u16.bits = a := Nat.min_eq_left h
theorem mn_u8 {a : Nat} (h : a ≤ 8) : min a IntKind.u8.bits = a := Nat.min_eq_left h
theorem minc {a b : Nat} (h : a ≤ b) : min a b = a := Nat.min_eq_left h
theorem mincr {a b : Nat} (h : b ≤ a) : min a b = b := Nat.min_eq_right h
theorem orN (a b i : Nat) (hb : b < 2 ^ i) : (2 ^ i * a ||| b) = 2 ^ i * a + b := (Nat.two_pow_add_eq_or_of_lt hb a).symm
theorem or_k (k : Nat) (x y : Int) (i a b : Nat) (hx : x = (2 ^ i * a : Nat)) (hy : y = (b : Nat)) (hb : b < 2 ^ i) (h : 2 ^ i * a + b < 2 ^ k) :
    (((BitVec.ofInt k x ||| BitVec.ofInt k y).toNat : Nat) : Int) = x + y := by
  subst hx hy
  rw [BitVec.toNat_or, BitVec.ofInt_natCast, BitVec.ofInt_natCast, BitVec.toNat_ofNat, BitVec.toNat_ofNat, Nat.mod_eq_of_lt (by omega), Nat.mod_eq_of_lt (by omega), orN _ _ _ hb]
  omega
theorem or_u32_24 {x y : Int} (h1 : 0 ≤ y) (h2 : y < 16777216) (h3 : 0 ≤ x) (h4 : x % 16777216 = 0) (h5 : x + y < 4294967296) : (((BitVec.ofInt IntKind.u32.bits x ||| BitVec.ofInt IntKind.u32.bits y).toNat : Nat) : Int) = x + y :=
  or_k 32 x y 24 (x / 16777216).toNat y.toNat (by omega) (by omega) (by omega) (by omega)
theorem or_u32_16 {x y : Int} (h1 : 0 ≤ y) (h2 : y < 65536) (h3 : 0 ≤ x) (h4 : x % 65536 = 0) (h5 : x + y < 4294967296) : (((BitVec.ofInt IntKind.u32.bits x ||| BitVec.ofInt IntKind.u32.bits y).toNat : Nat) : Int) = x + y :=
  or_k 32 x y 16 (x / 65536).toNat y.toNat (by omega) (by omega) (by omega) (by omega)
theorem or_u32_8 {x y : Int} (h1 : 0 ≤ y) (h2 : y < 256) (h3 : 0 ≤ x) (h4 : x % 256 = 0) (h5 : x + y < 4294967296) : (((BitVec.ofInt IntKind.u32.bits x ||| BitVec.ofInt IntKind.u32.bits y).toNat : Nat) : Int) = x + y :=
  or_k 32 x y 8 (x / 256).toNat y.toNat (by omega) (by omega) (by omega) (by omega)
theorem or_i64_8 {x y : Int} (h1 : 0 ≤ y) (h2 : y < 256) (h3 : 0 ≤ x) (h4 : x % 256 = 0) (h5 : x + y < 18446744073709551616) : (((BitVec.ofInt IntKind.i64.bits x ||| BitVec.ofInt IntKind.i64.bits y).toNat : Nat) : Int) = x + y :=
  or_k 64 x y 8 (x / 256).toNat y.toNat (by omega) (by omega) (by omega) (by omega)
theorem or_u64_8 {x y : Int} (h1 : 0 ≤ y) (h2 : y < 256) (h3 : 0 ≤ x) (h4 : x % 256 = 0) (h5 : x + y < 18446744073709551616) : (((BitVec.ofInt IntKind.u64.bits x ||| BitVec.ofInt IntKind.u64.bits y).toNat : Nat) : Int) = x + y :=
  or_k 64 x y 8 (x / 256).toNat y.toNat (by omega) (by omega) (by omega) (by omega)
theorem or_i64_16 {x y : Int} (h1 : 0 ≤ y) (h2 : y < 65536) (h3 : 0 ≤ x) (h4 : x % 65536 = 0) (h5 : x + y < 18446744073709551616) : (((BitVec.ofInt IntKind.i64.bits x ||| BitVec.ofInt IntKind.i64.bits y).toNat : Nat) : Int) = x + y :=
  or_k 64 x y 16 (x / 65536).toNat y.toNat (by omega) (by omega) (by omega) (by omega)
theorem or_i64_24 {x y : Int} (h1 : 0 ≤ y) (h2 : y < 16777216) (h3 : 0 ≤ x) (h4 : x % 16777216 = 0) (h5 : x + y < 18446744073709551616) : (((BitVec.ofInt IntKind.i64.bits x ||| BitVec.ofInt IntKind.i64.bits y).toNat : Nat) : Int) = x + y :=
  or_k 64 x y 24 (x / 16777216).toNat y.toNat (by omega) (by omega) (by omega) (by omega)
theorem or_u64_16 {x y : Int} (h1 : 0 ≤ y) (h2 : y < 65536) (h3 : 0 ≤ x) (h4 : x % 65536 = 0) (h5 : x + y < 18446744073709551616) : (((BitVec.ofInt IntKind.u64.bits x ||| BitVec.ofInt IntKind.u64.bits y).toNat : Nat) : Int) = x + y :=
  or_k 64 x y 16 (x / 65536).toNat y.toNat (by omega) (by omega) (by omega) (by omega)
theorem or_u64_24 {x y : Int} (h1 : 0 ≤ y) (h2 : y < 16777216) (h3 : 0 ≤ x) (h4 : x % 16777216 = 0) (h5 : x + y < 18446744073709551616) : (((BitVec.ofInt IntKind.u64.bits x ||| BitVec.ofInt IntKind.u64.bits y).toNat : Nat) : Int) = x + y :=
  or_k 64 x y 24 (x / 16777216).toNat y.toNat (by omega) (by omega) (by omega) (by omega)
theorem or_u64_32 {x y : Int} (h1 : 0 ≤ y) (h2 : y < 4294967296) (h3 : 0 ≤ x) (h4 : x % 4294967296 = 0) (h5 : x + y < 18446744073709551616) : (((BitVec.ofInt IntKind.u64.bits x ||| BitVec.ofInt IntKind.u64.bits y).toNat : Nat) : Int) = x + y :=
  or_k 64 x y 32 (x / 4294967296).toNat y.toNat (by omega) (by omega) (by omega) (by omega)
end Go.Proofs.Ytcngkdickmahhaa
