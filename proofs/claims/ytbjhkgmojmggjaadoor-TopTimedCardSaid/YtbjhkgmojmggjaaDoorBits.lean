/- Bits of small numbers: plain laws. No condition beyond what each states. -/
import Derived.Test.YtbjhkgmojmggjaaDoorTimB
namespace Go.Proofs.YtbjhkgmojmggjaaDoor
set_option linter.unusedSimpArgs false
set_option linter.unusedVariables false
set_option linter.unnecessarySimpa false
set_option linter.unusedSectionVars false
open Go.RowKit
theorem ofInt64 (a : Nat) (ha : a < 18446744073709551616) : (BitVec.ofInt 64 (a : Int)).toNat = a := by
  rw [BitVec.ofInt_natCast, BitVec.toNat_ofNat]
  exact Nat.mod_eq_of_lt (by omega)
theorem wrap_i64_small (n : Int) (h0 : 0 ≤ n) (h1 : n < 9223372036854775808) : IntKind.i64.wrap n = n := by
  simp [IntKind.wrap, IntKind.bits, IntKind.signed]
  split <;> omega
theorem or256 (q r : Nat) (hr : r < 256) : 256 * q ||| r = 256 * q + r := (Nat.two_pow_add_eq_or_of_lt (i := 8) (by omega) q).symm
theorem i64_and255 (x : Nat) (hx : x < 65536) : bits .and .i64 (x : Int) 255 = ((x % 256 : Nat) : Int) := by
  show IntKind.i64.wrap ((BitVec.ofInt 64 (x : Int) &&& BitVec.ofInt 64 255).toNat : Int) = _
  have h2 : (BitVec.ofInt 64 255).toNat = 2 ^ 8 - 1 := by decide
  rw [BitVec.toNat_and, ofInt64 x (by omega), h2, Nat.and_two_pow_sub_one_eq_mod]
  exact wrap_i64_small _ (by omega) (by omega)
theorem fin1 : ∀ q : Fin 256, 256 * q.val &&& 18446744073709551360 = 256 * q.val := by decide +kernel
theorem fin2 : ∀ q : Fin 256, q.val &&& 18446744073709551360 = 0 := by decide +kernel
theorem i64_andNot255 (x : Nat) (hx : x < 65536) : bits .andNot .i64 (x : Int) 255 = ((256 * (x / 256) : Nat) : Int) := by
  show IntKind.i64.wrap ((BitVec.ofInt 64 (x : Int) &&& ~~~BitVec.ofInt 64 255).toNat : Int) = _
  have h2 : (BitVec.ofInt 64 255).toNat = 255 := by decide
  have e : x = 256 * (x / 256) ||| x % 256 := by rw [or256 _ _ (by omega)]; omega
  have f1 := fin1 ⟨x / 256, by omega⟩
  have f2 := fin2 ⟨x % 256, by omega⟩
  simp only at f1 f2
  rw [BitVec.toNat_and, BitVec.toNat_not, ofInt64 x (by omega), h2, show 2 ^ 64 - 1 - 255 = 18446744073709551360 by decide]
  rw [show x &&& 18446744073709551360 = 256 * (x / 256) by
    conv => lhs; rw [e]
    rw [Nat.and_or_distrib_right, f1, f2]
    simp]
  exact wrap_i64_small _ (by omega) (by omega)
theorem i64_or256 (q r : Nat) (hq : q < 256) (hr : r < 256) : bits .or .i64 ((256 * q : Nat) : Int) (r : Int) = ((256 * q + r : Nat) : Int) := by
  show IntKind.i64.wrap ((BitVec.ofInt 64 ((256 * q : Nat) : Int) ||| BitVec.ofInt 64 (r : Int)).toNat : Int) = _
  rw [BitVec.toNat_or, ofInt64 _ (by omega), ofInt64 _ (by omega), or256 _ _ hr]
  exact wrap_i64_small _ (by omega) (by omega)
theorem i64_or256' (q r : Nat) (hq : q < 256) (hr : r < 256) : bits .or .i64 (r : Int) ((256 * q : Nat) : Int) = ((256 * q + r : Nat) : Int) := by
  show IntKind.i64.wrap ((BitVec.ofInt 64 (r : Int) ||| BitVec.ofInt 64 ((256 * q : Nat) : Int)).toNat : Int) = _
  rw [BitVec.toNat_or, ofInt64 _ (by omega), ofInt64 _ (by omega), Nat.or_comm, or256 _ _ hr]
  exact wrap_i64_small _ (by omega) (by omega)
/-- The same in whole numbers. -/
theorem z_and255 (x : Int) (h0 : 0 ≤ x) (h1 : x ≤ 65535) : bits .and .i64 x 255 = x % 256 := by
  obtain ⟨n, rfl⟩ : ∃ n : Nat, x = n := ⟨x.toNat, by omega⟩
  rw [i64_and255 n (by omega)]; omega
theorem z_andNot255 (x : Int) (h0 : 0 ≤ x) (h1 : x ≤ 65535) : bits .andNot .i64 x 255 = x / 256 * 256 := by
  obtain ⟨n, rfl⟩ : ∃ n : Nat, x = n := ⟨x.toNat, by omega⟩
  rw [i64_andNot255 n (by omega)]; omega
theorem z_or (x v : Int) (h0 : 0 ≤ x) (h1 : x ≤ 65535) (h2 : 0 ≤ v) (h3 : v < 256) : bits .or .i64 (x / 256 * 256) v = x / 256 * 256 + v := by
  obtain ⟨n, rfl⟩ : ∃ n : Nat, x = n := ⟨x.toNat, by omega⟩
  obtain ⟨m, rfl⟩ : ∃ m : Nat, v = m := ⟨v.toNat, by omega⟩
  have := i64_or256 (n / 256) m (by omega) (by omega)
  have e : (n : Int) / 256 * 256 = ((256 * (n / 256) : Nat) : Int) := by omega
  rw [e, this]; omega
theorem z_or' (x v : Int) (h0 : 0 ≤ x) (h1 : x ≤ 65535) (h2 : 0 ≤ v) (h3 : v < 256) : bits .or .i64 (x % 256) (v * 256) = x % 256 + 256 * v := by
  obtain ⟨n, rfl⟩ : ∃ n : Nat, x = n := ⟨x.toNat, by omega⟩
  obtain ⟨m, rfl⟩ : ∃ m : Nat, v = m := ⟨v.toNat, by omega⟩
  have := i64_or256' m (n % 256) (by omega) (by omega)
  have e : (m : Int) * 256 = ((256 * m : Nat) : Int) := by omega
  have e2 : (n : Int) % 256 = ((n % 256 : Nat) : Int) := by omega
  rw [e, e2, this]; omega
theorem byteBits : ∀ n : Fin 256, bits .and .u8 (n.val : Int) 1 = (n.val : Int) % 2 ∧ bits .and .u8 (n.val : Int) 2 = (n.val : Int) / 2 % 2 * 2 ∧ bits .and .u8 (n.val : Int) 4 = (n.val : Int) / 4 % 2 * 4 := by decide +kernel
theorem byte_bits (v : Int) (h0 : 0 ≤ v) (h1 : v < 256) : bits .and .u8 v 1 = v % 2 ∧ bits .and .u8 v 2 = v / 2 % 2 * 2 ∧ bits .and .u8 v 4 = v / 4 % 2 * 4 := by
  obtain ⟨n, rfl⟩ : ∃ n : Nat, v = n := ⟨v.toNat, by omega⟩
  exact byteBits ⟨n, by omega⟩
end Go.Proofs.YtbjhkgmojmggjaaDoor
