/- Small facts on bit operations over int64 and on 64-bit wraps, on byte lists, and on options; no condition beyond each theorem's own. -/
import Derived.Laws.BitsLemmas
import Derived.Laws.Entries
import Derived.RowKit
import Derived.Test.YtdajdpgnhjlbaaaDoorWWords
import Derived.Test.YtdajdpgnhjlbaaaDoorWMore
set_option linter.unusedVariables false
set_option linter.unusedSimpArgs false
namespace Go.Proofs.YtdajdpgnhjlbaaaDoor.Com
open Go.RowKit Go.Proofs.YtdajdpgnhjlbaaaDoorW.PrintWords Go.Proofs.YtdajdpgnhjlbaaaDoorW.PrintLast Go.Proofs.YtdajdpgnhjlbaaaDoorW.PrintMore

theorem mk_size (a : Array UInt8) : (⟨a⟩ : ByteArray).size = a.size := rfl
theorem toNat_ofInt_nat (a : Nat) (ha : a < 9223372036854775808) : (BitVec.ofInt 64 (a : Int)).toNat = a := by
  rw [BitVec.ofInt_natCast, BitVec.toNat_ofNat]; exact Nat.mod_eq_of_lt (by omega)
theorem i64_and_nat (a b : Nat) (ha : a < 9223372036854775808) (hb : b < 9223372036854775808) : Go.bits .and .i64 (a : Int) (b : Int) = ((a &&& b : Nat) : Int) := by
  have hx : a &&& b < 2 ^ 63 := Nat.and_lt_two_pow _ (by omega)
  show IntKind.i64.wrap ((BitVec.ofInt 64 (a : Int) &&& BitVec.ofInt 64 (b : Int)).toNat : Int) = _
  rw [BitVec.toNat_and, toNat_ofInt_nat a ha, toNat_ofInt_nat b hb, IntKind.wrap_i64]
  omega
theorem i64_or_nat (a b : Nat) (ha : a < 9223372036854775808) (hb : b < 9223372036854775808) : Go.bits .or .i64 (a : Int) (b : Int) = ((a ||| b : Nat) : Int) := by
  have hx : a ||| b < 2 ^ 63 := Nat.or_lt_two_pow (by omega) (by omega)
  show IntKind.i64.wrap ((BitVec.ofInt 64 (a : Int) ||| BitVec.ofInt 64 (b : Int)).toNat : Int) = _
  rw [BitVec.toNat_or, toNat_ofInt_nat a ha, toNat_ofInt_nat b hb, IntKind.wrap_i64]
  omega
/-- 'or' of a multiple of 2^n and of a number below 2^n. -/
theorem i64_or_add (a p : Nat) (n : Nat) (hp : p < 2 ^ n) (h : a * 2 ^ n + p < 9223372036854775808) : Go.bits .or .i64 ((a * 2 ^ n : Nat) : Int) (p : Int) = ((a * 2 ^ n + p : Nat) : Int) := by
  rw [i64_or_nat _ _ (by omega) (by omega), Nat.mul_comm a, ← Nat.two_pow_add_eq_or_of_lt hp a]
/-- 'and' with a mask of the lowest bits. -/
theorem i64_and_low (a n : Nat) (ha : a < 9223372036854775808) (hn : n ≤ 62) : Go.bits .and .i64 (a : Int) ((2 ^ n - 1 : Nat) : Int) = ((a % 2 ^ n : Nat) : Int) := by
  have h2 : 2 ^ n ≤ 2 ^ 62 := Nat.pow_le_pow_right (by omega) hn
  rw [i64_and_nat _ _ ha (by omega), Nat.and_two_pow_sub_one_eq_mod]
end Go.Proofs.YtdajdpgnhjlbaaaDoor.Com
