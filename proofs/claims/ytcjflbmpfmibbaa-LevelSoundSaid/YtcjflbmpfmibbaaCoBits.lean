/- CO: words and their bits, as sums of powers of two. -/
import Derived.Test.YtcjflbmpfmibbaaCoRun
namespace Go.Co
open Go.Am
@[simp] theorem wrapU {x : Int} (h : 0 ≤ x) (h' : x < 18446744073709551616) : IntKind.u64.wrap x = x := by
  unfold IntKind.wrap
  simp [IntKind.bits, IntKind.signed]
  omega
theorem bv_toNat {a : Int} (h : 0 ≤ a) (h' : a < 18446744073709551616) : (BitVec.ofInt 64 a).toNat = a.toNat := by
  rw [BitVec.toNat_ofInt]
  omega
theorem and_mask (x at_ w : Nat) : x &&& ((2 ^ w - 1) * 2 ^ at_) = (x / 2 ^ at_ % 2 ^ w) * 2 ^ at_ := by
  apply Nat.eq_of_testBit_eq
  intro i
  rw [Nat.testBit_and, Nat.mul_comm, Nat.testBit_two_pow_mul, Nat.mul_comm (x / 2 ^ at_ % 2 ^ w), Nat.testBit_two_pow_mul, Nat.testBit_two_pow_sub_one, Nat.testBit_mod_two_pow, Nat.testBit_div_two_pow]
  by_cases h : at_ ≤ i
  · simp [h, Bool.and_comm]
  · simp [h]
theorem or_apart (a b k : Nat) (h : b < 2 ^ k) : a * 2 ^ k ||| b = a * 2 ^ k + b := by
  rw [Nat.mul_comm]
  exact (Nat.two_pow_add_eq_or_of_lt h a).symm
/-! on Go's words -/
def okW (a : Int) : Prop := 0 ≤ a ∧ a < 18446744073709551616
instance (a : Int) : Decidable (okW a) := by unfold okW; exact inferInstance
theorem u_and (a b : Int) (ha : okW a) (hb : okW b) : iand .u64 a b = ((a.toNat &&& b.toNat : Nat) : Int) := by
  show IntKind.u64.wrap ((BitVec.ofInt 64 a &&& BitVec.ofInt 64 b).toNat : Int) = _
  rw [BitVec.toNat_and, bv_toNat ha.1 ha.2, bv_toNat hb.1 hb.2]
  refine wrapU (by omega) ?_
  have : a.toNat &&& b.toNat ≤ a.toNat := Nat.and_le_left
  have := ha.2
  omega
theorem u_or (a b : Int) (ha : okW a) (hb : okW b) : ior .u64 a b = ((a.toNat ||| b.toNat : Nat) : Int) := by
  show IntKind.u64.wrap ((BitVec.ofInt 64 a ||| BitVec.ofInt 64 b).toNat : Int) = _
  rw [BitVec.toNat_or, bv_toNat ha.1 ha.2, bv_toNat hb.1 hb.2]
  refine wrapU (by omega) ?_
  have : a.toNat ||| b.toNat < 2 ^ 64 := Nat.or_lt_two_pow (by have := ha.2; have := ha.1; omega) (by have := hb.2; have := hb.1; omega)
  omega
theorem u_conv (n : Int) : IntKind.u64.wrap n = n % 18446744073709551616 := by
  unfold IntKind.wrap
  simp [IntKind.bits, IntKind.signed]
theorem okW_mod (n : Int) : okW (n % 18446744073709551616) := ⟨by omega, by omega⟩
theorem bv_clear (x m : BitVec 64) (h : x &&& m = 0#64) : x &&& ~~~ m = x := by
  apply BitVec.eq_of_getLsbD_eq
  intro i hi
  have h1 := congrArg (fun b => b.getLsbD i) h
  simp [hi] at h1 ⊢
  exact h1
theorem put_bits (x a m : Int) (p w : Nat) (hx : okW x) (ha : okW a) (hm : m = ((2 ^ w - 1) * 2 ^ p : Nat)) (hm2 : okW m) (hc : x.toNat / 2 ^ p % 2 ^ w = 0) :
    ior .u64 (iandNot .u64 x m) (iand .u64 a m) = x + ((a.toNat / 2 ^ p % 2 ^ w * 2 ^ p : Nat) : Int) := by
  have hmn : m.toNat = (2 ^ w - 1) * 2 ^ p := by omega
  have hxm : BitVec.ofInt 64 x &&& BitVec.ofInt 64 m = 0#64 := by
    apply BitVec.eq_of_toNat_eq
    rw [BitVec.toNat_and, bv_toNat hx.1 hx.2, bv_toNat hm2.1 hm2.2, hmn, and_mask, hc]
    simp
  have hnot : iandNot .u64 x m = x := by
    show IntKind.u64.wrap ((BitVec.ofInt 64 x &&& ~~~ BitVec.ofInt 64 m).toNat : Int) = x
    rw [bv_clear _ _ hxm, bv_toNat hx.1 hx.2]
    have := hx.1
    have := hx.2
    rw [wrapU (by omega) (by omega)]
    omega
  have hand : iand .u64 a m = ((a.toNat / 2 ^ p % 2 ^ w * 2 ^ p : Nat) : Int) := by
    rw [u_and _ _ ha hm2, hmn, and_mask]
  have hf : okW ((a.toNat / 2 ^ p % 2 ^ w * 2 ^ p : Nat) : Int) := by
    rw [← and_mask, ← hmn]
    have : a.toNat &&& m.toNat ≤ m.toNat := Nat.and_le_right
    have := hm2.1
    have := hm2.2
    exact ⟨by omega, by omega⟩
  rw [hnot, hand]
  show IntKind.u64.wrap ((BitVec.ofInt 64 x ||| BitVec.ofInt 64 _).toNat : Int) = _
  have h0 : BitVec.ofInt 64 x &&& BitVec.ofInt 64 ((a.toNat / 2 ^ p % 2 ^ w * 2 ^ p : Nat) : Int) = 0#64 := by
    have hfm : BitVec.ofInt 64 ((a.toNat / 2 ^ p % 2 ^ w * 2 ^ p : Nat) : Int) &&& BitVec.ofInt 64 m = BitVec.ofInt 64 ((a.toNat / 2 ^ p % 2 ^ w * 2 ^ p : Nat) : Int) := by
      apply BitVec.eq_of_toNat_eq
      rw [BitVec.toNat_and, bv_toNat hf.1 hf.2, bv_toNat hm2.1 hm2.2, hmn]
      have e : (((a.toNat / 2 ^ p % 2 ^ w * 2 ^ p : Nat) : Int)).toNat = a.toNat / 2 ^ p % 2 ^ w * 2 ^ p := by omega
      rw [e, and_mask, Nat.mul_div_cancel _ (Nat.two_pow_pos p), Nat.mod_mod]
    rw [← hfm, BitVec.and_comm _ (BitVec.ofInt 64 m), ← BitVec.and_assoc, hxm, BitVec.zero_and]
  rw [← BitVec.add_eq_or_of_and_eq_zero _ _ h0, BitVec.toNat_add_of_and_eq_zero h0, bv_toNat hx.1 hx.2, bv_toNat hf.1 hf.2]
  have hsum : ((BitVec.ofInt 64 x) + BitVec.ofInt 64 ((a.toNat / 2 ^ p % 2 ^ w * 2 ^ p : Nat) : Int)).toNat < 2 ^ 64 := BitVec.isLt _
  rw [BitVec.toNat_add_of_and_eq_zero h0, bv_toNat hx.1 hx.2, bv_toNat hf.1 hf.2] at hsum
  have := hx.1
  have := hf.1
  rw [wrapU (by omega) (by omega)]
  omega
end Go.Co
