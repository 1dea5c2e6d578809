/- Bits read from a string, the highest one first: what the two readers' loops compute. -/
import Derived.Test.YtokapofgbcbajaaSpec
import Derived.Test.YtokapofgbcbajaaPut
import Derived.Test.YtokapofgbcbajaaFx11
import Derived.Test.YtokapofgbcbajaaFx12
import Derived.Test.YtokapofgbcbajaaFx13
import Derived.Test.YtokapofgbcbajaaFx14
import Derived.Test.YtokapofgbcbajaaFx15
namespace Go.Proofs.Ytokapofgbcbajaa.Fns
open Go.RowKit Go.Proofs.YtokapofgbcbajaaW.PrintWords Go.Proofs.YtokapofgbcbajaaW.PrintLast Go.Proofs.YtokapofgbcbajaaW.PrintMore
def bitI (s : ByteArray) (p : Nat) : Int := bt s ((p / 8 : Nat) : Int) / 2 ^ (7 - p % 8) % 2
def rv (s : ByteArray) (p : Nat) (x : Int) : Nat → Int
  | 0 => x
  | n + 1 => rv s (p + 1) (x * 2 + bitI s p) n
theorem bitI_range (s : ByteArray) (p : Nat) : 0 ≤ bitI s p ∧ bitI s p ≤ 1 := by unfold bitI; omega
theorem w_div (p : Nat) (hp : p < 9223372036854775808) : wrap64 (Int.tdiv (p : Int) 8) = ((p / 8 : Nat) : Int) := by
  rw [tdiv_nn (by omega), wrap_in (by omega)]; omega
theorem w_mod (p : Nat) (hp : p < 9223372036854775808) : wrap64 (7 - Int.tmod (p : Int) 8) = ((7 - p % 8 : Nat) : Int) := by
  rw [tmod_nn (by omega), wrap_in (by omega)]; omega
theorem wraps_i64r (n : Int) (h0 : 0 ≤ n) (h1 : n < 2 ^ 63) : IntKind.i64.wrap n = n := by simp [IntKind.wrap, IntKind.bits, IntKind.signed]; omega
theorem u8_bit (s : ByteArray) (p : Nat) (hp : p < 9223372036854775808) : IntKind.u64.wrap (Go.bits .and .u8 (shr .u8 (bt s (wrap64 (Int.tdiv (p : Int) 8))) (wrap64 (7 - (Int.tmod (p : Int) 8)))) 1) = bitI s p := by
  rw [w_div p hp, w_mod p hp]
  have hb := bt_range s ((p / 8 : Nat) : Int)
  unfold shr bitI
  rw [Int.toNat_natCast, Nat.min_eq_left (by simp [IntKind.bits]; omega)]
  have h0 : 0 ≤ bt s ((p / 8 : Nat) : Int) / 2 ^ (7 - p % 8) := Int.ediv_nonneg hb.1 (Int.le_of_lt (Int.pow_pos (by decide)))
  have h1 : bt s ((p / 8 : Nat) : Int) / 2 ^ (7 - p % 8) < 256 := Int.lt_of_le_of_lt (Int.ediv_le_self _ hb.1) (by omega)
  have h := bits_mask .u8 8 (by decide) wraps_u8 1 (by decide) _ h0 h1
  have h' : Go.bits .and .u8 (bt s ((p / 8 : Nat) : Int) / 2 ^ (7 - p % 8)) 1 = bt s ((p / 8 : Nat) : Int) / 2 ^ (7 - p % 8) % 2 := h
  rw [h', IntKind.wrap_u64]; omega
theorem i64_bit (s : ByteArray) (p : Nat) (hp : p < 9223372036854775808) : Go.bits .and .i64 (shr .i64 (wrap64 (bt s (wrap64 (Int.tdiv (p : Int) 8)))) (wrap64 (7 - (Int.tmod (p : Int) 8)))) 1 = bitI s p := by
  rw [w_div p hp, w_mod p hp]
  have hb := bt_range s ((p / 8 : Nat) : Int)
  unfold shr bitI
  rw [Int.toNat_natCast, Nat.min_eq_left (by simp [IntKind.bits]; omega), wrap_in (by omega)]
  have h0 : 0 ≤ bt s ((p / 8 : Nat) : Int) / 2 ^ (7 - p % 8) := Int.ediv_nonneg hb.1 (Int.le_of_lt (Int.pow_pos (by decide)))
  have h1 : bt s ((p / 8 : Nat) : Int) / 2 ^ (7 - p % 8) < 256 := Int.lt_of_le_of_lt (Int.ediv_le_self _ hb.1) (by omega)
  exact bits_mask .i64 63 (by decide) wraps_i64r 1 (by decide) _ h0 (by omega)
theorem u64_or (x b : Int) (hx : 0 ≤ x ∧ x < 2 ^ 62) (hb : 0 ≤ b ∧ b ≤ 1) : Go.bits .or .u64 (IntKind.u64.wrap (x * 2)) b = x * 2 + b := by
  rw [IntKind.wrap_u64, Int.emod_eq_of_lt (by omega) (by omega)]
  exact bits_join .u64 63 (by decide) wraps_u64 1 (x * 2) b (by omega) (by omega) (by omega) hb.1 (by omega) (by omega)
theorem i64_or (x b : Int) (hx : 0 ≤ x ∧ x < 2 ^ 62) (hb : 0 ≤ b ∧ b ≤ 1) : Go.bits .or .i64 (wrap64 (x * 2)) b = x * 2 + b := by
  rw [wrap_in (by omega)]
  exact bits_join .i64 63 (by decide) wraps_i64r 1 (x * 2) b (by omega) (by omega) (by omega) hb.1 (by omega) (by omega)
theorem pow_le62 {j : Nat} (h : j ≤ 62) : (2 : Int) ^ j ≤ 2 ^ 62 := by exact_mod_cast Nat.pow_le_pow_right (n := 2) (by decide) h
theorem get_law (s : ByteArray) (hs : s.size ≤ 65536) (n : Nat) (hn : n ≤ 62) : ∀ (m k j p : Nat) (x : Int), m + 1 ≤ k → n = j + m → 0 ≤ x → x < 2 ^ j → p + m ≤ 8 * s.size →
    bitio_Reader_get.l0 k x n j s p 0 = some (rv s p x m, s, ((p + m : Nat) : Int), 0)
  | 0, 0, _, _, _, hk, _, _, _, _ => by omega
  | 0, k + 1, j, p, x, hk, hj, h0, h1, hp => by
    rw [bitio_Reader_get.l0, if_neg (by omega)]; rfl
  | m + 1, 0, _, _, _, hk, _, _, _, _ => by omega
  | m + 1, k + 1, j, p, x, hk, hj, h0, h1, hp => by
    have h2 := pow_le62 (j := j) (by omega)
    have hb := bitI_range s p
    rw [bitio_Reader_get.l0, if_pos (by omega), u8_bit s p (by omega), u64_or x _ ⟨h0, by omega⟩ hb, w_div p (by omega), w_mod p (by omega), if_pos (by omega), if_pos (by omega), if_pos (by omega), wrap_in (by omega), wrap_in (by omega)]
    have ih := get_law s hs n hn m k (j + 1) (p + 1) (x * 2 + bitI s p) (by omega) (by omega) (by omega) (by rw [Int.pow_succ]; omega) (by omega)
    rw [show ((j : Int) + 1) = ((j + 1 : Nat) : Int) by omega, show ((p : Int) + 1) = ((p + 1 : Nat) : Int) by omega, ih, rv, show p + 1 + m = p + (m + 1) by omega]
theorem rget_law (s : ByteArray) (hs : s.size ≤ 65536) (n : Nat) (hn : n ≤ 62) : ∀ (m k j p : Nat) (x : Int), m + 1 ≤ k → n = j + m → 0 ≤ x → x < 2 ^ j → p + m ≤ 8 * s.size →
    hopmeshref02_Reader_get.l0 k n x j s p 0 = some (rv s p x m, s, ((p + m : Nat) : Int), 0)
  | 0, 0, _, _, _, hk, _, _, _, _ => by omega
  | 0, k + 1, j, p, x, hk, hj, h0, h1, hp => by
    rw [hopmeshref02_Reader_get.l0, if_neg (by omega)]; rfl
  | m + 1, 0, _, _, _, hk, _, _, _, _ => by omega
  | m + 1, k + 1, j, p, x, hk, hj, h0, h1, hp => by
    have h2 := pow_le62 (j := j) (by omega)
    have hb := bitI_range s p
    rw [hopmeshref02_Reader_get.l0, if_pos (by omega), i64_bit s p (by omega), i64_or x _ ⟨h0, by omega⟩ hb, w_div p (by omega), w_mod p (by omega), if_pos (by omega), if_pos (by omega), if_pos (by omega), wrap_in (by omega), wrap_in (by omega)]
    have ih := rget_law s hs n hn m k (j + 1) (p + 1) (x * 2 + bitI s p) (by omega) (by omega) (by omega) (by rw [Int.pow_succ]; omega) (by omega)
    rw [show ((j : Int) + 1) = ((j + 1 : Nat) : Int) by omega, show ((p : Int) + 1) = ((p + 1 : Nat) : Int) by omega, ih, rv, show p + 1 + m = p + (m + 1) by omega]
theorem rv_bound (s : ByteArray) : ∀ (n p : Nat) (x : Int), 0 ≤ x → 0 ≤ rv s p x n ∧ rv s p x n < (x + 1) * 2 ^ n
  | 0, p, x, h => ⟨h, by rw [rv]; omega⟩
  | n + 1, p, x, h => by
    have hb := bitI_range s p
    have ih := rv_bound s n (p + 1) (x * 2 + bitI s p) (by omega)
    refine ⟨ih.1, Int.lt_of_lt_of_le ih.2 ?_⟩
    rw [Int.pow_succ, ← Int.mul_assoc, Int.mul_right_comm]
    exact Int.mul_le_mul_of_nonneg_right (by omega) (Int.le_of_lt (Int.pow_pos (by decide)))
theorem left_law (s : ByteArray) (hs : s.size ≤ 65536) (p : Nat) (hp : p ≤ 8 * s.size) : bitio_Reader_Left.f s p 0 = some (((8 * s.size - p : Nat) : Int), s, (p : Int), 0) := by
  unfold bitio_Reader_Left.f
  rw [if_pos rfl, wrap_in (a := 8 * (s.size : Int)) (by omega), wrap_in (by omega)]
  congr 2; omega
theorem rleft_law (s : ByteArray) (hs : s.size ≤ 65536) (p : Nat) (hp : p ≤ 8 * s.size) : hopmeshref02_Reader_Left.f s p 0 = some (((8 * s.size - p : Nat) : Int), s, (p : Int), 0) := by
  unfold hopmeshref02_Reader_Left.f
  rw [wrap_in (a := 8 * (s.size : Int)) (by omega), wrap_in (by omega)]
  congr 2; omega
theorem uns_law (s : ByteArray) (hs : s.size ≤ 65536) (p n k : Nat) (hn : 1 ≤ n ∧ n ≤ 62) (hk : n + 1 ≤ k) (hp : p + n ≤ 8 * s.size) :
    bitio_Reader_Unsigned.f k s p 0 n = some (rv s p 0 n, s, ((p + n : Nat) : Int), 0) := by
  have hr := rv_bound s n p 0 (by omega)
  have h2 := pow_le62 (j := n) (by omega)
  unfold bitio_Reader_Unsigned.f bitio_Reader_field.f bitio_Reader_get.f
  rw [if_pos (by omega), if_pos rfl, decide_eq_true (show (n : Int) ≤ 63 by omega), if_pos rfl, left_law s hs p (by omega)]
  simp only [Option.bind_some]
  rw [if_neg (by omega)]
  have := get_law s hs n hn.2 n k 0 p 0 hk (by omega) (by omega) (by decide) hp
  rw [show ((0 : Nat) : Int) = 0 from rfl] at this
  rw [this]
  simp only [Option.bind_some]
  rw [wrap_in (by omega)]
theorem runs_law (s : ByteArray) (hs : s.size ≤ 65536) (p n k : Nat) (hn : 1 ≤ n ∧ n ≤ 62) (hk : n + 1 ≤ k) (hp : p + n ≤ 8 * s.size) :
    hopmeshref02_Reader_Unsigned.f (k + 1) s p 0 n = some (rv s p 0 n, s, ((p + n : Nat) : Int), 0) := by
  unfold hopmeshref02_Reader_Unsigned.f
  rw [if_pos rfl, if_neg (by omega), decide_eq_false (show ¬ (n : Int) > 63 by omega), hopmeshref02_Reader_Unsigned.j0, if_neg (by decide)]
  unfold hopmeshref02_Reader_get.f
  rw [if_pos rfl, rleft_law s hs p (by omega)]
  simp only [Option.bind_some]
  rw [if_neg (by omega)]
  have := rget_law s hs n hn.2 n k 0 p 0 hk (by omega) (by omega) (by decide) hp
  rw [show ((0 : Nat) : Int) = 0 from rfl] at this
  rw [this]
  rfl
theorem rv_t (s : ByteArray) : rv s 0 0 8 = bt s 0 := by
  have h := bt_range s 0
  simp only [rv, bitI]
  simp
  generalize bt s 0 = b at h ⊢
  omega
theorem rv_i (s : ByteArray) : rv s 8 0 5 = bt s 1 / 8 := by
  have h := bt_range s 1
  simp only [rv, bitI]
  simp
  generalize bt s 1 = b at h ⊢
  omega
theorem rv_c (s : ByteArray) : rv s 13 0 5 = bt s 1 % 8 * 4 + bt s 2 / 64 := by
  have h := bt_range s 1
  have h2 := bt_range s 2
  simp only [rv, bitI]
  simp
  generalize bt s 1 = b at h ⊢
  generalize bt s 2 = c at h2 ⊢
  omega
theorem rv_s (s : ByteArray) : rv s 18 0 12 = bt s 2 % 64 * 64 + bt s 3 / 4 := by
  have h := bt_range s 2
  have h2 := bt_range s 3
  simp only [rv, bitI]
  simp
  generalize bt s 2 = b at h ⊢
  generalize bt s 3 = c at h2 ⊢
  omega
theorem rv_rest (s : ByteArray) : rv s 30 0 2 = bt s 3 % 4 := by
  have h2 := bt_range s 3
  simp only [rv, bitI]
  simp
  generalize bt s 3 = c at h2 ⊢
  omega
theorem rclose_law (s : ByteArray) (hs : s.size = 4) (k : Nat) : hopmeshref02_Reader_Close.f (k + 3) s 30 0 = some (if bt s 3 % 4 = 0 then 0 else 10, s, 30, 0) := by
  have h2 := bt_range s 3
  have e0 : ((30 : Nat) : Int) = 30 := rfl
  unfold hopmeshref02_Reader_Close.f
  rw [if_pos rfl]
  have hl := rleft_law s (by omega) 30 (by omega)
  rw [e0] at hl
  rw [hl]
  simp only [Option.bind_some]
  rw [if_neg (by omega)]
  have b30 := i64_bit s 30 (by decide)
  have b31 := i64_bit s 31 (by decide)
  have q30 : bitI s 30 = bt s 3 / 2 % 2 := rfl
  have q31 : bitI s 31 = bt s 3 % 2 := by unfold bitI; simp
  have ws : wrap64 (8 * (s.size : Int)) = 32 := by rw [hs]; kernel_rfl
  have d30 : wrap64 (Int.tdiv 30 8) = 3 := by kernel_rfl
  have m30 : wrap64 (7 - Int.tmod 30 8) = 1 := by kernel_rfl
  have d31 : wrap64 (Int.tdiv 31 8) = 3 := by kernel_rfl
  have m31 : wrap64 (7 - Int.tmod 31 8) = 0 := by kernel_rfl
  have n31 : wrap64 (30 + 1) = 31 := by kernel_rfl
  have n32 : wrap64 (31 + 1) = 32 := by kernel_rfl
  rw [show ((30 : Nat) : Int) = 30 from rfl, d30, m30, q30] at b30
  rw [show ((31 : Nat) : Int) = 31 from rfl, d31, m31, q31] at b31
  rw [hopmeshref02_Reader_Close.l0, ws, d30, m30, b30, n31, if_pos (by omega), if_pos (by omega), if_pos (by omega), if_pos (by omega)]
  by_cases h30 : bt s 3 / 2 % 2 = 1
  · rw [if_pos h30, if_neg (by omega)]
  · rw [if_neg h30, hopmeshref02_Reader_Close.l0, ws, d31, m31, b31, n32, if_pos (by omega), if_pos (by omega), if_pos (by omega), if_pos (by omega)]
    by_cases h31 : bt s 3 % 2 = 1
    · rw [if_pos h31, if_neg (by omega)]
    · rw [if_neg h31, hopmeshref02_Reader_Close.l0, ws, if_neg (by omega), if_pos (by omega)]
end Go.Proofs.Ytokapofgbcbajaa.Fns
