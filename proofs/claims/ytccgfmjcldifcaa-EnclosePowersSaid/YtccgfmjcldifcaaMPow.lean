/- Powers of two and of a ratio as ratios, for the statement about the powers that Log encloses. -/
import Derived.Test.YtccgfmjcldifcaaMEnc
namespace Go.Proofs.Ytccgfmjcldifcaa.P
open Go.RowKit Go.Proofs.YtccgfmjcldifcaaW.PrintWords Go.Proofs.YtccgfmjcldifcaaW.PrintLast Go.Proofs.YtccgfmjcldifcaaW.PrintMore Go.Proofs.Ytccgfmjcldifcaa.Dg
set_option linter.unusedVariables false
theorem mk_lt {a b : Int} {c d : Nat} (hc : 0 < c) (hd : 0 < d) (h : a * d < b * c) : mkRat a c < mkRat b d := by
 rw [Rat.lt_iff]
 have h1 := mk_cross a hc
 have h2 := mk_cross b hd
 have p1 := den_pos (mkRat a c)
 have p2 := den_pos (mkRat b d)
 generalize (mkRat a c).num = x at *
 generalize (mkRat a c).den = y at *
 generalize (mkRat b d).num = u at *
 generalize (mkRat b d).den = v at *
 rcases Int.lt_or_le (x * v) (u * y) with g | g
 ·exact g
 ·exfalso
  have hcd : (0 : Int) ≤ (c : Int) * d := Int.mul_nonneg (by omega) (by omega)
  have hyv : (0 : Int) < (y : Int) * v := Int.mul_pos (by omega) (by omega)
  have g1 := Int.mul_le_mul_of_nonneg_right g hcd
  have g2 := Int.mul_lt_mul_of_pos_right h hyv
  have e1 : x * v * ((c : Int) * d) = a * d * ((y : Int) * v) := by
   have : x * v * ((c : Int) * d) = (x * c) * (v * d) := by grind
   rw [this, h1]; grind
  have e2 : u * y * ((c : Int) * d) = b * c * ((y : Int) * v) := by
   have : u * y * ((c : Int) * d) = (u * d) * (y * c) := by grind
   rw [this, h2]; grind
  omega
theorem nat_le {a b c d : Nat} (h : a * b ≤ c * d) : (a : Int) * (b : Int) ≤ (c : Int) * (d : Int) := by rw [← Int.natCast_mul, ← Int.natCast_mul]; exact Int.ofNat_le.2 h
theorem nat_lt {a b c d : Nat} (h : a * b < c * d) : (a : Int) * (b : Int) < (c : Int) * (d : Int) := by rw [← Int.natCast_mul, ← Int.natCast_mul]; exact Int.ofNat_lt.2 h
theorem rat_cancel {q r u : Rat} (hu : u ≠ 0) (h : q * u = r * u) : q = r := by
 have h2 := congrArg (· * u⁻¹) h
 simp only [Rat.mul_assoc, Rat.mul_inv_cancel u hu, Rat.mul_one] at h2
 exact h2
def up2 (k : Nat) : Rat := mkRat (sg false (2 ^ k)) 1
def dn2 (k : Nat) : Rat := mkRat (sg false 1) (2 ^ k)
theorem up2_num (k : Nat) : (up2 k).num = ((2 ^ k : Nat) : Int) := by unfold up2; rw [mk_num false _ (by omega), Nat.gcd_one_right, Nat.div_one]; rfl
theorem dl_two (k : Nat) : dl (2 ^ k) ≤ k + 1 := by
 have h := dl_pow 2 k
 have : dl 2 ≤ 1 := dl_le (k := 1) (by omega)
 have := Nat.mul_le_mul_left k this
 omega
theorem dl_one : dl 1 ≤ 1 := dl_le (k := 1) (by omega)
theorem up2_Rb {k m : Nat} (h : k + 1 ≤ m) : Rb m (up2 k) := Rb_mk (by omega) (Nat.le_trans (dl_two k) h) (Nat.le_trans dl_one (by omega))
theorem dn2_Rb {k m : Nat} (h : k + 1 ≤ m) : Rb m (dn2 k) := Rb_mk (Nat.two_pow_pos k) (Nat.le_trans dl_one (by omega)) (Nat.le_trans (dl_two k) h)
theorem up2_mul (k : Nat) : up2 k * up2 1 = up2 (k + 1) := by
 unfold up2
 rw [Rat.mkRat_mul_mkRat, show sg false (2 ^ k) * sg false (2 ^ 1) = sg false (2 ^ (k + 1)) by rw [Nat.pow_succ 2 k]; exact (sg_mul false false (2 ^ k) (2 ^ 1)).symm]
theorem dn2_mul (k : Nat) : dn2 (k + 1) * up2 1 = dn2 k := by
 unfold dn2 up2
 have p := Nat.two_pow_pos k
 have p1 := Nat.two_pow_pos (k + 1)
 rw [Rat.mkRat_mul_mkRat, Rat.mkRat_eq_iff (by omega) (by omega)]
 show ((1 : Nat) : Int) * ((2 ^ 1 : Nat) : Int) * ((2 ^ k : Nat) : Int) = ((1 : Nat) : Int) * ((2 ^ (k + 1) * 1 : Nat) : Int)
 rw [Nat.mul_one, Nat.pow_succ 2 k, Int.natCast_mul]; grind
theorem up2_ne : up2 1 ≠ 0 := fun h => by
 have := up2_num 1
 rw [h] at this
 exact absurd this (by decide)
theorem S2_eq : (⟨#[50]⟩ : ByteArray) = S 2 := str_S (l := [50]) (by rw [S_digit (by omega)]; decide)
theorem Lg.up {a b : Nat} {n : Int} {x : Bool} (h : Lg a b n x) {k : Nat} (hk : n = k) : b * 2 ^ k ≤ a ∧ a < b * 2 ^ (k + 1) ∧ (x = true ↔ b * 2 ^ k = a) := by
 obtain ⟨p, q, hn, h1, h2, h3⟩ := h
 obtain rfl : p = k + q := by omega
 have hq := Nat.two_pow_pos q
 rw [Nat.pow_add, ← Nat.mul_assoc] at h1 h3
 rw [show k + q + 1 = (k + 1) + q by omega, Nat.pow_add 2 (k + 1), ← Nat.mul_assoc] at h2
 exact ⟨Nat.le_of_mul_le_mul_right h1 hq, Nat.lt_of_mul_lt_mul_right h2, h3.trans ⟨fun e => Nat.eq_of_mul_eq_mul_right hq e, fun e => by rw [e]⟩⟩
theorem Lg.down {a b : Nat} {n : Int} {x : Bool} (h : Lg a b n x) {k : Nat} (hk : n = -(k : Int)) : b ≤ a * 2 ^ k ∧ a * 2 ^ k < b * 2 ∧ (x = true ↔ b = a * 2 ^ k) := by
 obtain ⟨p, q, hn, h1, h2, h3⟩ := h
 obtain rfl : q = k + p := by omega
 have hp := Nat.two_pow_pos p
 rw [Nat.pow_add, ← Nat.mul_assoc] at h1 h2 h3
 rw [Nat.pow_succ 2 p, Nat.mul_comm (2 ^ p) 2, ← Nat.mul_assoc] at h2
 exact ⟨Nat.le_of_mul_le_mul_right h1 hp, Nat.lt_of_mul_lt_mul_right h2, h3.trans ⟨fun e => Nat.eq_of_mul_eq_mul_right hp e, fun e => by rw [← e]⟩⟩
end Go.Proofs.Ytccgfmjcldifcaa.P
