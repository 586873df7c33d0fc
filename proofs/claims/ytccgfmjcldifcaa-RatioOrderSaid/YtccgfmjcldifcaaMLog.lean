/- What NatPower, power, times and Log come to: the logarithm rounded down; the ratios of chapter 37 that are generated, and its examples. -/
import Derived.Test.YtccgfmjcldifcaaMRat
namespace Go.Proofs.Ytccgfmjcldifcaa.P
open Go.RowKit Go.Proofs.YtccgfmjcldifcaaW.PrintWords Go.Proofs.YtccgfmjcldifcaaW.PrintLast Go.Proofs.YtccgfmjcldifcaaW.PrintMore Go.Proofs.Ytccgfmjcldifcaa.Dg
set_option linter.unusedVariables false
theorem lt_exp {p q : Nat} (h : 2 ^ p < 2 ^ q) : p < q := (Nat.pow_lt_pow_iff_right (by omega)).1 h
def Lg (a b : Nat) (n : Int) (ex : Bool) : Prop := ∃ p q : Nat, n = (p : Int) - q ∧ b * 2 ^ p ≤ a * 2 ^ q ∧ a * 2 ^ q < b * 2 ^ (p + 1) ∧ (ex = true ↔ b * 2 ^ p = a * 2 ^ q)
theorem two_bounds {a b c d p q r s : Nat} (ha : 0 < a) (hd : 0 < d) (e : a * d = c * b) (h1 : b * 2 ^ p ≤ a * 2 ^ q) (h2 : c * 2 ^ r < d * 2 ^ s) : p + r < q + s := by
 refine lt_exp ?_
 have h3 : (b * 2 ^ p) * (c * 2 ^ r) < (a * 2 ^ q) * (d * 2 ^ s) := by
  refine Nat.lt_of_le_of_lt (Nat.mul_le_mul_right _ h1) (Nat.mul_lt_mul_of_pos_left h2 (Nat.mul_pos ha (Nat.two_pow_pos q)))
 have h4 : (a * d) * 2 ^ (p + r) < (a * d) * 2 ^ (q + s) := by
  have e1 : (b * 2 ^ p) * (c * 2 ^ r) = (a * d) * 2 ^ (p + r) := by rw [e, Nat.pow_add]; grind
  have e2 : (a * 2 ^ q) * (d * 2 ^ s) = (a * d) * 2 ^ (q + s) := by rw [Nat.pow_add]; grind
  rwa [e1, e2] at h3
 exact Nat.lt_of_mul_lt_mul_left h4
theorem two_bounds' {a b c d p q r s : Nat} (ha : 0 < a) (hb : 0 < b) (hd : 0 < d) (hc : 0 < c) (e : a * d = c * b) (h1 : b * 2 ^ p < a * 2 ^ q) (h2 : c * 2 ^ r ≤ d * 2 ^ s) : p + r < q + s := by
 refine lt_exp ?_
 have h3 : (b * 2 ^ p) * (c * 2 ^ r) < (a * 2 ^ q) * (d * 2 ^ s) := by
  refine Nat.lt_of_lt_of_le (Nat.mul_lt_mul_of_pos_right h1 (Nat.mul_pos hc (Nat.two_pow_pos r))) (Nat.mul_le_mul_left _ h2)
 have h4 : (a * d) * 2 ^ (p + r) < (a * d) * 2 ^ (q + s) := by
  have e1 : (b * 2 ^ p) * (c * 2 ^ r) = (a * d) * 2 ^ (p + r) := by rw [e, Nat.pow_add]; grind
  have e2 : (a * 2 ^ q) * (d * 2 ^ s) = (a * d) * 2 ^ (q + s) := by rw [Nat.pow_add]; grind
  rwa [e1, e2] at h3
 exact Nat.lt_of_mul_lt_mul_left h4
theorem Lg.congr {a b c d : Nat} {n : Int} {x : Bool} (ha : 0 < a) (hb : 0 < b) (hc : 0 < c) (hd : 0 < d) (e : a * d = c * b) (h : Lg a b n x) : Lg c d n x := by
 obtain ⟨p, q, hn, h1, h2, h3⟩ := h
 have i1 : d * 2 ^ p ≤ c * 2 ^ q := by
  rcases Nat.lt_or_ge (c * 2 ^ q) (d * 2 ^ p) with g | g
  ·have := two_bounds ha hd e h1 g
   omega
  ·exact g
 have i2 : c * 2 ^ q < d * 2 ^ (p + 1) := by
  rcases Nat.lt_or_ge (c * 2 ^ q) (d * 2 ^ (p + 1)) with g | g
  ·exact g
  ·have := two_bounds hc hb e.symm g h2
   omega
 refine ⟨p, q, hn, i1, i2, h3.trans ⟨fun g => ?_, fun g => ?_⟩⟩
 ·rcases Nat.lt_or_eq_of_le i1 with l | l
  ·have := two_bounds' hc hd hb ha e.symm l (Nat.le_of_eq g.symm)
   omega
  ·exact l
 ·rcases Nat.lt_or_eq_of_le h1 with l | l
  ·have := two_bounds' ha hb hd hc e l (Nat.le_of_eq g.symm)
   omega
  ·exact l
end Go.Proofs.Ytccgfmjcldifcaa.P
