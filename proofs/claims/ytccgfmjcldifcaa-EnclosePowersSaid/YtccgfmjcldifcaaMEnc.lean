/- Intervals of ratios: what Compare of ratios, unit, Bits, Valid, Contains and Compare of intervals come to, in the program and in the reference. -/
import Derived.Test.YtccgfmjcldifcaaDF
import Derived.Test.YtccgfmjcldifcaaMLog
namespace Go.Proofs.Ytccgfmjcldifcaa.P
open Go.RowKit Go.Proofs.YtccgfmjcldifcaaW.PrintWords Go.Proofs.YtccgfmjcldifcaaW.PrintLast Go.Proofs.YtccgfmjcldifcaaW.PrintMore Go.Proofs.Ytccgfmjcldifcaa.Dg
set_option linter.unusedVariables false
def rc (r s : Rat) : Int := cmp (r.num * s.den) (s.num * r.den)
theorem rc_lt {r s : Rat} : rc r s < 0 ↔ r < s := by
 rw [Rat.lt_iff]; unfold rc cmp
 constructor
 ·intro h
  rcases Int.lt_trichotomy (r.num * s.den) (s.num * r.den) with g | g | g
  ·exact g
  ·rw [if_neg (by omega), if_pos g] at h; omega
  ·rw [if_neg (by omega), if_neg (by omega)] at h; omega
 ·intro h; rw [if_pos h]; omega
theorem rc_le {r s : Rat} : rc r s ≤ 0 ↔ r ≤ s := by
 rw [Rat.le_iff]; unfold rc cmp
 constructor
 ·intro h
  rcases Int.lt_trichotomy (r.num * s.den) (s.num * r.den) with g | g | g
  ·exact Int.le_of_lt g
  ·exact Int.le_of_eq g
  ·rw [if_neg (by omega), if_neg (by omega)] at h; omega
 ·intro h
  by_cases g : r.num * s.den < s.num * r.den
  ·rw [if_pos g]; omega
  ·rw [if_neg g, if_pos (by omega)]; omega
theorem rc_swap (r s : Rat) : rc s r = -rc r s := by
 unfold rc cmp
 rcases Int.lt_trichotomy (r.num * s.den) (s.num * r.den) with g | g | g
 ·rw [if_neg (by omega), if_neg (by omega), if_pos g]; rfl
 ·rw [if_neg (by omega), if_pos g.symm, if_neg (by omega), if_pos g]; rfl
 ·rw [if_pos g, if_neg (by omega), if_neg (by omega)]
theorem compare_Q {r s : Rat} {m : Nat} (hr : Rb m r) (hs : Rb m s) (hm : m ≤ 1000) :
  Ev (fun k => ratio_Compare.f k (decide (r.num < 0)) (S r.num.natAbs) (S r.den) (decide (s.num < 0)) (S s.num.natAbs) (S s.den)) (rc r s) := by
 obtain ⟨c, t, ht, hl, ev⟩ := plus_Q (decide (r.num < 0)) (!decide (s.num < 0)) r.num.natAbs r.den s.num.natAbs s.den hr.1 hr.2 hs.1 hs.2 hm
 rw [sg_not, sg_of, sg_of] at ht
 have hs' : -s.num * (r.den : Int) = -(s.num * r.den) := Int.neg_mul ..
 unfold ratio_Compare.f
 refine Ev.bind (read_ev hr hs (by omega)) (Ev.pos rfl (Ev.pos (by simp) (Ev.bindo rfl (Ev.pos (by simp) (Ev.bind ev ?_)))))
 unfold rc
 by_cases h : t = 0
 ·subst h
  have h0 : sg c 0 = 0 := by cases c <;> rfl
  exact Ev.pos (W_len0.2 rfl) (Ev.some (cmp_eq (by omega)).symm)
 ·refine Ev.neg (fun e => h (W_len0.1 e)) ?_
  cases c
  ·have h0 : sg false t = (t : Int) := rfl
   exact Ev.neg (by simp) (Ev.some (cmp_gt (by omega)).symm)
  ·have h0 : sg true t = -(t : Int) := rfl
   exact Ev.pos rfl (Ev.some (cmp_lt (by omega)).symm)
theorem mk_cross (a : Int) {c : Nat} (hc : 0 < c) : (mkRat a c).num * c = a * (mkRat a c).den :=
 (Rat.mkRat_eq_iff (mkRat a c).den_nz (by omega)).1 (Rat.mkRat_self _)
theorem mk_le {a b : Int} {c d : Nat} (hc : 0 < c) (hd : 0 < d) (h : a * d ≤ b * c) : mkRat a c ≤ mkRat b d := by
 rw [Rat.le_iff]
 have h1 := mk_cross a hc
 have h2 := mk_cross b hd
 have p1 := den_pos (mkRat a c)
 have p2 := den_pos (mkRat b d)
 generalize (mkRat a c).num = x at *
 generalize (mkRat a c).den = y at *
 generalize (mkRat b d).num = u at *
 generalize (mkRat b d).den = v at *
 rcases Int.lt_or_le (u * y) (x * v) with g | g
 ·exfalso
  have hcd : (0 : Int) < (c : Int) * d := Int.mul_pos (by omega) (by omega)
  have hyv : (0 : Int) ≤ (y : Int) * v := Int.mul_nonneg (by omega) (by omega)
  have g1 := Int.mul_lt_mul_of_pos_right g hcd
  have g2 := Int.mul_le_mul_of_nonneg_right h hyv
  have e1 : x * v * ((c : Int) * d) = a * d * ((y : Int) * v) := by
   have : x * v * ((c : Int) * d) = (x * c) * (v * d) := by grind
   rw [this, h1]; grind
  have e2 : u * y * ((c : Int) * d) = b * c * ((y : Int) * v) := by
   have : u * y * ((c : Int) * d) = (u * d) * (y * c) := by grind
   rw [this, h2]; grind
  omega
 ·exact g
def hi (n : Int) (ex : Bool) : Int := if ex = true then n else n + 1
end Go.Proofs.Ytccgfmjcldifcaa.P
