/- Intervals of ratios: what Compare of ratios, unit, Bits, Valid, Contains and Compare of intervals come to, in the program and in the reference. -/
import Derived.Test.YtccgfmjcldifcaaDF
import Derived.Test.YtccgfmjcldifcaaMLog
namespace Go.Proofs.Ytccgfmjcldifcaa.P
open Go.RowKit Go.Proofs.YtccgfmjcldifcaaW.PrintWords Go.Proofs.YtccgfmjcldifcaaW.PrintLast Go.Proofs.YtccgfmjcldifcaaW.PrintMore Go.Proofs.Ytccgfmjcldifcaa.Dg
set_option linter.unusedVariables false
def rc (r s : Rat) : Int := cmp (r.num * s.den) (s.num * r.den)
theorem rc_lt {r s : Rat} : rc r s < 0 ↔ r < s := by
 rw [Rat.lt_iff]; unfold rc cmp
 constructor
 ·intro h
  rcases Int.lt_trichotomy (r.num * s.den) (s.num * r.den) with g | g | g
  ·exact g
  ·rw [if_neg (by omega), if_pos g] at h; omega
  ·rw [if_neg (by omega), if_neg (by omega)] at h; omega
 ·intro h; rw [if_pos h]; omega
theorem compare_Q {r s : Rat} {m : Nat} (hr : Rb m r) (hs : Rb m s) (hm : m ≤ 1000) :
  Ev (fun k => ratio_Compare.f k (decide (r.num < 0)) (S r.num.natAbs) (S r.den) (decide (s.num < 0)) (S s.num.natAbs) (S s.den)) (rc r s) := by
 obtain ⟨c, t, ht, hl, ev⟩ := plus_Q (decide (r.num < 0)) (!decide (s.num < 0)) r.num.natAbs r.den s.num.natAbs s.den hr.1 hr.2 hs.1 hs.2 hm
 rw [sg_not, sg_of, sg_of] at ht
 have hs' : -s.num * (r.den : Int) = -(s.num * r.den) := Int.neg_mul ..
 unfold ratio_Compare.f
 refine Ev.bind (read_ev hr hs (by omega)) (Ev.pos rfl (Ev.pos (by simp) (Ev.bindo rfl (Ev.pos (by simp) (Ev.bind ev ?_)))))
 unfold rc
 by_cases h : t = 0
 ·subst h
  have h0 : sg c 0 = 0 := by cases c <;> rfl
  exact Ev.pos (W_len0.2 rfl) (Ev.some (cmp_eq (by omega)).symm)
 ·refine Ev.neg (fun e => h (W_len0.1 e)) ?_
  cases c
  ·have h0 : sg false t = (t : Int) := rfl
   exact Ev.neg (by simp) (Ev.some (cmp_gt (by omega)).symm)
  ·have h0 : sg true t = -(t : Int) := rfl
   exact Ev.pos rfl (Ev.some (cmp_lt (by omega)).symm)
def hi (n : Int) (ex : Bool) : Int := if ex = true then n else n + 1
end Go.Proofs.Ytccgfmjcldifcaa.P
