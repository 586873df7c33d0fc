/- What the reference's Make of numbers, Log and Bits of chapter 37 come to. -/
import Derived.Test.YtccgfmjcldifcaaMEnc
import Derived.Test.YtccgfmjcldifcaaMRLog
namespace Go.Proofs.Ytccgfmjcldifcaa.P
open Go.RowKit Go.Proofs.YtccgfmjcldifcaaW.PrintWords Go.Proofs.YtccgfmjcldifcaaW.PrintLast Go.Proofs.YtccgfmjcldifcaaW.PrintMore Go.Proofs.Ytccgfmjcldifcaa.Dg
set_option linter.unusedVariables false
theorem rabs_some {x : Int} (h0 : -9223372036854775808 ≤ x) (h1 : x < 9223372036854775808) : corporaref36_abs.f x = some (x.natAbs : Int) := by
 unfold corporaref36_abs.f
 by_cases h : x < 0
 ·rw [if_pos h, w64 (x := x + 1) (by omega) (by omega), w64 (by omega) (by omega), wrap_u64, wrap_u64]
  exact congrArg some (by omega)
 ·rw [if_neg h, wrap_u64]
  exact congrArg some (by omega)
theorem rmake_ev {x y : Int} (h0 : -9223372036854775808 ≤ x) (h1 : x < 9223372036854775808) (h2 : -9223372036854775808 ≤ y) (h3 : y < 9223372036854775808) :
  Ev (fun k => corporaref36_Make.f k x y) (if y = 0 then (false, ⟨#[]⟩, ⟨#[]⟩, 25) else low (decide (x < 0) != decide (y < 0)) x.natAbs y.natAbs) := by
 unfold corporaref36_Make.f
 by_cases h : y = 0
 ·rw [if_pos h]; exact Ev.pos h (Ev.now _)
 ·rw [if_neg h]
  have hx : Lm x.natAbs := Lm_u64 (by omega)
  have hy : Lm y.natAbs := Lm_u64 (by omega)
  exact Ev.neg h (Ev.bindo (rabs_some h0 h1) (Ev.bind (of64_ev (by omega)) (Ev.bindo (rabs_some h2 h3) (Ev.bind (of64_ev (by omega)) (Ev.bind (rlowest_ev hx.ts hy.ts (by omega) (hx.mono (Nat.div_le_self _ _)) (hy.mono (Nat.div_le_self _ _))) (Ev.some rfl))))))
theorem rlog_ev {r : Rat} {j : Nat} (hr : 0 < r.num) (hb : Rb 15 r) (hj : j ≤ 8) : ∃ n ex, Lg (r.num.natAbs ^ 2 ^ j) (r.den ^ 2 ^ j) n ex ∧ Ev (fun k => corporaref37_Log.f k (decide (r.num < 0)) (S r.num.natAbs) (S r.den) (j : Int)) (n, ex, 0) := by
 obtain ⟨n, ex, l, e⟩ := rlog_l0 r.num.natAbs r.den (by omega) (den_pos r) hb.1 hb.2 j hj j 0 (by omega)
 refine ⟨n, ex, l, ?_⟩
 unfold corporaref37_Log.f
 refine Ev.bind (risratio_ev hb (by omega)) (Ev.pos rfl (Ev.neg (by rw [decide_eq_false (show ¬ r.num < 0 by omega)]; simp) (Ev.neg (fun e => absurd (S_0.1 e) (by omega)) (Ev.neg (by omega) ?_))))
 rw [decide_eq_false (show ¬ (j : Int) > 8 by omega)]
 rw [Nat.pow_zero, Nat.pow_one, Nat.pow_one] at e
 exact Ev.step (fun k => corporaref37_Log.j0.eq_2 ..) (Ev.neg (by simp) (Ev.bind (big_ev (hb.n (by omega))) (Ev.bind (big_ev (hb.d (by omega))) e)))
theorem runit_Q {n : Int} {j : Nat} (hj : j ≤ 8) (h0 : -1000000 < n) (h1 : n < 1000000) : Ev (fun k => corporaref36_Make.f k n (shl .i64 1 (IntKind.u64.wrap (j : Int)))) (Q4 (mkRat n (2 ^ j))) := by
 have p := Nat.two_pow_pos j
 have q := pow_le256 hj
 have hm := rmake_ev (x := n) (y := ((2 ^ j : Nat) : Int)) (by omega) (by omega) (by omega) (by omega)
 rw [if_neg (by omega), decide_eq_false (show ¬ ((2 ^ j : Nat) : Int) < 0 by omega), Bool.bne_false, Int.natAbs_natCast, low_Q4 _ _ p, sg_of] at hm
 rw [shl_two hj]
 exact hm
theorem rbits_Q {r : Rat} {j : Nat} {n : Int} {ex : Bool} (hr : 0 < r.num) (hb : Rb 15 r) (hj : j ≤ 8) (n0 : -300000 < n) (n1 : n < 300000) (ln : Lg (r.num.natAbs ^ 2 ^ j) (r.den ^ 2 ^ j) n ex) :
  Ev (fun k => corporaref37_Bits.f k (decide (r.num < 0)) (S r.num.natAbs) (S r.den) (j : Int)) ((Q (mkRat n (2 ^ j))).1, (Q (mkRat n (2 ^ j))).2.1, (Q (mkRat n (2 ^ j))).2.2, (Q (mkRat (hi n ex) (2 ^ j))).1, (Q (mkRat (hi n ex) (2 ^ j))).2.1, (Q (mkRat (hi n ex) (2 ^ j))).2.2, 0) := by
 have pa : 0 < r.num.natAbs ^ 2 ^ j := Nat.pow_pos (by omega)
 have pb : 0 < r.den ^ 2 ^ j := Nat.pow_pos (den_pos r)
 obtain ⟨m, y, l, e⟩ := rlog_ev hr hb hj
 obtain ⟨rfl, rfl⟩ := Lg.unique pa pb pa pb rfl ln l
 have e1 := runit_Q (n := n) hj (by omega) (by omega)
 have e2 := runit_Q (n := n + 1) hj (by omega) (by omega)
 unfold corporaref37_Bits.f
 refine Ev.bind e (Ev.pos rfl (Ev.pos (by rw [wrap_u64]; omega) (Ev.bind e1 ?_)))
 rw [w64 (by omega) (by omega)]
 refine Ev.bind e2 ?_
 cases ex
 ·exact Ev.neg (by simp) (Ev.some rfl)
 ·exact Ev.pos rfl (Ev.some rfl)
end Go.Proofs.Ytccgfmjcldifcaa.P
