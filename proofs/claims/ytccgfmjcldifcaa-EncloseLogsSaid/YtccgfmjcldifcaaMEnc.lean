/- Intervals of ratios: what Compare of ratios, unit, Bits, Valid, Contains and Compare of intervals come to, in the program and in the reference. -/
import Derived.Test.YtccgfmjcldifcaaDF
import Derived.Test.YtccgfmjcldifcaaMLog
namespace Go.Proofs.Ytccgfmjcldifcaa.P
open Go.RowKit Go.Proofs.YtccgfmjcldifcaaW.PrintWords Go.Proofs.YtccgfmjcldifcaaW.PrintLast Go.Proofs.YtccgfmjcldifcaaW.PrintMore Go.Proofs.Ytccgfmjcldifcaa.Dg
set_option linter.unusedVariables false
theorem Rb_mkRat {n : Int} {d m : Nat} (h : 0 < d) (hn : dl n.natAbs ≤ m) (hd : dl d ≤ m) : Rb m (mkRat n d) := by
 have := Rb_mk (a := decide (n < 0)) h hn hd
 rwa [sg_of] at this
theorem unit_Q {n : Int} {j : Nat} (hj : j ≤ 8) (h0 : -1000000 < n) (h1 : n < 1000000) : Rb 20 (mkRat n (2 ^ j)) ∧ Ev (fun k => enclose_unit.f k n (j : Int)) (Q (mkRat n (2 ^ j))) := by
 have p := Nat.two_pow_pos j
 have q := pow_le256 hj
 refine ⟨Rb_mkRat p (dl_le (Nat.lt_of_lt_of_le (show n.natAbs < 1000000 by omega) (by decide))) (dl_le (Nat.lt_of_le_of_lt q (by decide))), ?_⟩
 unfold enclose_unit.f
 have hm := make_ev (x := n) (y := ((2 ^ j : Nat) : Int)) (by omega) (by omega) (by omega) (by omega)
 rw [if_neg (by omega), decide_eq_false (show ¬ ((2 ^ j : Nat) : Int) < 0 by omega), Bool.bne_false, Int.natAbs_natCast, low_Q4 _ _ p, sg_of] at hm
 rw [shl_two hj]
 exact Ev.pos (by rw [wrap_u64]; omega) (Ev.bind hm (Ev.some rfl))
def hi (n : Int) (ex : Bool) : Int := if ex = true then n else n + 1
theorem bits_Q {r : Rat} {j : Nat} (hr : 0 < r.num) (hb : Rb 15 r) (hj : j ≤ 8) : ∃ n ex, -300000 < n ∧ n < 300000 ∧ Lg (r.num.natAbs ^ 2 ^ j) (r.den ^ 2 ^ j) n ex ∧ Rb 20 (mkRat n (2 ^ j)) ∧ Rb 20 (mkRat (hi n ex) (2 ^ j)) ∧
  Ev (fun k => enclose_Bits.f k (decide (r.num < 0)) (S r.num.natAbs) (S r.den) (j : Int)) ((Q (mkRat n (2 ^ j))).1, (Q (mkRat n (2 ^ j))).2.1, (Q (mkRat n (2 ^ j))).2.2, (Q (mkRat (hi n ex) (2 ^ j))).1, (Q (mkRat (hi n ex) (2 ^ j))).2.1, (Q (mkRat (hi n ex) (2 ^ j))).2.2, 0) := by
 obtain ⟨n, ex, n0, n1, ln, ev⟩ := log_ev hr hb hj
 obtain ⟨b1, e1⟩ := unit_Q (n := n) hj (by omega) (by omega)
 obtain ⟨b2, e2⟩ := unit_Q (n := n + 1) hj (by omega) (by omega)
 cases ex
 ·refine ⟨n, false, n0, n1, ln, b1, b2, ?_⟩
  unfold enclose_Bits.f
  refine Ev.bind ev (Ev.pos rfl (Ev.neg (by simp) (Ev.bind e1 ?_)))
  rw [w64 (by omega) (by omega)]
  exact Ev.bind e2 (Ev.some rfl)
 ·refine ⟨n, true, n0, n1, ln, b1, b1, ?_⟩
  unfold enclose_Bits.f
  exact Ev.bind ev (Ev.pos rfl (Ev.pos rfl (Ev.bind e1 (Ev.bind e1 (Ev.some rfl)))))
end Go.Proofs.Ytccgfmjcldifcaa.P
namespace Go.Proofs.Ytccgfmjcldifcaa.P
open Go.RowKit Go.Proofs.YtccgfmjcldifcaaW.PrintWords Go.Proofs.YtccgfmjcldifcaaW.PrintLast Go.Proofs.YtccgfmjcldifcaaW.PrintMore Go.Proofs.Ytccgfmjcldifcaa.Dg
set_option linter.unusedVariables false
theorem risratio_ev {r : Rat} {m : Nat} (hr : Rb m r) (hm : m ≤ 20000) : Ev (fun k => corporaref36_IsRatio.f k (decide (r.num < 0)) (S r.num.natAbs) (S r.den)) true := by
 have ln := hr.n hm
 have ld := hr.d hm
 have h1 := S_size_le ln
 have h2 := S_size_le ld
 unfold corporaref36_IsRatio.f
 refine Ev.bind (Ev.to (rvalid_ev (by omega)) (vld_S ln)) (Ev.pos rfl (Ev.bind (Ev.to (rvalid_ev (by omega)) (vld_S ld)) (Ev.pos rfl ?_)))
 rw [show ((S r.den).toList == ([48] : List UInt8)) = false from beq_eq_false_iff_ne.2 (fun h => r.den_nz (S_0.1 h))]
 refine Ev.step (fun k => corporaref36_IsRatio.j0.eq_2 ..) (Ev.neg (by simp) ?_)
 by_cases h : r.num.natAbs = 0
 ·refine Ev.pos (S_0.2 h) (Ev.neg (by rw [decide_eq_false (show ¬ r.num < 0 by omega)]; simp) (Ev.some ?_))
  have hd : r.den = 1 := by
   have := r.reduced
   rw [h] at this
   exact (Nat.gcd_zero_left r.den).symm.trans this
  exact beq_iff_eq.2 (S_1.2 hd)
 ·refine Ev.neg (fun e => h (S_0.1 e)) (Ev.bind (big_ev ln) (Ev.bind (big_ev ld) (Ev.bind (rgcd_ev _ _ ln.ts ld.ts) ?_)))
  rw [show Nat.gcd r.num.natAbs r.den = 1 from r.reduced]
  refine Ev.bind (rtext_ev (Lm_small (n := 1) (by omega)).ts.tm) (Ev.some ?_)
  exact beq_iff_eq.2 (S_1.2 rfl)
end Go.Proofs.Ytccgfmjcldifcaa.P
