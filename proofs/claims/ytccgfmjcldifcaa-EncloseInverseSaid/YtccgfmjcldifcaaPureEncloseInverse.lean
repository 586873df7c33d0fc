/- The logarithm of 1/x lies between the negated ends of that of x: the plain statement; no condition. -/
import Derived.Test.YtccgfmjcldifcaaDLEncloseInverse
import Derived.Test.YtccgfmjcldifcaaMLog
namespace Go.Proofs.Ytccgfmjcldifcaa.Pure
open Go.RowKit Go.Proofs.Ytccgfmjcldifcaa.P Go.Proofs.YtccgfmjcldifcaaW.PrintWords Go.Proofs.YtccgfmjcldifcaaW.PrintLast
theorem EncloseInverse : corporalaw37_EncloseInverse.Pure := by
 intro l0 a1 _ _ _ _
 obtain ⟨l', hl, hp⟩ := new_some l0
 obtain ⟨x, p1, hx, bx, _, ex⟩ := some37_ev hp
 obtain ⟨c, hc, c0, c1⟩ := mod_some (x := a1) (n := 5) (by omega) (by omega)
 obtain ⟨j, rfl⟩ := Int.eq_ofNat_of_zero_le c0
 have hx0 : x ≠ 0 := fun h => by subst h; exact absurd hx (by decide)
 have one : Rb 6 1 := ⟨Nat.le_trans (dl_le (k := 1) (by decide)) (by omega), Nat.le_trans (dl_le (k := 1) (by decide)) (by omega)⟩
 have hq := quo_Q one bx (by omega)
 rw [if_neg hx0] at hq
 obtain ⟨q, hq1, bq, eq⟩ := hq
 have hqx : q.num * x.num = q.den * x.den := by
  have h := (Rat.mkRat_eq_iff (n₂ := 1) (d₂ := 1) (Nat.mul_ne_zero q.den_nz x.den_nz) (by omega)).1 (show mkRat (q.num * x.num) (q.den * x.den) = mkRat 1 1 by rw [← Rat.mkRat_mul_mkRat, Rat.mkRat_self, Rat.mkRat_self, hq1]; rfl)
  rw [Int.natCast_mul] at h; omega
 have hqn : 0 < q.num := by
  have hdd : (0 : Int) < q.den * x.den := Int.mul_pos (by have := den_pos q; omega) (by have := den_pos x; omega)
  rw [← hqx] at hdd
  rcases Int.lt_or_le 0 q.num with g | g
  ·exact g
  ·have := Int.mul_nonpos_of_nonpos_of_nonneg g (Int.le_of_lt hx)
   omega
 obtain ⟨n, xe, n0, n1, ln, e1⟩ := log_ev hx (bx.mono (n := 15) (by omega)) (j := j) (by omega)
 obtain ⟨m, ye, m0, m1, lm, e2⟩ := log_ev hqn (bq.mono (n := 15) (by omega)) (j := j) (by omega)
 have pp : ∀ z : Nat, 0 < z → 0 < z ^ 2 ^ j := fun z h => Nat.pow_pos h
 have hm : q.num.natAbs * x.num.natAbs = x.den * q.den := by
  have h := congrArg Int.natAbs hqx
  rwa [Int.natAbs_mul, Int.natAbs_mul, Int.natAbs_natCast, Int.natAbs_natCast, Nat.mul_comm q.den] at h
 have hm2 := congrArg (· ^ 2 ^ j) hm
 simp only [Nat.mul_pow] at hm2
 have lm' := Lg.congr (pp _ (by omega)) (pp _ (den_pos q)) (pp _ (den_pos x)) (pp _ (by omega)) hm2 lm
 obtain ⟨k1, k2⟩ := Lg.inv (pp _ (by omega)) (pp _ (den_pos x)) ln lm'
 subst k1
 refine Ev.rounds (g := fun k => corporalaw37_EncloseInverse.f k l0 a1) ?_
 unfold corporalaw37_EncloseInverse.f
 rw [S1_eq]
 refine Ev.bindo hl (Ev.bind ex (Ev.bindo hc (Ev.bind eq (Ev.bind e1 (Ev.bind e2 (Ev.pos rfl (Ev.pos rfl (Ev.pos rfl (Ev.pos (by simp) ?_)))))))))
 cases xe
 ·rw [if_neg (by simp)] at k2
  refine Ev.neg (by simp) (Ev.pos ?_ (Ev.bind known37_ev (Ev.now _)))
  show m = wrap64 (wrap64 (-n) - 1)
  rw [w64 (x := -n) (by omega) (by omega), w64 (by omega) (by omega)]; exact k2
 ·rw [if_pos rfl] at k2
  refine Ev.pos rfl (Ev.pos ?_ (Ev.bind known37_ev (Ev.now _)))
  show m = wrap64 (-n)
  rw [w64 (x := -n) (by omega) (by omega)]; exact k2
end Go.Proofs.Ytccgfmjcldifcaa.Pure
