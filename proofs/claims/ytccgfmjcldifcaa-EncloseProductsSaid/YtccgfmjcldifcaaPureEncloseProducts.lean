/- The logarithm of a product of generated ratios is the sum of theirs, or one more: the plain statement; no condition. -/
import Derived.Test.YtccgfmjcldifcaaDLEncloseProducts
import Derived.Test.YtccgfmjcldifcaaMLog
namespace Go.Proofs.Ytccgfmjcldifcaa.Pure
open Go.RowKit Go.Proofs.Ytccgfmjcldifcaa.P Go.Proofs.YtccgfmjcldifcaaW.PrintWords Go.Proofs.YtccgfmjcldifcaaW.PrintLast
theorem EncloseProducts : corporalaw37_EncloseProducts.Pure := by
 intro l0 a1 _ _ _ _
 obtain ⟨l', hl, hp⟩ := new_some l0
 obtain ⟨x, p1, hx, bx, hp1, ex⟩ := some37_ev hp
 obtain ⟨y, p2, hy, by', _, ey⟩ := some37_ev hp1
 obtain ⟨c, hc, c0, c1⟩ := mod_some (x := a1) (n := 5) (by omega) (by omega)
 obtain ⟨j, rfl⟩ := Int.eq_ofNat_of_zero_le c0
 obtain ⟨bp, ep⟩ := mul_Q bx by' (by omega)
 have hxy : 0 < x * y := Rat.mul_pos (num_pos.1 hx) (num_pos.1 hy)
 have hn : 0 < (x * y).num := num_pos.2 hxy
 obtain ⟨n, xe, n0, n1, ln, e1⟩ := log_ev hx (bx.mono (n := 15) (by omega)) (j := j) (by omega)
 obtain ⟨m, ye, m0, m1, lm, e2⟩ := log_ev hy (by'.mono (n := 15) (by omega)) (j := j) (by omega)
 obtain ⟨q, pe, q0, q1, lq, e3⟩ := log_ev hn (bp.mono (n := 15) (by omega)) (j := j) (by omega)
 have pp : ∀ z : Nat, 0 < z → 0 < z ^ 2 ^ j := fun z h => Nat.pow_pos h
 have hm : (x * y).num.natAbs * (x.den * y.den) = (x.num.natAbs * y.num.natAbs) * (x * y).den := by
  have h := congrArg Int.natAbs ((Rat.mkRat_eq_iff (x * y).den_nz (Nat.mul_ne_zero x.den_nz y.den_nz)).1 (show mkRat (x * y).num (x * y).den = mkRat (x.num * y.num) (x.den * y.den) by rw [Rat.mkRat_self, ← Rat.mkRat_mul_mkRat, Rat.mkRat_self, Rat.mkRat_self]))
  rwa [Int.natAbs_mul, Int.natAbs_mul, Int.natAbs_mul, Int.natAbs_natCast, Int.natAbs_natCast] at h
 have hm2 := congrArg (· ^ 2 ^ j) hm
 simp only [Nat.mul_pow] at hm2
 have key := Lg.mul (pp _ (by omega)) (pp _ (den_pos x)) (pp _ (by omega)) (pp _ (den_pos y)) (pp _ (by omega)) (pp _ (den_pos (x * y))) hm2 ln lm lq
 refine Ev.rounds (g := fun k => corporalaw37_EncloseProducts.f k l0 a1) ?_
 unfold corporalaw37_EncloseProducts.f
 refine Ev.bindo hl (Ev.bind ex (Ev.bind ey (Ev.bindo hc (Ev.bind ep (Ev.bind e1 (Ev.bind e2 (Ev.bind e3 (Ev.pos rfl (Ev.pos rfl (Ev.pos rfl (Ev.pos rfl ?_)))))))))))
 show Ev (fun k => if q = wrap64 (n + m) then _ else (if q = wrap64 ((wrap64 (n + m)) + 1) then _ else _)) true
 rw [w64 (x := n + m) (by omega) (by omega), w64 (x := n + m + 1) (by omega) (by omega)]
 rcases key with h | h
 ·exact Ev.pos h (Ev.bind known37_ev (Ev.now _))
 ·exact Ev.neg (by omega) (Ev.pos h (Ev.bind known37_ev (Ev.now _)))
end Go.Proofs.Ytccgfmjcldifcaa.Pure
