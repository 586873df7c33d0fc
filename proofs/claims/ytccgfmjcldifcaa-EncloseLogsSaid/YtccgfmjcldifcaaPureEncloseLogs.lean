/- Log and Bits return the specified results for generated ratios: the plain statement; no condition. -/
import Derived.Test.YtccgfmjcldifcaaDLEncloseLogs
import Derived.Test.YtccgfmjcldifcaaMRBits
namespace Go.Proofs.Ytccgfmjcldifcaa.Pure
open Go.RowKit Go.Proofs.Ytccgfmjcldifcaa.P Go.Proofs.YtccgfmjcldifcaaW.PrintWords Go.Proofs.YtccgfmjcldifcaaW.PrintLast
theorem EncloseLogs : corporalaw37_EncloseLogs.Pure := by
 intro l0 a1 _ _ _ _
 obtain ⟨l', hl, hp⟩ := new_some l0
 obtain ⟨x, p1, hx, bx, _, ex⟩ := some37_ev hp
 obtain ⟨c, hc, c0, c1⟩ := mod_some (x := a1) (n := 6) (by omega) (by omega)
 obtain ⟨j, rfl⟩ := Int.eq_ofNat_of_zero_le c0
 have b15 := bx.mono (n := 15) (by omega)
 have pa : 0 < x.num.natAbs ^ 2 ^ j := Nat.pow_pos (by omega)
 have pb : 0 < x.den ^ 2 ^ j := Nat.pow_pos (den_pos x)
 obtain ⟨n, y, n0, n1, ln, e1⟩ := log_ev hx b15 (j := j) (by omega)
 obtain ⟨m, z, lm, e2⟩ := rlog_ev hx b15 (j := j) (by omega)
 obtain ⟨rfl, rfl⟩ := Lg.unique pa pb pa pb rfl ln lm
 obtain ⟨m, z, m0, m1, lm, _, _, e3⟩ := bits_Q hx b15 (j := j) (by omega)
 obtain ⟨rfl, rfl⟩ := Lg.unique pa pb pa pb rfl ln lm
 have e4 := rbits_Q hx b15 (j := j) (by omega) n0 n1 ln
 refine Ev.rounds (g := fun k => corporalaw37_EncloseLogs.f k l0 a1) ?_
 unfold corporalaw37_EncloseLogs.f
 refine Ev.bindo hl (Ev.bind ex (Ev.bindo hc (Ev.bind e1 (Ev.bind e2 (Ev.bind e3 (Ev.bind e4 (Ev.pos rfl (Ev.pos (by simp) (Ev.pos rfl (Ev.pos ?_ (Ev.pos rfl (Ev.bind known37_ev (Ev.now _)))))))))))))
 rw [same_Q, same_Q]; rfl
end Go.Proofs.Ytccgfmjcldifcaa.Pure
