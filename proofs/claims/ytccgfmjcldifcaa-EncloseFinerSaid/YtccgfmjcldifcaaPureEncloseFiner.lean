/- A greater k gives an interval within that of a smaller one: the plain statement; no condition. -/
import Derived.Test.YtccgfmjcldifcaaDLEncloseFiner
import Derived.Test.YtccgfmjcldifcaaMEnc
namespace Go.Proofs.Ytccgfmjcldifcaa.Pure
open Go.RowKit Go.Proofs.Ytccgfmjcldifcaa.P Go.Proofs.YtccgfmjcldifcaaW.PrintWords Go.Proofs.YtccgfmjcldifcaaW.PrintLast
theorem EncloseFiner : corporalaw37_EncloseFiner.Pure := by
 intro l0 a1 a2 _ _ _ _ _
 obtain ⟨l', hl, hp⟩ := new_some l0
 obtain ⟨x, p1, hx, bx, _, ex⟩ := some37_ev hp
 obtain ⟨c, hc, c0, c1⟩ := mod_some (x := a1) (n := 4) (by omega) (by omega)
 obtain ⟨d, hd, d0, d1⟩ := mod_some (x := a2) (n := 4) (by omega) (by omega)
 obtain ⟨i, rfl⟩ := Int.eq_ofNat_of_zero_le c0
 obtain ⟨j, rfl⟩ := Int.eq_ofNat_of_zero_le d0
 obtain ⟨n, xe, n0, n1, ln, b1, b2, e1⟩ := bits_Q hx (bx.mono (n := 15) (by omega)) (j := i) (by omega)
 obtain ⟨m, ye, m0, m1, lm, b3, b4, e2⟩ := bits_Q hx (bx.mono (n := 15) (by omega)) (j := i + j) (by omega)
 have pp : ∀ z : Nat, 0 < z → 0 < z ^ 2 ^ i := fun z h => Nat.pow_pos h
 have lm0 := lm
 rw [Nat.pow_add 2 i j, Nat.pow_mul, Nat.pow_mul] at lm0
 obtain ⟨f1, f2⟩ := Lg.finer (pp _ (by omega)) (pp _ (den_pos x)) ln lm0 (Nat.two_pow_pos j)
 have q1 := Nat.two_pow_pos i
 have q2 := Nat.two_pow_pos (i + j)
 have pw : ((2 ^ (i + j) : Nat) : Int) = ((2 ^ i : Nat) : Int) * ((2 ^ j : Nat) : Int) := by rw [Nat.pow_add, Int.natCast_mul]
 have up : ∀ a b : Int, a ≤ b → a * ((2 ^ i : Nat) : Int) ≤ b * ((2 ^ i : Nat) : Int) := fun a b h => Int.mul_le_mul_of_nonneg_right h (by omega)
 have g1 : mkRat n (2 ^ i) ≤ mkRat m (2 ^ (i + j)) := mk_le q1 q2 (by
  have := up _ _ f1
  rw [pw]; have e : n * (((2 ^ i : Nat) : Int) * ((2 ^ j : Nat) : Int)) = n * ((2 ^ j : Nat) : Int) * ((2 ^ i : Nat) : Int) := by grind
  rw [e]; exact this)
 have g2 : mkRat (hi m ye) (2 ^ (i + j)) ≤ mkRat (hi n xe) (2 ^ i) := mk_le q2 q1 (by
  have := up _ _ f2
  rw [pw]; have e : hi n xe * (((2 ^ i : Nat) : Int) * ((2 ^ j : Nat) : Int)) = hi n xe * ((2 ^ j : Nat) : Int) * ((2 ^ i : Nat) : Int) := by grind
  rw [e]; exact this)
 have g3 : mkRat m (2 ^ (i + j)) ≤ mkRat (hi m ye) (2 ^ (i + j)) := mk_le q2 q2 (Int.mul_le_mul_of_nonneg_right (by unfold hi; split <;> omega) (by omega))
 refine Ev.rounds (g := fun k => corporalaw37_EncloseFiner.f k l0 a1 a2) ?_
 unfold corporalaw37_EncloseFiner.f
 refine Ev.bindo hl (Ev.bind ex (Ev.bindo hc (Ev.bindo hd (Ev.bind e1 ?_))))
 rw [w64a (by omega)]
 refine Ev.bind e2 (Ev.pos rfl (Ev.pos rfl (Ev.bind (compare_Q b1 b3 (by omega)) (Ev.pos (rc_le.2 g1) (Ev.bind (compare_Q b4 b2 (by omega)) (Ev.pos (rc_le.2 g2) (Ev.bind (valid_Q b3 b4 (by omega)) (Ev.pos (decide_eq_true (rc_le.2 g3)) (Ev.bind known37_ev (Ev.now _))))))))))
end Go.Proofs.Ytccgfmjcldifcaa.Pure
