/- For generated ratios a - b + b is a, (a / b) b is a, and the results are in lowest terms: the plain statement; no condition. -/
import Derived.Test.YtccgfmjcldifcaaDLRatioInverse
import Derived.Test.YtccgfmjcldifcaaMRat
namespace Go.Proofs.Ytccgfmjcldifcaa.Pure
open Go.RowKit Go.Proofs.Ytccgfmjcldifcaa.P Go.Proofs.YtccgfmjcldifcaaW.PrintWords Go.Proofs.YtccgfmjcldifcaaW.PrintLast Go.Proofs.Ytccgfmjcldifcaa.Dg
theorem RatioInverse : corporalaw36_RatioInverse.Pure := by
 intro l0 l1 _ _ _ _ _ _
 obtain ⟨a, ha, ea⟩ := some36_ev l0
 obtain ⟨b, hb, eb⟩ := some36_ev l1
 obtain ⟨hd, ed⟩ := sub_Q ha hb (by omega)
 obtain ⟨_, es⟩ := add_Q hd (hb.mono (by omega)) (by omega)
 rw [Rat.sub_add_cancel] at es
 have eq := quo_Q ha hb (by omega)
 have er := isratio_ev hd (by omega)
 have hz : (S b.num.natAbs).toList = ([48] : List UInt8) ↔ b = 0 := S_0.trans (by rw [← Rat.num_eq_zero]; omega)
 refine Ev.rounds (g := fun k => corporalaw36_RatioInverse.f k l0 l1) ?_
 unfold corporalaw36_RatioInverse.f
 by_cases h : b = 0
 ·rw [if_pos h] at eq
  refine Ev.bind ea (Ev.bind eb (Ev.bind ed (Ev.bind es (Ev.bind eq (Ev.bind (mul_none _ _ _) (Ev.pos rfl (Ev.pos rfl (Ev.neg (by simp [Q, Q4]) (Ev.bind er ?_)))))))))
  exact Ev.step (fun k => corporalaw36_RatioInverse.j0.eq_2 ..) (Ev.neg (by simp) (Ev.pos (hz.2 h) (Ev.pos rfl (Ev.bind known36_ev (Ev.now _)))))
 ·rw [if_neg h] at eq
  obtain ⟨q, hq, bq, eq⟩ := eq
  obtain ⟨_, em⟩ := mul_Q bq (hb.mono (n := 2 * 20) (by omega)) (by omega)
  rw [hq] at em
  refine Ev.bind ea (Ev.bind eb (Ev.bind ed (Ev.bind es (Ev.bind eq (Ev.bind em (Ev.pos rfl (Ev.pos rfl (Ev.neg (by simp [Q, Q4]) (Ev.bind er ?_)))))))))
  refine Ev.step (fun k => corporalaw36_RatioInverse.j0.eq_2 ..) (Ev.neg (by simp) (Ev.neg (fun e => h (hz.1 e)) (Ev.pos rfl (Ev.pos rfl (Ev.pos same_Q (Ev.bind (isratio_ev bq (by omega)) (Ev.pos rfl (Ev.bind known36_ev (Ev.now _)))))))))
end Go.Proofs.Ytccgfmjcldifcaa.Pure
