/- A is the quotient times b plus the remainder, which is less than b: the plain statement; no condition. -/
import Derived.Test.YtccgfmjcldifcaaDLRatioDivides
import Derived.Test.YtccgfmjcldifcaaMTape
namespace Go.Proofs.Ytccgfmjcldifcaa.Pure
open Go.RowKit Go.Proofs.Ytccgfmjcldifcaa.P Go.Proofs.YtccgfmjcldifcaaW.PrintWords Go.Proofs.YtccgfmjcldifcaaW.PrintLast
theorem RatioDivides : corporalaw36_RatioDivides.Pure := by
  intro l0 l1 _ _ _ _ _ _
  obtain ⟨a, ha, ea⟩ := natural36_ev l0
  obtain ⟨b, hb, eb⟩ := natural36_ev l1
  have la : Lm a := by unfold Lm; omega
  have lb : Lm b := by unfold Lm; omega
  have ed := natdiv_ev la lb
  refine Ev.rounds (g := fun k => corporalaw36_RatioDivides.f k l0 l1) ?_
  unfold corporalaw36_RatioDivides.f
  refine Ev.bind ea (Ev.bind eb (Ev.bind ed ?_))
  by_cases h : b = 0
  · subst h
    rw [if_pos rfl]
    exact Ev.pos (S_0.2 rfl) (Ev.pos rfl (Ev.bind known36_ev (Ev.now _)))
  · rw [if_neg h]
    refine Ev.neg (fun g => h (S_0.1 g)) ?_
    have hm : a / b * b ≤ a := Nat.div_mul_le_self a b
    have hs : a / b * b + a % b = a := by rw [Nat.mul_comm]; exact Nat.div_add_mod a b
    refine Ev.bind (natmul_ev (la.mono (Nat.div_le_self _ _)) lb (la.mono hm)) ?_
    refine Ev.bind (natadd_ev (la.mono hm) (la.mono (Nat.mod_le _ _)) (by rw [hs]; exact la)) ?_
    rw [hs]
    refine Ev.pos rfl (Ev.pos rfl (Ev.pos rfl (Ev.pos rfl (Ev.bind (natcompare_ev (la.mono (Nat.mod_le _ _)) lb) (Ev.pos ?_ (Ev.bind known36_ev (Ev.now _)))))))
    have := Nat.mod_lt a (show 0 < b by omega)
    rw [cmp_lt (by omega)]; omega
end Go.Proofs.Ytccgfmjcldifcaa.Pure
