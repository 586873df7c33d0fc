/- Sums, differences, products, quotients, greatest common divisors and comparisons of generated numbers are those of the reference: the plain statement; no condition. -/
import Derived.Test.YtccgfmjcldifcaaDLRatioNaturals
import Derived.Test.YtccgfmjcldifcaaMRef3
namespace Go.Proofs.Ytccgfmjcldifcaa.Pure
open Go.RowKit Go.Proofs.Ytccgfmjcldifcaa.P Go.Proofs.YtccgfmjcldifcaaW.PrintWords Go.Proofs.YtccgfmjcldifcaaW.PrintLast
theorem RatioNaturals : corporalaw36_RatioNaturals.Pure := by
  intro l0 l1 _ _ _ _ _ _
  obtain ⟨a, ha, ea⟩ := natural36_ev l0
  obtain ⟨b, hb, eb⟩ := natural36_ev l1
  have la : Lm a := by unfold Lm; omega
  have lb : Lm b := by unfold Lm; omega
  have ls : Lm (a + b) := by have := dl_add a b; unfold Lm; omega
  have lp : Lm (a * b) := by have := dl_mul a b; unfold Lm; omega
  refine Ev.rounds (g := fun k => corporalaw36_RatioNaturals.f k l0 l1) ?_
  unfold corporalaw36_RatioNaturals.f
  refine Ev.bind ea (Ev.bind eb (Ev.bind (natadd_ev la lb ls) (Ev.bind (natsub_ev la lb) (Ev.bind (natmul_ev la lb lp) (Ev.bind (natdiv_ev la lb) (Ev.bind (natgcd_ev la lb) ?_))))))
  refine Ev.bind (rnatadd_ev la lb ls) (Ev.bind (rnatsub_ev la lb) (Ev.bind (rnatmul_ev la lb lp) (Ev.bind (rnatdiv_ev la lb) (Ev.bind (rnatgcd_ev la lb) ?_))))
  refine Ev.pos rfl (Ev.pos rfl (Ev.pos rfl (Ev.pos rfl (Ev.pos rfl (Ev.pos rfl (Ev.pos rfl (Ev.pos rfl (Ev.pos rfl (Ev.pos rfl (Ev.pos rfl ?_))))))))))
  exact Ev.bind (natcompare_ev la lb) (Ev.bind (rnatcompare_ev la lb) (Ev.pos rfl (Ev.bind known36_ev (Ev.now _))))
end Go.Proofs.Ytccgfmjcldifcaa.Pure
