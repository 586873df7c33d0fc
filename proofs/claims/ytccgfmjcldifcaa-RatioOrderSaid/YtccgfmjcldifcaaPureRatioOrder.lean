/- A ratio is less than another one exactly if the difference is negative; Floor is not greater and more than the ratio less 1; Parse reads what Format writes: the plain statement; no condition. -/
import Derived.Test.YtccgfmjcldifcaaDLRatioOrder
import Derived.Test.YtccgfmjcldifcaaMOrder
namespace Go.Proofs.Ytccgfmjcldifcaa.Pure
open Go.RowKit Go.Proofs.Ytccgfmjcldifcaa.P Go.Proofs.YtccgfmjcldifcaaW.PrintWords Go.Proofs.YtccgfmjcldifcaaW.PrintLast
theorem sub_lt {a b : Rat} : (a - b).num < 0 ↔ a < b := by
 have e : (a - b).num < 0 ↔ a - b < 0 := by rw [Rat.lt_iff]; simp
 rw [e]; constructor <;> intro h <;> grind
theorem RatioOrder : corporalaw36_RatioOrder.Pure := by
 intro l0 l1 _ _ _ _ _ _
 obtain ⟨a, ba, ea⟩ := some36_ev l0
 obtain ⟨b, bb, eb⟩ := some36_ev l1
 obtain ⟨bs, es⟩ := sub_Q ba bb (by omega)
 obtain ⟨bf, ef⟩ := floor_Q ba (by omega)
 obtain ⟨br, er⟩ := sub_Q (ba.mono (n := 21) (by omega)) bf (by omega)
 have et := format_Q ba (by omega)
 have ep := parse_Q ba (by omega)
 have ec := compare_Q ba bb (by omega)
 have r0 := flQ_le a
 have r1 := flQ_gt a
 have b1 : Rb 43 (1 : Rat) := ⟨Nat.le_trans (dl_le (k := 1) (by decide)) (by omega), Nat.le_trans (dl_le (k := 1) (by decide)) (by omega)⟩
 have e1 := compare_Q (br.mono (n := 43) (by omega)) b1 (by omega)
 have hn : ¬ (a - flQ a).num < 0 := fun h => by have := sub_lt.1 h; grind
 refine Ev.rounds (g := fun k => corporalaw36_RatioOrder.f k l0 l1) ?_
 unfold corporalaw36_RatioOrder.f
 refine Ev.bind ea (Ev.bind eb (Ev.bind es (Ev.bind ef (Ev.bind er (Ev.bind et (Ev.bind ep (Ev.pos rfl (Ev.pos rfl (Ev.pos rfl (Ev.pos rfl (Ev.bind ec (Ev.pos ?_ (Ev.pos (S_1.2 (flQ_den a)) (Ev.neg ?_ ?_))))))))))))))
 ·show (decide (rc a b < 0) == decide ((a - b).num < 0)) = true
  rw [beq_iff_eq, decide_eq_decide, rc_lt, sub_lt]
 ·show ¬ decide ((a - flQ a).num < 0) = true
  rw [decide_eq_false hn]; simp
 ·rw [S1_eq]
  refine Ev.bind e1 (Ev.pos ?_ (Ev.pos same_Q (Ev.bind known36_ev (Ev.now _))))
  rw [rc_lt]; grind
end Go.Proofs.Ytccgfmjcldifcaa.Pure
