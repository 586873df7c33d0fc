/- Compare of intervals agrees with their ends and with the reference, and is turned round with its arguments: the plain statement; no condition. -/
import Derived.Test.YtccgfmjcldifcaaDLEncloseCompares
import Derived.Test.YtccgfmjcldifcaaMEnc
namespace Go.Proofs.Ytccgfmjcldifcaa.Pure
open Go.RowKit Go.Proofs.Ytccgfmjcldifcaa.P Go.Proofs.YtccgfmjcldifcaaW.PrintWords Go.Proofs.YtccgfmjcldifcaaW.PrintLast
theorem EncloseCompares : corporalaw37_EncloseCompares.Pure := by
 intro l0 _ _ _
 obtain ⟨l', hl, hp⟩ := new_some l0
 obtain ⟨a, b, p1, ha, hb, hab, hp1, e1⟩ := interval_ev hp
 obtain ⟨c, d, p2, hc, hd, hcd, _, e2⟩ := interval_ev hp1
 have q : ∀ {r s : Rat}, Rb 6 r → Rb 6 s → Ev (fun k => ratio_Compare.f k (decide (r.num < 0)) (S r.num.natAbs) (S r.den) (decide (s.num < 0)) (S s.num.natAbs) (S s.den)) (rc r s) := fun h1 h2 => compare_Q h1 h2 (by omega)
 have hback : ec c d a b = -ec a b c d ∧ ∀ ap : Bool, (ap = true ↔ rc b c < 0 ∨ rc d a < 0) → ((ec a b c d != 0) == ap) = true := by
  unfold ec
  by_cases h1 : rc b c < 0
  ·have h2 : ¬ rc d a < 0 := fun h2 => by
    have g1 := rc_lt.1 h1
    have g2 := rc_lt.1 h2
    exact Rat.not_le.2 g1 (Rat.le_trans hcd (Rat.le_trans (Rat.le_of_lt g2) hab))
   rw [if_neg h2, if_pos h1, if_pos h1]
   exact ⟨rfl, fun ap h => by rw [h.2 (.inl h1)]; rfl⟩
  ·by_cases h2 : rc d a < 0
   ·rw [if_pos h2, if_neg h1, if_pos h2]
    exact ⟨rfl, fun ap h => by rw [h.2 (.inr h2)]; rfl⟩
   ·rw [if_neg h2, if_neg h1, if_neg h1, if_neg h2]
    exact ⟨rfl, fun ap h => by
     have : ap = false := by
      rw [← Bool.not_eq_true, h]; exact fun g => g.elim h1 h2
     rw [this]; rfl⟩
 obtain ⟨hb1, hb2⟩ := hback
 have hbd : -1 ≤ ec a b c d ∧ ec a b c d ≤ 1 := by unfold ec; split <;> (try split) <;> omega
 have last : ∀ ap : Bool, (ap = true ↔ rc b c < 0 ∨ rc d a < 0) → Ev (fun k => corporalaw37_EncloseCompares.j0 k (ec a b c d) ap (decide (a.num < 0)) (S a.num.natAbs) (S a.den) (decide (b.num < 0)) (S b.num.natAbs) (S b.den) (decide (c.num < 0)) (S c.num.natAbs) (S c.den) (decide (d.num < 0)) (S d.num.natAbs) (S d.den)) true := by
  intro ap hap
  refine Ev.step (fun k => corporalaw37_EncloseCompares.j0.eq_2 ..) (Ev.bind (recompare_Q ha hb hc hd (by omega) hab hcd) (Ev.pos rfl (Ev.bind (ecompare_Q hc hd ha hb (by omega) hcd hab) (Ev.pos ?_ (Ev.pos (hb2 ap hap) ?_)))))
  ·rw [w64 (by omega) (by omega)]; exact hb1
  ·exact Ev.bind (econtains_Q ha hb ha (by omega) hab Rat.le_refl hab) (Ev.pos rfl (Ev.bind (econtains_Q ha hb hb (by omega) hab hab Rat.le_refl) (Ev.pos rfl (Ev.bind known37_ev (Ev.now _)))))
 refine Ev.rounds (g := fun k => corporalaw37_EncloseCompares.f k l0) ?_
 unfold corporalaw37_EncloseCompares.f
 refine Ev.bindo hl (Ev.bind e1 (Ev.bind e2 (Ev.bind (ecompare_Q ha hb hc hd (by omega) hab hcd) (Ev.bind (q hb hc) ?_))))
 by_cases h1 : rc b c < 0
 ·exact Ev.pos h1 (last true ⟨fun _ => .inl h1, fun _ => rfl⟩)
 ·refine Ev.neg h1 (Ev.bind (q hd ha) (last _ ?_))
  rw [decide_eq_true_iff]
  exact ⟨.inr, fun h => h.elim (fun g => absurd g h1) id⟩
end Go.Proofs.Ytccgfmjcldifcaa.Pure
