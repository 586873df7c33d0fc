/- Addition and multiplication of generated ratios are commutative and associative, and distribute: the plain statement; no condition. -/
import Derived.Test.YtccgfmjcldifcaaDLRatioField
import Derived.Test.YtccgfmjcldifcaaMRat
namespace Go.Proofs.Ytccgfmjcldifcaa.Pure
open Go.RowKit Go.Proofs.Ytccgfmjcldifcaa.P Go.Proofs.YtccgfmjcldifcaaW.PrintWords Go.Proofs.YtccgfmjcldifcaaW.PrintLast Go.Proofs.Ytccgfmjcldifcaa.Dg
theorem field_l0 (a : Bool) (b c : ByteArray) (a' : Bool) (b' c' : ByteArray) (a2 : Bool) (b2 c2 : ByteArray) (d : Nat) : ∀ i : Nat, i + d = 9 →
  Ev (fun k => corporalaw36_RatioField.l0 k (List.replicate 9 0) 9 (i : Int) a b c a b c a' b' c' a' b' c' a2 b2 c2 a2 b2 c2) true := by
 induction d with
 | zero =>
  intro i hi
  exact Ev.step (fun k => corporalaw36_RatioField.l0.eq_2 ..) (Ev.neg (by omega) (Ev.pos same_Q (Ev.pos same_Q (Ev.pos same_Q (Ev.bind known36_ev (Ev.now _))))))
 | succ d ih =>
  intro i hi
  refine Ev.step (fun k => corporalaw36_RatioField.l0.eq_2 ..) (Ev.pos (by omega) (Ev.pos (by omega) (Ev.pos (by simp; omega) (Ev.pos (by rw [rd_nat]; exact at_replicate _ _) ?_))))
  rw [w64i (by omega)]
  exact ih (i + 1) (by omega)
theorem RatioField : corporalaw36_RatioField.Pure := by
 intro l0 l1 l2 _ _ _ _ _ _ _ _ _
 obtain ⟨a, ha, ea⟩ := some36_ev l0
 obtain ⟨b, hb, eb⟩ := some36_ev l1
 obtain ⟨c, hc, ec⟩ := some36_ev l2
 obtain ⟨hab, eab⟩ := add_Q ha hb (by omega)
 obtain ⟨hba, eba⟩ := add_Q hb ha (by omega)
 obtain ⟨_, ex⟩ := add_Q hab (hc.mono (by omega)) (by omega)
 obtain ⟨hbc, ebc⟩ := add_Q hb hc (by omega)
 obtain ⟨_, ey⟩ := add_Q (ha.mono (n := 2 * 20 + 1) (by omega)) hbc (by omega)
 obtain ⟨_, el⟩ := mul_Q (ha.mono (n := 2 * 20 + 1) (by omega)) hbc (by omega)
 obtain ⟨hp, ep⟩ := mul_Q ha hb (by omega)
 obtain ⟨hq, eq⟩ := mul_Q ha hc (by omega)
 obtain ⟨_, er⟩ := add_Q hp hq (by omega)
 rw [Rat.add_comm b a] at eba
 rw [Rat.add_assoc] at ex
 rw [← Rat.mul_add] at er
 refine Ev.rounds (g := fun k => corporalaw36_RatioField.f k l0 l1 l2) ?_
 unfold corporalaw36_RatioField.f
 refine Ev.bind ea (Ev.bind eb (Ev.bind ec (Ev.bind eab (Ev.bind eba (Ev.bind ex (Ev.bind ebc (Ev.bind ey (Ev.bind el (Ev.bind ep (Ev.bind eq (Ev.bind er (Ev.bindo rfl ?_))))))))))))
 exact field_l0 _ _ _ _ _ _ _ _ _ 9 0 rfl
end Go.Proofs.Ytccgfmjcldifcaa.Pure
