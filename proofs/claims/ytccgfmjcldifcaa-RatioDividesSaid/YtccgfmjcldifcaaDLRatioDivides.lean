/- What each Go function computes, as plain Lean functions, and the walks that show it; each theorem's conditions stand in it. -/
import Derived.Test.YtccgfmjcldifcaaT
import Derived.Test.YtccgfmjcldifcaaDA
namespace Go.Proofs.Ytccgfmjcldifcaa.P
open Go.RowKit Go.Proofs.YtccgfmjcldifcaaW.PrintWords Go.Proofs.YtccgfmjcldifcaaW.PrintLast Go.Proofs.YtccgfmjcldifcaaW.PrintMore
attribute [local go_sem] max2_int min2_int max_two min_two max_three min_three max_four min_four   -- for this text's walks alone
set_option linter.unusedVariables false
set_option linter.unusedSimpArgs false

/-! ### corporalaw36_RatioDivides: function 3 -/
def corporalaw36_RatioDivides.f (k : Nat) (l0 : List Int) (l1 : List Int) : Option (Bool) := (corporalaw36_natural.f k l0).bind fun t336 => ((corporalaw36_natural.f k l1).bind fun t337 => ((ratio_NatDiv.f k t336 t337).bind fun bt338 => (if t337.toList = ([48] : List UInt8) then (if bt338.2.2 = 25 then ((corporalaw36_known.f k).bind fun t341 => (some t341)) else (some false)) else ((ratio_NatMul.f k bt338.1 t337).bind fun bt342 => ((ratio_NatAdd.f k bt342.1 bt338.2.1).bind fun bt344 => (if bt338.2.2 = 0 then (if bt342.2 = 0 then (if bt344.2 = 0 then (if bt344.1.toList = t336.toList then ((ratio_NatCompare.f k bt338.2.1 t337).bind fun t346 => (if t346 < 0 then ((corporalaw36_known.f k).bind fun t347 => (some t347)) else (some false))) else (some false)) else (some false)) else (some false)) else (some false)))))))
theorem corporalaw36_RatioDivides.mono : ∀ a0 a1 k, LeO (corporalaw36_RatioDivides.f k a0 a1) (corporalaw36_RatioDivides.f (k + 1) a0 a1) := by
  intro a0 a1 k
  unfold corporalaw36_RatioDivides.f
  repeat' first
      | (with_reducible exact corporalaw36_known.mono _)
      | (with_reducible exact corporalaw36_natural.mono _ _)
      | (with_reducible exact ratio_NatAdd.mono _ _ _)
      | (with_reducible exact ratio_NatCompare.mono _ _ _)
      | (with_reducible exact ratio_NatDiv.mono _ _ _)
      | (with_reducible exact ratio_NatMul.mono _ _ _)
      | (with_reducible exact LeO.refl _)
      | (with_reducible exact LeO.none _)
      | (with_reducible refine LeO.ite ?_ ?_)
      | (with_reducible refine LeO.bind ?_ (fun _ => ?_))
      | exact corporalaw36_known.mono _
      | exact corporalaw36_natural.mono _ _
      | exact ratio_NatAdd.mono _ _ _
      | exact ratio_NatCompare.mono _ _ _
      | exact ratio_NatDiv.mono _ _ _
      | exact ratio_NatMul.mono _ _ _
      | exact LeO.none _
      | refine LeO.ite ?_ ?_
      | refine LeO.bind ?_ (fun _ => ?_)
def corporalaw36_RatioDivides.Pure : Prop := ∀ (l0 : List Int) (l1 : List Int), l0.length ≤ maxLen → l0.length * 8 ≤ 140737488351232 → (∀ x ∈ l0, (Lit.int .i64 x).wf = true) → l1.length ≤ maxLen → l1.length * 8 ≤ 140737488351232 → (∀ x ∈ l1, (Lit.int .i64 x).wf = true) → ∃ k, corporalaw36_RatioDivides.f k l0 l1 = some true

end Go.Proofs.Ytccgfmjcldifcaa.P
