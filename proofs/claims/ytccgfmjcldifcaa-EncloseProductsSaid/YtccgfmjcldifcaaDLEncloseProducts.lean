/- What each Go function computes, as plain Lean functions, and the walks that show it; each theorem's conditions stand in it. -/
import Derived.Test.YtccgfmjcldifcaaT
import Derived.Test.YtccgfmjcldifcaaDA
import Derived.Test.YtccgfmjcldifcaaDE
namespace Go.Proofs.Ytccgfmjcldifcaa.P
open Go.RowKit Go.Proofs.YtccgfmjcldifcaaW.PrintWords Go.Proofs.YtccgfmjcldifcaaW.PrintLast Go.Proofs.YtccgfmjcldifcaaW.PrintMore
attribute [local go_sem] max2_int min2_int max_two min_two max_three min_three max_four min_four   -- for this text's walks alone
set_option linter.unusedVariables false
set_option linter.unusedSimpArgs false
def corporalaw37_EncloseProducts.f (k : Nat) (l0 : List Int) (a1 : Int) : Option (Bool) := (corporamade_New.f l0).bind fun bt592 => ((corporalaw37_some.f k bt592.1 bt592.2 true).bind fun bt595 => ((corporalaw37_some.f k bt592.1 bt595.2.2.2 true).bind fun bt599 => ((corporamade_Mod.f a1 5).bind fun t605 => ((ratio_Mul.f k bt595.1 bt595.2.1 bt595.2.2.1 bt599.1 bt599.2.1 bt599.2.2.1).bind fun bt606 => ((enclose_Log.f k bt595.1 bt595.2.1 bt595.2.2.1 t605).bind fun bt611 => ((enclose_Log.f k bt599.1 bt599.2.1 bt599.2.2.1 t605).bind fun bt614 => ((enclose_Log.f k bt606.1 bt606.2.1 bt606.2.2.1 t605).bind fun bt617 => (if bt606.2.2.2 = 0 then (if bt611.2.2 = 0 then (if bt614.2.2 = 0 then (if bt617.2.2 = 0 then (if bt617.1 = (wrap64 (bt611.1 + bt614.1)) then ((corporalaw37_known.f k).bind fun t620 => (some t620)) else (if bt617.1 = (wrap64 ((wrap64 (bt611.1 + bt614.1)) + 1)) then ((corporalaw37_known.f k).bind fun t621 => (some t621)) else (some false))) else (some false)) else (some false)) else (some false)) else (some false)))))))))
def corporalaw37_EncloseProducts.Pure : Prop := ∀ (l0 : List Int) (a1 : Int), l0.length ≤ maxLen → l0.length * 8 ≤ 140737488351232 → (∀ x ∈ l0, (Lit.int .i64 x).wf = true) → (Lit.int .i64 a1).wf = true → ∃ k, corporalaw37_EncloseProducts.f k l0 a1 = some true
end Go.Proofs.Ytccgfmjcldifcaa.P
