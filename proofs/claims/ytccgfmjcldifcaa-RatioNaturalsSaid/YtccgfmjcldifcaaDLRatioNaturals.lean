/- What each Go function computes, as plain Lean functions, and the walks that show it; each theorem's conditions stand in it. -/
import Derived.Test.YtccgfmjcldifcaaT
import Derived.Test.YtccgfmjcldifcaaDA
import Derived.Test.YtccgfmjcldifcaaDB
namespace Go.Proofs.Ytccgfmjcldifcaa.P
open Go.RowKit Go.Proofs.YtccgfmjcldifcaaW.PrintWords Go.Proofs.YtccgfmjcldifcaaW.PrintLast Go.Proofs.YtccgfmjcldifcaaW.PrintMore
attribute [local go_sem] max2_int min2_int max_two min_two max_three min_three max_four min_four   -- for this text's walks alone
set_option linter.unusedVariables false
set_option linter.unusedSimpArgs false

/-! ### corporalaw36_RatioNaturals: function 7 -/
def corporalaw36_RatioNaturals.f (k : Nat) (l0 : List Int) (l1 : List Int) : Option (Bool) := (corporalaw36_natural.f k l0).bind fun t941 => ((corporalaw36_natural.f k l1).bind fun t942 => ((ratio_NatAdd.f k t941 t942).bind fun bt943 => ((ratio_NatSub.f k t941 t942).bind fun bt945 => ((ratio_NatMul.f k t941 t942).bind fun bt947 => ((ratio_NatDiv.f k t941 t942).bind fun bt949 => ((ratio_NatGcd.f k t941 t942).bind fun bt952 => ((corporaref36_NatAdd.f k t941 t942).bind fun bt954 => ((corporaref36_NatSub.f k t941 t942).bind fun bt956 => ((corporaref36_NatMul.f k t941 t942).bind fun bt958 => ((corporaref36_NatDiv.f k t941 t942).bind fun bt960 => ((corporaref36_NatGcd.f k t941 t942).bind fun bt963 => (if bt943.1.toList = bt954.1.toList then (if bt943.2 = bt954.2 then (if bt945.1.toList = bt956.1.toList then (if bt945.2 = bt956.2 then (if bt947.1.toList = bt958.1.toList then (if bt947.2 = bt958.2 then (if bt949.1.toList = bt960.1.toList then (if bt949.2.1.toList = bt960.2.1.toList then (if bt949.2.2 = bt960.2.2 then (if bt952.1.toList = bt963.1.toList then (if bt952.2 = bt963.2 then ((ratio_NatCompare.f k t941 t942).bind fun t965 => ((corporaref36_NatCompare.f k t941 t942).bind fun t966 => (if t965 = t966 then ((corporalaw36_known.f k).bind fun t967 => (some t967)) else (some false)))) else (some false)) else (some false)) else (some false)) else (some false)) else (some false)) else (some false)) else (some false)) else (some false)) else (some false)) else (some false)) else (some false)))))))))))))
def corporalaw36_RatioNaturals.Pure : Prop := ∀ (l0 : List Int) (l1 : List Int), l0.length ≤ maxLen → l0.length * 8 ≤ 140737488351232 → (∀ x ∈ l0, (Lit.int .i64 x).wf = true) → l1.length ≤ maxLen → l1.length * 8 ≤ 140737488351232 → (∀ x ∈ l1, (Lit.int .i64 x).wf = true) → ∃ k, corporalaw36_RatioNaturals.f k l0 l1 = some true

end Go.Proofs.Ytccgfmjcldifcaa.P
