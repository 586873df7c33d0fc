/- What each Go function computes, as plain Lean functions, and the walks that show it; each theorem's conditions stand in it. -/
import Derived.Test.YtccgfmjcldifcaaT
import Derived.Test.YtccgfmjcldifcaaDA
import Derived.Test.YtccgfmjcldifcaaDE
namespace Go.Proofs.Ytccgfmjcldifcaa.P
open Go.RowKit Go.Proofs.YtccgfmjcldifcaaW.PrintWords Go.Proofs.YtccgfmjcldifcaaW.PrintLast Go.Proofs.YtccgfmjcldifcaaW.PrintMore
attribute [local go_sem] max2_int min2_int max_two min_two max_three min_three max_four min_four   -- for this text's walks alone
set_option linter.unusedVariables false
set_option linter.unusedSimpArgs false
def corporalaw37_EncloseInverse.f (k : Nat) (l0 : List Int) (a1 : Int) : Option (Bool) := (corporamade_New.f l0).bind fun bt649 => ((corporalaw37_some.f k bt649.1 bt649.2 true).bind fun bt652 => ((corporamade_Mod.f a1 5).bind fun t657 => ((ratio_Quo.f k false (⟨#[49]⟩ : ByteArray) (⟨#[49]⟩ : ByteArray) bt652.1 bt652.2.1 bt652.2.2.1).bind fun bt658 => ((enclose_Log.f k bt652.1 bt652.2.1 bt652.2.2.1 t657).bind fun bt663 => ((enclose_Log.f k bt658.1 bt658.2.1 bt658.2.2.1 t657).bind fun bt666 => (if bt658.2.2.2 = 0 then (if bt663.2.2 = 0 then (if bt666.2.2 = 0 then (if (bt663.2.1 == bt666.2.1) = true then (if bt663.2.1 = true then (if bt666.1 = (wrap64 (-bt663.1)) then ((corporalaw37_known.f k).bind fun t669 => (some t669)) else (some false)) else (if bt666.1 = (wrap64 ((wrap64 (-bt663.1)) - 1)) then ((corporalaw37_known.f k).bind fun t670 => (some t670)) else (some false))) else (some false)) else (some false)) else (some false)) else (some false)))))))
def corporalaw37_EncloseInverse.Pure : Prop := ∀ (l0 : List Int) (a1 : Int), l0.length ≤ maxLen → l0.length * 8 ≤ 140737488351232 → (∀ x ∈ l0, (Lit.int .i64 x).wf = true) → (Lit.int .i64 a1).wf = true → ∃ k, corporalaw37_EncloseInverse.f k l0 a1 = some true
end Go.Proofs.Ytccgfmjcldifcaa.P
