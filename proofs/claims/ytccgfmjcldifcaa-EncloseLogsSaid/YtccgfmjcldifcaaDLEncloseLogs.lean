/- Walks of Go functions: what they compute; each theorem's conditions stand in it. -/
import Derived.Test.YtccgfmjcldifcaaT
import Derived.Test.YtccgfmjcldifcaaDA
import Derived.Test.YtccgfmjcldifcaaDE
import Derived.Test.YtccgfmjcldifcaaDF
namespace Go.Proofs.Ytccgfmjcldifcaa.P
open Go.RowKit Go.Proofs.YtccgfmjcldifcaaW.PrintWords Go.Proofs.YtccgfmjcldifcaaW.PrintLast Go.Proofs.YtccgfmjcldifcaaW.PrintMore
attribute [local go_sem] max2_int min2_int max_two min_two max_three min_three max_four min_four
set_option linter.unusedVariables false
set_option linter.unusedSimpArgs false
def corporalaw37_EncloseLogs.f (k : Nat) (l0 : List Int) (a1 : Int) : Option (Bool) := (corporamade_New.f l0).bind fun bt784 => ((corporalaw37_some.f k bt784.1 bt784.2 true).bind fun bt787 => ((corporamade_Mod.f a1 6).bind fun t792 => ((enclose_Log.f k bt787.1 bt787.2.1 bt787.2.2.1 t792).bind fun bt793 => ((corporaref37_Log.f k bt787.1 bt787.2.1 bt787.2.2.1 t792).bind fun bt796 => ((enclose_Bits.f k bt787.1 bt787.2.1 bt787.2.2.1 t792).bind fun bt799 => ((corporaref37_Bits.f k bt787.1 bt787.2.1 bt787.2.2.1 t792).bind fun bt807 => (if bt793.1 = bt796.1 then (if (bt793.2.1 == bt796.2.1) = true then (if bt793.2.2 = bt796.2.2 then (if ((bt799.1 == bt807.1 && (bt799.2.1.toList == bt807.2.1.toList && (bt799.2.2.1.toList == bt807.2.2.1.toList))) && ((bt799.2.2.2.1 == bt807.2.2.2.1 && (bt799.2.2.2.2.1.toList == bt807.2.2.2.2.1.toList && (bt799.2.2.2.2.2.1.toList == bt807.2.2.2.2.2.1.toList))))) = true then (if bt799.2.2.2.2.2.2 = bt807.2.2.2.2.2.2 then ((corporalaw37_known.f k).bind fun t815 => (some t815)) else (some false)) else (some false)) else (some false)) else (some false)) else (some false))))))))
def corporalaw37_EncloseLogs.Pure : Prop := ∀ (l0 : List Int) (a1 : Int), l0.length ≤ maxLen → l0.length * 8 ≤ 140737488351232 → (∀ x ∈ l0, (Lit.int .i64 x).wf = true) → (Lit.int .i64 a1).wf = true → ∃ k, corporalaw37_EncloseLogs.f k l0 a1 = some true
end Go.Proofs.Ytccgfmjcldifcaa.P
