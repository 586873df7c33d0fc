/- Walks of Go functions: what they compute; each theorem's conditions stand in it. -/
import Derived.Test.YtccgfmjcldifcaaT
import Derived.Test.YtccgfmjcldifcaaDA
import Derived.Test.YtccgfmjcldifcaaDB
import Derived.Test.YtccgfmjcldifcaaDE
namespace Go.Proofs.Ytccgfmjcldifcaa.P
open Go.RowKit Go.Proofs.YtccgfmjcldifcaaW.PrintWords Go.Proofs.YtccgfmjcldifcaaW.PrintLast Go.Proofs.YtccgfmjcldifcaaW.PrintMore
attribute [local go_sem] max2_int min2_int max_two min_two max_three min_three max_four min_four
set_option linter.unusedVariables false
set_option linter.unusedSimpArgs false
def corporalaw36_RatioOrder.f (k : Nat) (l0 : List Int) (l1 : List Int) : Option (Bool) := (corporalaw36_some.f k l0).bind fun bt1702 => ((corporalaw36_some.f k l1).bind fun bt1705 => ((ratio_Sub.f k bt1702.1 bt1702.2.1 bt1702.2.2 bt1705.1 bt1705.2.1 bt1705.2.2).bind fun bt1710 => ((ratio_Floor.f k bt1702.1 bt1702.2.1 bt1702.2.2).bind fun bt1715 => ((ratio_Sub.f k bt1702.1 bt1702.2.1 bt1702.2.2 bt1715.1 bt1715.2.1 bt1715.2.2.1).bind fun bt1720 => ((ratio_Format.f k bt1702.1 bt1702.2.1 bt1702.2.2).bind fun t1725 => ((ratio_Parse.f k t1725).bind fun bt1726 => (if bt1710.2.2.2 = 0 then (if bt1715.2.2.2 = 0 then (if bt1720.2.2.2 = 0 then (if bt1726.2.2.2 = 0 then ((ratio_Compare.f k bt1702.1 bt1702.2.1 bt1702.2.2 bt1705.1 bt1705.2.1 bt1705.2.2).bind fun t1732 => (if ((decide (t1732 < 0)) == bt1710.1) = true then (if bt1715.2.2.1.toList = ([49] : List UInt8) then (if bt1720.1 = true then (none) else ((ratio_Compare.f k bt1720.1 bt1720.2.1 bt1720.2.2.1 false (⟨#[49]⟩ : ByteArray) (⟨#[49]⟩ : ByteArray)).bind fun t1733 => (if t1733 < 0 then (if (bt1726.1 == bt1702.1 && (bt1726.2.1.toList == bt1702.2.1.toList && (bt1726.2.2.1.toList == bt1702.2.2.toList))) = true then ((corporalaw36_known.f k).bind fun t1734 => (some t1734)) else (none)) else (none)))) else (none)) else (none))) else (none)) else (none)) else (none)) else (none))))))))
def corporalaw36_RatioOrder.Pure : Prop := ∀ (l0 : List Int) (l1 : List Int), l0.length ≤ maxLen → l0.length * 8 ≤ 140737488351232 → (∀ x ∈ l0, (Lit.int .i64 x).wf = true) → l1.length ≤ maxLen → l1.length * 8 ≤ 140737488351232 → (∀ x ∈ l1, (Lit.int .i64 x).wf = true) → ∃ k, corporalaw36_RatioOrder.f k l0 l1 = some true
end Go.Proofs.Ytccgfmjcldifcaa.P
