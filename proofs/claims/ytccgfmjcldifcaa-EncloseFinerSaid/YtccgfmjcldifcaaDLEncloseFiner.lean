/- What each Go function computes, as plain Lean functions, and the walks that show it; each theorem's conditions stand in it. -/
import Derived.Test.YtccgfmjcldifcaaT
import Derived.Test.YtccgfmjcldifcaaDA
import Derived.Test.YtccgfmjcldifcaaDE
namespace Go.Proofs.Ytccgfmjcldifcaa.P
open Go.RowKit Go.Proofs.YtccgfmjcldifcaaW.PrintWords Go.Proofs.YtccgfmjcldifcaaW.PrintLast Go.Proofs.YtccgfmjcldifcaaW.PrintMore
attribute [local go_sem] max2_int min2_int max_two min_two max_three min_three max_four min_four   -- for this text's walks alone
set_option linter.unusedVariables false
set_option linter.unusedSimpArgs false
def corporalaw37_EncloseFiner.f (k : Nat) (l0 : List Int) (a1 : Int) (a2 : Int) : Option (Bool) := (corporamade_New.f l0).bind fun bt1292 => ((corporalaw37_some.f k bt1292.1 bt1292.2 true).bind fun bt1295 => ((corporamade_Mod.f a1 4).bind fun t1300 => ((corporamade_Mod.f a2 4).bind fun t1301 => ((enclose_Bits.f k bt1295.1 bt1295.2.1 bt1295.2.2.1 t1300).bind fun bt1302 => ((enclose_Bits.f k bt1295.1 bt1295.2.1 bt1295.2.2.1 (wrap64 (t1300 + t1301))).bind fun bt1310 => (if bt1302.2.2.2.2.2.2 = 0 then (if bt1310.2.2.2.2.2.2 = 0 then ((ratio_Compare.f k bt1302.1 bt1302.2.1 bt1302.2.2.1 bt1310.1 bt1310.2.1 bt1310.2.2.1).bind fun t1318 => (if t1318 ≤ 0 then ((ratio_Compare.f k bt1310.2.2.2.1 bt1310.2.2.2.2.1 bt1310.2.2.2.2.2.1 bt1302.2.2.2.1 bt1302.2.2.2.2.1 bt1302.2.2.2.2.2.1).bind fun t1319 => (if t1319 ≤ 0 then ((enclose_Valid.f k bt1310.1 bt1310.2.1 bt1310.2.2.1 bt1310.2.2.2.1 bt1310.2.2.2.2.1 bt1310.2.2.2.2.2.1).bind fun t1320 => (if t1320 = true then ((corporalaw37_known.f k).bind fun t1321 => (some t1321)) else (some false))) else (some false))) else (some false))) else (some false)) else (some false)))))))
def corporalaw37_EncloseFiner.Pure : Prop := ∀ (l0 : List Int) (a1 : Int) (a2 : Int), l0.length ≤ maxLen → l0.length * 8 ≤ 140737488351232 → (∀ x ∈ l0, (Lit.int .i64 x).wf = true) → (Lit.int .i64 a1).wf = true → (Lit.int .i64 a2).wf = true → ∃ k, corporalaw37_EncloseFiner.f k l0 a1 a2 = some true
end Go.Proofs.Ytccgfmjcldifcaa.P
