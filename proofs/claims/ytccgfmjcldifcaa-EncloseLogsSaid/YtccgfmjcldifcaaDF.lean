/- Walks of Go functions: what they compute; each theorem's conditions stand in it. -/
import Derived.Test.YtccgfmjcldifcaaT
import Derived.Test.YtccgfmjcldifcaaDB
namespace Go.Proofs.Ytccgfmjcldifcaa.P
open Go.RowKit Go.Proofs.YtccgfmjcldifcaaW.PrintWords Go.Proofs.YtccgfmjcldifcaaW.PrintLast Go.Proofs.YtccgfmjcldifcaaW.PrintMore
set_option linter.unusedVariables false
set_option linter.unusedSimpArgs false
def corporaref37_two.l0 : Nat → Int → List Int → Option (List Int)
 | 0, _, _ => none
 | k + 1, x0, x3 => if x0 ≥ 40 then ((corporaref36_Of64.f k 1099511627776).bind fun t687 => ((corporaref36_Times.f k x3 t687).bind fun t690 => (corporaref37_two.l0 k (wrap64 (x0 - 40)) t690))) else (if 0 ≤ (IntKind.u64.wrap (x0)) then ((corporaref36_Of64.f k (shl .u64 1 (IntKind.u64.wrap (x0)))).bind fun t693 => ((corporaref36_Times.f k x3 t693).bind fun t696 => (some t696))) else (none))
def corporaref37_two.f (k : Nat) (a0 : Int) : Option (List Int) := (corporaref36_Of64.f k 1).bind fun t684 => (corporaref37_two.l0 k a0 t684)
def corporaref37_below.f (k : Nat) (a0 : Int) (l1 : List Int) (l2 : List Int) : Option (Bool × Bool) := if a0 ≥ 0 then ((corporaref37_two.f k a0).bind fun t699 => ((corporaref36_Times.f k l2 t699).bind fun t702 => ((corporaref36_Less.f k t702 l1).bind fun t705 => (some (decide (t705 ≤ 0), (t705 == 0)))))) else ((corporaref37_two.f k (wrap64 (-a0))).bind fun t706 => ((corporaref36_Times.f k l1 t706).bind fun t709 => ((corporaref36_Less.f k l2 t709).bind fun t712 => (some (decide (t712 ≤ 0), (t712 == 0))))))
mutual
def corporaref37_Log.j0 : Nat → Int → Bool → Bool → ByteArray → ByteArray → Option (Int × Bool × Int)
 | 0, _, _, _, _, _ => none
 | k + 1, x1, x36, x714000, x714001, x714002 => if x36 = true then (some (0, false, 1)) else ((corporaref36_Big.f k x714001).bind fun t715 => ((corporaref36_Big.f k x714002).bind fun t718 => (corporaref37_Log.l0 k x1 t715 t718 0)))
def corporaref37_Log.l0 : Nat → Int → List Int → List Int → Int → Option (Int × Bool × Int)
 | 0, _, _, _, _ => none
 | k + 1, x1, x7, x8, x9 => if x9 < x1 then ((corporaref36_Times.f k x7 x7).bind fun t721 => ((corporaref36_Times.f k x8 x8).bind fun t724 => (if (t721.length : Int) > 5002 then (some (0, false, 2)) else (if (t724.length : Int) > 5002 then (some (0, false, 2)) else (corporaref37_Log.l0 k x1 t721 t724 (wrap64 (x9 + 1))))))) else ((corporaref36_Text.f k x7).bind fun t727 => (if (t727.size : Int) > 20000 then (corporaref37_Log.j2 k x7 x8 true) else ((corporaref36_Text.f k x8).bind fun t728 => (corporaref37_Log.j2 k x7 x8 (decide ((t728.size : Int) > 20000))))))
def corporaref37_Log.j2 : Nat → List Int → List Int → Bool → Option (Int × Bool × Int)
 | 0, _, _, _ => none
 | k + 1, x7, x8, x71 => if x71 = true then (some (0, false, 2)) else (corporaref37_Log.l1 k x7 x8 (wrap64 ((wrap64 ((-14) * (x8.length : Int))) - 14)) (wrap64 ((wrap64 (14 * (x7.length : Int))) + 14)))
def corporaref37_Log.l1 : Nat → List Int → List Int → Int → Int → Option (Int × Bool × Int)
 | 0, _, _, _, _ => none
 | k + 1, x7, x8, x10, x11 => if (wrap64 (x11 - x10)) > 1 then ((corporaref37_below.f k ((wrap64 (x10 + x11)) / 2) x7 x8).bind fun bt729 => (if bt729.1 = true then (corporaref37_Log.l1 k x7 x8 ((wrap64 (x10 + x11)) / 2) x11) else (corporaref37_Log.l1 k x7 x8 x10 ((wrap64 (x10 + x11)) / 2)))) else ((corporaref37_below.f k x10 x7 x8).bind fun bt731 => (some (x10, bt731.2, 0)))
end
def corporaref37_Log.f (k : Nat) (a0_0 : Bool) (a0_1 : ByteArray) (a0_2 : ByteArray) (a1 : Int) : Option (Int × Bool × Int) := (corporaref36_IsRatio.f k a0_0 a0_1 a0_2).bind fun t714 => (if t714 = true then (if a0_0 = true then (corporaref37_Log.j0 k a1 true a0_0 a0_1 a0_2) else (if a0_1.toList = ([48] : List UInt8) then (corporaref37_Log.j0 k a1 true a0_0 a0_1 a0_2) else (if a1 < 0 then (corporaref37_Log.j0 k a1 true a0_0 a0_1 a0_2) else (corporaref37_Log.j0 k a1 (decide (a1 > 8)) a0_0 a0_1 a0_2)))) else (corporaref37_Log.j0 k a1 true a0_0 a0_1 a0_2))
def corporaref37_Bits.f (k : Nat) (a0_0 : Bool) (a0_1 : ByteArray) (a0_2 : ByteArray) (a1 : Int) : Option (Bool × ByteArray × ByteArray × Bool × ByteArray × ByteArray × Int) := (corporaref37_Log.f k a0_0 a0_1 a0_2 a1).bind fun bt771 => (if bt771.2.2 = 0 then (if 0 ≤ (IntKind.u64.wrap (a1)) then ((corporaref36_Make.f k bt771.1 (shl .i64 1 (IntKind.u64.wrap (a1)))).bind fun bt774 => ((corporaref36_Make.f k (wrap64 (bt771.1 + 1)) (shl .i64 1 (IntKind.u64.wrap (a1)))).bind fun bt779 => (if bt771.2.1 = true then (some (bt774.1, bt774.2.1, bt774.2.2.1, bt774.1, bt774.2.1, bt774.2.2.1, 0)) else (some (bt774.1, bt774.2.1, bt774.2.2.1, bt779.1, bt779.2.1, bt779.2.2.1, 0))))) else (none)) else (some (false, (⟨#[]⟩ : ByteArray), (⟨#[]⟩ : ByteArray), false, (⟨#[]⟩ : ByteArray), (⟨#[]⟩ : ByteArray), bt771.2.2)))
end Go.Proofs.Ytccgfmjcldifcaa.P
