/- Walks of Go functions: what they compute; each theorem's conditions stand in it. -/
import Derived.Test.YtccgfmjcldifcaaT
import Derived.Test.YtccgfmjcldifcaaDA
import Derived.Test.YtccgfmjcldifcaaDB
import Derived.Test.YtccgfmjcldifcaaDF
namespace Go.Proofs.Ytccgfmjcldifcaa.P
open Go.RowKit Go.Proofs.YtccgfmjcldifcaaW.PrintWords Go.Proofs.YtccgfmjcldifcaaW.PrintLast Go.Proofs.YtccgfmjcldifcaaW.PrintMore
set_option linter.unusedVariables false
set_option linter.unusedSimpArgs false
mutual
def corporalaw37_some.j0 : Nat → Bool → ByteArray → ByteArray → Bool → List Int → Int → Option (Bool × ByteArray × ByteArray × Int)
 | 0, _, _, _, _, _, _ => none
 | k + 1, x1, x5, x6, x17, x1000, x1001 => if x17 = true then (corporalaw37_some.j1 k x1 (⟨#[49]⟩ : ByteArray) x6 x1000 x1001) else (corporalaw37_some.j1 k x1 x5 x6 x1000 x1001)
def corporalaw37_some.j1 : Nat → Bool → ByteArray → ByteArray → List Int → Int → Option (Bool × ByteArray × ByteArray × Int)
 | 0, _, _, _, _, _ => none
 | k + 1, x1, x5, x6, x1000, x1001 => if x6.toList = ([48] : List UInt8) then (if x1 = true then ((corporaref36_Of.f k false x5 (⟨#[49]⟩ : ByteArray)).bind fun bt485 => (some (bt485.1, bt485.2.1, bt485.2.2.1, x1001))) else ((corporamade_Tape_Next.f x1000 x1001 2).bind fun bt490 => ((corporaref36_Of.f k (bt490.1 == 1) x5 (⟨#[49]⟩ : ByteArray)).bind fun bt492 => (some (bt492.1, bt492.2.1, bt492.2.2.1, bt490.2))))) else (if x1 = true then ((corporaref36_Of.f k false x5 x6).bind fun bt497 => (some (bt497.1, bt497.2.1, bt497.2.2.1, x1001))) else ((corporamade_Tape_Next.f x1000 x1001 2).bind fun bt502 => ((corporaref36_Of.f k (bt502.1 == 1) x5 x6).bind fun bt504 => (some (bt504.1, bt504.2.1, bt504.2.2.1, bt502.2)))))
end
def corporalaw37_some.f (k : Nat) (s0_0 : List Int) (s0_1 : Int) (a1 : Bool) : Option (Bool × ByteArray × ByteArray × Int) := (corporamade_Tape_Natural.f k s0_0 s0_1 6).bind fun bt481 => ((corporamade_Tape_Natural.f k s0_0 bt481.2 6).bind fun bt483 => (if a1 = true then (corporalaw37_some.j0 k a1 bt481.1 bt483.1 (bt481.1.toList == ([48] : List UInt8)) s0_0 bt483.2) else (corporalaw37_some.j0 k a1 bt481.1 bt483.1 false s0_0 bt483.2)))
def ratio_IsRatio.j0 : Nat → List Int → List Int → Bool → Option (Bool)
 | 0, _, _, _ => none
 | k + 1, x3, x4, x30 => if x30 = true then (some false) else ((bignat_Gcd.f k x3 x4).bind fun t517 => ((bignat_Of.f k 1).bind fun t520 => ((bignat_Nat_Cmp.f k t517 t520).bind fun t523 => (some (t523 == 0)))))
def ratio_IsRatio.f (k : Nat) (a0_0 : Bool) (a0_1 : ByteArray) (a0_2 : ByteArray) : Option (Bool) := (ratio_both.f k a0_1 a0_2).bind fun bt510 => (if bt510.2.2 = true then (if (bt510.2.1.length : Int) = 0 then (ratio_IsRatio.j0 k bt510.1 bt510.2.1 true) else (if a0_0 = true then (ratio_IsRatio.j0 k bt510.1 bt510.2.1 ((bt510.1.length : Int) == 0)) else (ratio_IsRatio.j0 k bt510.1 bt510.2.1 false))) else (ratio_IsRatio.j0 k bt510.1 bt510.2.1 true))
mutual
def ratio_NatPower.j0 : Nat → ByteArray → Int → Bool → Option (ByteArray × Int)
 | 0, _, _, _ => none
 | k + 1, x0, x1, x15 => if x15 = true then (some ((⟨#[]⟩ : ByteArray), 1)) else (if x1 = 0 then (ratio_NatPower.j1 k x0 x1 true) else (ratio_NatPower.j1 k x0 x1 (x0.toList == ([49] : List UInt8))))
def ratio_NatPower.j1 : Nat → ByteArray → Int → Bool → Option (ByteArray × Int)
 | 0, _, _, _ => none
 | k + 1, x0, x1, x21 => if x21 = true then (some ((⟨#[49]⟩ : ByteArray), 0)) else (if x0.toList = ([48] : List UInt8) then (some ((⟨#[48]⟩ : ByteArray), 0)) else ((bignat_Parse.f k x0).bind fun t563 => ((bignat_Nat_Bits.f t563).bind fun t566 => (if (wrap64 (t566 - 1)) = 0 then (none) else (if x1 > (wrap64 (Int.tdiv (80000 : Int) (wrap64 (t566 - 1)))) then (some ((⟨#[]⟩ : ByteArray), 2)) else ((bignat_Of.f k 1).bind fun t567 => (ratio_NatPower.l0 k x1 t563 t567 1048576)))))))
def ratio_NatPower.l0 : Nat → Int → List Int → List Int → Int → Option (ByteArray × Int)
 | 0, _, _, _, _ => none
 | k + 1, x1, x6, x7, x8 => if x8 > 0 then ((bignat_Nat_Mul.f k x7 x7).bind fun t572 => (if (Go.bits .and .i64 x1 x8) = 0 then (ratio_NatPower.l0 k x1 x6 t572 (x8 / 2)) else ((bignat_Nat_Mul.f k t572 x6).bind fun t575 => (ratio_NatPower.l0 k x1 x6 t575 (x8 / 2))))) else ((ratio_text.f k x7).bind fun bt570 => (some (bt570.1, bt570.2)))
end
def ratio_NatPower.f (k : Nat) (a0 : ByteArray) (a1 : Int) : Option (ByteArray × Int) := (ratio_Valid.f k a0).bind fun t562 => (if t562 = true then (ratio_NatPower.j0 k a0 a1 (decide (a1 < 0))) else (ratio_NatPower.j0 k a0 a1 true))
def enclose_power.f (k : Nat) (a0 : ByteArray) (a1 : Int) : Option (List Int) := if 0 ≤ (IntKind.u64.wrap (a1)) then ((ratio_NatPower.f k a0 (shl .i64 1 (IntKind.u64.wrap (a1)))).bind fun bt578 => (if bt578.2 = 0 then (bignat_Parse.f k bt578.1) else (none))) else (none)
def enclose_times.f (k : Nat) (l0 : List Int) (l1 : List Int) (a2 : Int) : Option (Int) := if a2 < 0 then ((bignat_Nat_Shift.f k l0 (wrap64 (-a2))).bind fun t578 => ((bignat_Nat_Cmp.f k l1 t578).bind fun t581 => (some t581))) else ((bignat_Nat_Shift.f k l1 a2).bind fun t582 => ((bignat_Nat_Cmp.f k t582 l0).bind fun t585 => (some t585)))
def enclose_Log.j0 : Nat → Int → Bool → Bool → ByteArray → ByteArray → Option (Int × Bool × Int)
 | 0, _, _, _, _, _ => none
 | k + 1, x1, x29, x592000, x592001, x592002 => if x29 = true then (some (0, false, 1)) else ((enclose_power.f k x592001 x1).bind fun t593 => ((enclose_power.f k x592002 x1).bind fun t596 => ((bignat_Nat_Bits.f t593).bind fun t599 => ((bignat_Nat_Bits.f t596).bind fun t600 => ((enclose_times.f k t593 t596 (wrap64 (t599 - t600))).bind fun t601 => (if t601 > 0 then ((enclose_times.f k t593 t596 (wrap64 ((wrap64 (t599 - t600)) - 1))).bind fun t602 => (some (wrap64 ((wrap64 (t599 - t600)) - 1), (t602 == 0), 0))) else (some (wrap64 (t599 - t600), (t601 == 0), 0))))))))
def enclose_Log.f (k : Nat) (a0_0 : Bool) (a0_1 : ByteArray) (a0_2 : ByteArray) (a1 : Int) : Option (Int × Bool × Int) := (ratio_IsRatio.f k a0_0 a0_1 a0_2).bind fun t592 => (if t592 = true then (if a0_0 = true then (enclose_Log.j0 k a1 true a0_0 a0_1 a0_2) else (if a0_1.toList = ([48] : List UInt8) then (enclose_Log.j0 k a1 true a0_0 a0_1 a0_2) else (if a1 < 0 then (enclose_Log.j0 k a1 true a0_0 a0_1 a0_2) else (enclose_Log.j0 k a1 (decide (a1 > 8)) a0_0 a0_1 a0_2)))) else (enclose_Log.j0 k a1 true a0_0 a0_1 a0_2))
def corporalaw37_known.f (k : Nat)  : Option (Bool) := (enclose_Log.f k false (⟨#[51]⟩ : ByteArray) (⟨#[49]⟩ : ByteArray) 4).bind fun bt586 => ((enclose_Log.f k false (⟨#[56]⟩ : ByteArray) (⟨#[49]⟩ : ByteArray) 2).bind fun bt589 => (if bt586.2.2 = 0 then (if bt586.1 = 25 then (if bt586.2.1 = true then (some false) else (if bt589.2.2 = 0 then (if bt589.1 = 12 then (some bt589.2.1) else (some false)) else (some false))) else (some false)) else (some false)))
def enclose_unit.f (k : Nat) (a0 : Int) (a1 : Int) : Option (Bool × ByteArray × ByteArray) := if 0 ≤ (IntKind.u64.wrap (a1)) then ((ratio_Make.f k a0 (shl .i64 1 (IntKind.u64.wrap (a1)))).bind fun bt734 => (some (bt734.1, bt734.2.1, bt734.2.2.1))) else (none)
def enclose_Bits.f (k : Nat) (a0_0 : Bool) (a0_1 : ByteArray) (a0_2 : ByteArray) (a1 : Int) : Option (Bool × ByteArray × ByteArray × Bool × ByteArray × ByteArray × Int) := (enclose_Log.f k a0_0 a0_1 a0_2 a1).bind fun bt741 => (if bt741.2.2 = 0 then (if bt741.2.1 = true then ((enclose_unit.f k bt741.1 a1).bind fun bt744 => ((enclose_unit.f k bt741.1 a1).bind fun bt747 => (some (bt744.1, bt744.2.1, bt744.2.2, bt747.1, bt747.2.1, bt747.2.2, 0)))) else ((enclose_unit.f k bt741.1 a1).bind fun bt750 => ((enclose_unit.f k (wrap64 (bt741.1 + 1)) a1).bind fun bt753 => (some (bt750.1, bt750.2.1, bt750.2.2, bt753.1, bt753.2.1, bt753.2.2, 0))))) else (some (false, (⟨#[]⟩ : ByteArray), (⟨#[]⟩ : ByteArray), false, (⟨#[]⟩ : ByteArray), (⟨#[]⟩ : ByteArray), bt741.2.2)))
end Go.Proofs.Ytccgfmjcldifcaa.P
