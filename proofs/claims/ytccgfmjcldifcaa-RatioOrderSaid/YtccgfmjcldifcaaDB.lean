/- Walks of Go functions: what they compute; each theorem's conditions stand in it. -/
import Derived.Test.YtccgfmjcldifcaaT
import Derived.Test.YtccgfmjcldifcaaDA
namespace Go.Proofs.Ytccgfmjcldifcaa.P
open Go.RowKit Go.Proofs.YtccgfmjcldifcaaW.PrintWords Go.Proofs.YtccgfmjcldifcaaW.PrintLast Go.Proofs.YtccgfmjcldifcaaW.PrintMore
attribute [local go_sem] max2_int min2_int max_two min_two max_three min_three max_four min_four
set_option linter.unusedVariables false
set_option linter.unusedSimpArgs false
def corporaref36_trim.l0 : Nat → List Int → Option (List Int)
 | 0, _ => none
 | k + 1, x0 => if (x0.length : Int) > 0 then (if 0 ≤ (wrap64 ((x0.length : Int) - 1)) then (if (wrap64 ((x0.length : Int) - 1)) < (x0.length : Int) then (if (rd x0 (wrap64 ((x0.length : Int) - 1))) = 0 then (if (wrap64 ((x0.length : Int) - 1)) ≤ (x0.length : Int) then (corporaref36_trim.l0 k (x0.take ((wrap64 ((x0.length : Int) - 1)) : Int).toNat)) else (none)) else (some x0)) else (none)) else (none)) else (some x0)
def corporaref36_trim.f (k : Nat) (l0 : List Int) : Option (List Int) := corporaref36_trim.l0 k l0
mutual
def corporaref36_Big.l0 : Nat → ByteArray → List Int → Int → Option (List Int)
 | 0, _, _, _ => none
 | k + 1, x0, x3, x4 => if x4 > 0 then (corporaref36_Big.l1 k x0 x3 x4 0 (mx 0 (wrap64 (x4 - 4)))) else ((corporaref36_trim.f k x3).bind fun t354 => (some t354))
def corporaref36_Big.l1 : Nat → ByteArray → List Int → Int → Int → Int → Option (List Int)
 | 0, _, _, _, _, _ => none
 | k + 1, x0, x3, x4, x5, x6 => if x6 < x4 then (if 0 ≤ x6 then (if x6 < (x0.size : Int) then (corporaref36_Big.l1 k x0 x3 x4 (wrap64 ((wrap64 (10 * x5)) + (((bt x0 x6) - 48) % 256))) (wrap64 (x6 + 1))) else (none)) else (none)) else (if x3.length < 17592186044416 then (corporaref36_Big.l0 k x0 (x3 ++ [x5]) (wrap64 (x4 - 4))) else (none))
end
def corporaref36_Big.f (k : Nat) (a0 : ByteArray) : Option (List Int) := corporaref36_Big.l0 k a0 ([] : List Int) (a0.size : Int)
mutual
def corporaref36_Valid.j0 : Nat → ByteArray → Bool → Option (Bool)
 | 0, _, _ => none
 | k + 1, x0, x21 => if x21 = true then (some false) else (corporaref36_Valid.l0 k x0 0)
def corporaref36_Valid.l0 : Nat → ByteArray → Int → Option (Bool)
 | 0, _, _ => none
 | k + 1, x0, x3 => if x3 < (x0.size : Int) then (if 0 ≤ x3 then (if (bt x0 x3) < 48 then (some false) else (if (bt x0 x3) > 57 then (some false) else (corporaref36_Valid.l0 k x0 (wrap64 (x3 + 1))))) else (none)) else (some true)
end
def corporaref36_Valid.f (k : Nat) (a0 : ByteArray) : Option (Bool) := if (a0.size : Int) < 1 then (corporaref36_Valid.j0 k a0 true) else (if (a0.size : Int) > 20000 then (corporaref36_Valid.j0 k a0 true) else (if 0 < (a0.size : Int) then (if (bt a0 0) = 48 then (corporaref36_Valid.j0 k a0 (decide ((a0.size : Int) > 1))) else (corporaref36_Valid.j0 k a0 false)) else (none)))
def corporaref36_small.f : Nat → Int → Option (ByteArray)
 | 0, _ => none
 | k + 1, a0 => if a0 < 10 then (some (strOfNums (([(wrap64 (48 + a0)) % 256] : List Int)))) else ((corporaref36_small.f k (wrap64 (Int.tdiv a0 10))).bind fun t363 => ((some (([(wrap64 (48 + (Int.tmod a0 10))) % 256] : List Int) : List Int)).bind fun y364 => (if t363.size + (strOfNums y364).size ≤ 9223372036854775807 then (some (t363 ++ (strOfNums y364))) else (none))))
def corporaref36_Text.l0 : Nat → List Int → ByteArray → Int → Option (ByteArray)
 | 0, _, _, _ => none
 | k + 1, x0, x3, x4 => if x4 ≥ 0 then (if 0 ≤ x4 then (if x4 < (x0.length : Int) then ((corporaref36_small.f k (rd x0 x4)).bind fun t370 => (if 0 ≤ (t370.size : Int) then (if (t370.size : Int) ≤ 4 then (if ((⟨#[48, 48, 48, 48]⟩ : ByteArray).extract ((t370.size : Int) : Int).toNat (⟨#[48, 48, 48, 48]⟩ : ByteArray).size).size + t370.size ≤ 9223372036854775807 then (if x3.size + (((⟨#[48, 48, 48, 48]⟩ : ByteArray).extract ((t370.size : Int) : Int).toNat (⟨#[48, 48, 48, 48]⟩ : ByteArray).size) ++ t370).size ≤ 9223372036854775807 then (corporaref36_Text.l0 k x0 (x3 ++ (((⟨#[48, 48, 48, 48]⟩ : ByteArray).extract ((t370.size : Int) : Int).toNat (⟨#[48, 48, 48, 48]⟩ : ByteArray).size) ++ t370)) (wrap64 (x4 - 1))) else (none)) else (none)) else (none)) else (none))) else (none)) else (none)) else (some x3)
def corporaref36_Text.f (k : Nat) (l0 : List Int) : Option (ByteArray) := if (l0.length : Int) = 0 then (some (⟨#[48]⟩ : ByteArray)) else (if 0 ≤ (wrap64 ((l0.length : Int) - 1)) then (if (wrap64 ((l0.length : Int) - 1)) < (l0.length : Int) then ((corporaref36_small.f k (rd l0 (wrap64 ((l0.length : Int) - 1)))).bind fun t368 => (corporaref36_Text.l0 k l0 t368 (wrap64 ((l0.length : Int) - 2)))) else (none)) else (none))
def corporaref36_done.f (k : Nat) (l0 : List Int) : Option (ByteArray × Int) := (corporaref36_Text.f k l0).bind fun t371 => (if (t371.size : Int) > 20000 then (some ((⟨#[]⟩ : ByteArray), 2)) else (some (t371, 0)))
mutual
def corporaref36_Times.l0 : Nat → List Int → List Int → List Int → Int → Int → Option (List Int)
 | 0, _, _, _, _, _ => none
 | k + 1, x1, x5, x21, x22, x23 => if x23 < x22 then (if 0 ≤ x23 then (if x23 < (x21.length : Int) then (corporaref36_Times.l1 k x1 x5 x23 (rd x21 x23) 0 x21 x22 x23 x1 (x1.length : Int) 0) else (none)) else (none)) else ((corporaref36_trim.f k x5).bind fun t375 => (some t375))
def corporaref36_Times.l1 : Nat → List Int → List Int → Int → Int → Int → List Int → Int → Int → List Int → Int → Int → Option (List Int)
 | 0, _, _, _, _, _, _, _, _, _, _, _ => none
 | k + 1, x1, x5, x6, x7, x8, x21, x22, x23, x28, x29, x30 => if x30 < x29 then (if 0 ≤ x30 then (if x30 < (x28.length : Int) then (if 0 ≤ (wrap64 (x6 + x30)) then (if (wrap64 (x6 + x30)) < (x5.length : Int) then (corporaref36_Times.l1 k x1 (x5.set ((wrap64 (x6 + x30)) : Int).toNat (Int.tmod (wrap64 ((wrap64 ((rd x5 (wrap64 (x6 + x30))) + (wrap64 (x7 * (rd x28 x30))))) + x8)) 10000)) x6 x7 (wrap64 (Int.tdiv (wrap64 ((wrap64 ((rd x5 (wrap64 (x6 + x30))) + (wrap64 (x7 * (rd x28 x30))))) + x8)) 10000)) x21 x22 x23 x28 x29 (wrap64 (x30 + 1))) else (none)) else (none)) else (none)) else (none)) else (corporaref36_Times.l2 k x1 x5 x8 (wrap64 (x6 + (x1.length : Int))) x21 x22 x23)
def corporaref36_Times.l2 : Nat → List Int → List Int → Int → Int → List Int → Int → Int → Option (List Int)
 | 0, _, _, _, _, _, _, _ => none
 | k + 1, x1, x5, x8, x12, x21, x22, x23 => if x8 > 0 then (if 0 ≤ x12 then (if x12 < (x5.length : Int) then (corporaref36_Times.l2 k x1 (x5.set (x12 : Int).toNat (Int.tmod (wrap64 ((rd x5 x12) + x8)) 10000)) (wrap64 (Int.tdiv (wrap64 ((rd x5 x12) + x8)) 10000)) (wrap64 (x12 + 1)) x21 x22 x23) else (none)) else (none)) else (corporaref36_Times.l0 k x1 x5 x21 x22 (wrap64 (x23 + 1)))
end
def corporaref36_Times.f (k : Nat) (l0 : List Int) (l1 : List Int) : Option (List Int) := if 0 ≤ (wrap64 ((wrap64 ((l0.length : Int) + (l1.length : Int))) + 1)) then (if (wrap64 ((wrap64 ((l0.length : Int) + (l1.length : Int))) + 1) : Int).toNat ≤ 35184372088832 then (corporaref36_Times.l0 k l1 (List.replicate (wrap64 ((wrap64 ((l0.length : Int) + (l1.length : Int))) + 1) : Int).toNat 0) l0 (l0.length : Int) 0) else (none)) else (none)
def corporaref36_Less.l0 : Nat → List Int → List Int → Int → Option (Int)
 | 0, _, _, _ => none
 | k + 1, x0, x1, x5 => if x5 ≥ 0 then (if 0 ≤ x5 then (if x5 < (x0.length : Int) then (if x5 < (x1.length : Int) then (if (rd x0 x5) = (rd x1 x5) then (corporaref36_Less.l0 k x0 x1 (wrap64 (x5 - 1))) else (if (rd x0 x5) < (rd x1 x5) then (some (-1)) else (some 1))) else (none)) else (none)) else (none)) else (some 0)
def corporaref36_Less.f (k : Nat) (l0 : List Int) (l1 : List Int) : Option (Int) := if (l0.length : Int) = (l1.length : Int) then (corporaref36_Less.l0 k l0 l1 (wrap64 ((l0.length : Int) - 1))) else (if (l0.length : Int) < (l1.length : Int) then (some (-1)) else (some 1))
def corporaref36_Minus.l0 : Nat → List Int → List Int → List Int → Int → Int → Int → Option (List Int)
 | 0, _, _, _, _, _, _ => none
 | k + 1, x0, x1, x5, x6, x10, x11 => if x11 < x10 then (if 0 ≤ x11 then (if x11 < (x0.length : Int) then (if x11 < (x1.length : Int) then (if (wrap64 ((wrap64 ((rd x0 x11) - x6)) - (rd x1 x11))) < 0 then (if x5.length < 17592186044416 then (corporaref36_Minus.l0 k x0 x1 (x5 ++ [wrap64 ((wrap64 ((wrap64 ((rd x0 x11) - x6)) - (rd x1 x11))) + 10000)]) 1 x10 (wrap64 (x11 + 1))) else (none)) else (if x5.length < 17592186044416 then (corporaref36_Minus.l0 k x0 x1 (x5 ++ [wrap64 ((wrap64 ((rd x0 x11) - x6)) - (rd x1 x11))]) 0 x10 (wrap64 (x11 + 1))) else (none))) else (if (wrap64 ((rd x0 x11) - x6)) < 0 then (if x5.length < 17592186044416 then (corporaref36_Minus.l0 k x0 x1 (x5 ++ [wrap64 ((wrap64 ((rd x0 x11) - x6)) + 10000)]) 1 x10 (wrap64 (x11 + 1))) else (none)) else (if x5.length < 17592186044416 then (corporaref36_Minus.l0 k x0 x1 (x5 ++ [wrap64 ((rd x0 x11) - x6)]) 0 x10 (wrap64 (x11 + 1))) else (none)))) else (none)) else (none)) else ((corporaref36_trim.f k x5).bind fun t388 => (some t388))
def corporaref36_Minus.f (k : Nat) (l0 : List Int) (l1 : List Int) : Option (List Int) := corporaref36_Minus.l0 k l0 l1 ([] : List Int) 0 (l0.length : Int) 0
def corporaref36_Of64.l0 : Nat → Int → List Int → Option (List Int)
 | 0, _, _ => none
 | k + 1, x0, x3 => if x0 > 0 then (if x3.length < 17592186044416 then (corporaref36_Of64.l0 k (IntKind.u64.wrap (Int.tdiv x0 10000)) (x3 ++ [wrap64 (Int.tmod x0 10000)])) else (none)) else (some x3)
def corporaref36_Of64.f (k : Nat) (a0 : Int) : Option (List Int) := corporaref36_Of64.l0 k a0 ([] : List Int)
mutual
def corporaref36_Divide.l0 : Nat → List Int → List Int → List Int → List Int → Int → Option (List Int × List Int)
 | 0, _, _, _, _, _ => none
 | k + 1, x0, x1, x6, x7, x8 => if x8 ≥ 0 then (if 0 ≤ x8 then (if x8 < (x0.length : Int) then ((some (([rd x0 x8] : List Int) : List Int)).bind fun y415 => (if y415.length + x7.length < 17592186044416 then ((corporaref36_trim.f k (y415 ++ x7)).bind fun t421 => (corporaref36_Divide.l1 k x0 x1 x6 t421 x8 0 10000)) else (none))) else (none)) else (none)) else ((corporaref36_trim.f k x6).bind fun t411 => (some (t411, x7)))
def corporaref36_Divide.l1 : Nat → List Int → List Int → List Int → List Int → Int → Int → Int → Option (List Int × List Int)
 | 0, _, _, _, _, _, _, _ => none
 | k + 1, x0, x1, x6, x7, x8, x9, x10 => if (wrap64 (x10 - x9)) > 1 then ((corporaref36_Of64.f k (IntKind.u64.wrap (wrap64 (Int.tdiv (wrap64 (x9 + x10)) 2)))).bind fun t434 => ((corporaref36_Times.f k x1 t434).bind fun t437 => ((corporaref36_Less.f k t437 x7).bind fun t440 => (if t440 ≤ 0 then (corporaref36_Divide.l1 k x0 x1 x6 x7 x8 (wrap64 (Int.tdiv (wrap64 (x9 + x10)) 2)) x10) else (corporaref36_Divide.l1 k x0 x1 x6 x7 x8 x9 (wrap64 (Int.tdiv (wrap64 (x9 + x10)) 2))))))) else (if 0 ≤ x8 then (if x8 < (x6.length : Int) then ((corporaref36_Of64.f k (IntKind.u64.wrap (x9))).bind fun t425 => ((corporaref36_Times.f k x1 t425).bind fun t428 => ((corporaref36_Minus.f k x7 t428).bind fun t431 => (corporaref36_Divide.l0 k x0 x1 (x6.set (x8 : Int).toNat x9) t431 (wrap64 (x8 - 1)))))) else (none)) else (none))
end
def corporaref36_Divide.f (k : Nat) (l0 : List Int) (l1 : List Int) : Option (List Int × List Int) := if 0 ≤ (l0.length : Int) then (if ((l0.length : Int) : Int).toNat ≤ 35184372088832 then (corporaref36_Divide.l0 k l0 l1 (List.replicate ((l0.length : Int) : Int).toNat 0) ([] : List Int) (wrap64 ((l0.length : Int) - 1))) else (none)) else (none)
def corporaref36_Gcd.l0 : Nat → List Int → List Int → Option (List Int)
 | 0, _, _ => none
 | k + 1, x0, x1 => if (x1.length : Int) > 0 then ((corporaref36_Divide.f k x0 x1).bind fun bt441 => (corporaref36_Gcd.l0 k x1 bt441.2)) else (some x0)
def corporaref36_Gcd.f (k : Nat) (l0 : List Int) (l1 : List Int) : Option (List Int) := corporaref36_Gcd.l0 k l0 l1
def corporaref36_Lowest.f (k : Nat) (a0 : Bool) (l1 : List Int) (l2 : List Int) : Option (Bool × ByteArray × ByteArray × Int) := if (l1.length : Int) = 0 then (some (false, (⟨#[48]⟩ : ByteArray), (⟨#[49]⟩ : ByteArray), 0)) else ((corporaref36_Gcd.f k l1 l2).bind fun t448 => ((corporaref36_Divide.f k l1 t448).bind fun bt451 => ((corporaref36_Divide.f k l2 t448).bind fun bt457 => ((corporaref36_done.f k bt451.1).bind fun bt463 => ((corporaref36_done.f k bt457.1).bind fun bt465 => (if bt463.2 = 0 then (if bt465.2 = 0 then (some (a0, bt463.1, bt465.1, 0)) else (some (false, (⟨#[]⟩ : ByteArray), (⟨#[]⟩ : ByteArray), 2))) else (some (false, (⟨#[]⟩ : ByteArray), (⟨#[]⟩ : ByteArray), 2))))))))
def corporaref36_Of.j0 : Nat → Bool → ByteArray → ByteArray → Bool → Option (Bool × ByteArray × ByteArray × Int)
 | 0, _, _, _, _ => none
 | k + 1, x0, x1, x2, x15 => if x15 = true then (some (false, (⟨#[]⟩ : ByteArray), (⟨#[]⟩ : ByteArray), 1)) else (if x2.toList = ([48] : List UInt8) then (some (false, (⟨#[]⟩ : ByteArray), (⟨#[]⟩ : ByteArray), 25)) else ((corporaref36_Big.f k x1).bind fun t470 => ((corporaref36_Big.f k x2).bind fun t473 => ((corporaref36_Lowest.f k x0 t470 t473).bind fun bt476 => (some (bt476.1, bt476.2.1, bt476.2.2.1, bt476.2.2.2))))))
def corporaref36_Of.f (k : Nat) (a0 : Bool) (a1 : ByteArray) (a2 : ByteArray) : Option (Bool × ByteArray × ByteArray × Int) := (corporaref36_Valid.f k a1).bind fun t468 => (if t468 = true then ((corporaref36_Valid.f k a2).bind fun t469 => (corporaref36_Of.j0 k a0 a1 a2 (!t469))) else (corporaref36_Of.j0 k a0 a1 a2 true))
def corporalaw36_some.f (k : Nat) (l0 : List Int) : Option (Bool × ByteArray × ByteArray) := (corporamade_New.f l0).bind fun bt969 => ((corporamade_Tape_Next.f bt969.1 bt969.2 2).bind fun bt972 => ((corporamade_Tape_Natural.f k bt969.1 bt972.2 20).bind fun bt974 => ((corporamade_Tape_Natural.f k bt969.1 bt974.2 20).bind fun bt976 => ((corporaref36_Of.f k (bt972.1 == 1) bt974.1 bt976.1).bind fun bt978 => (if bt978.2.2.2 = 0 then (some (bt978.1, bt978.2.1, bt978.2.2.1)) else (some (false, (⟨#[48]⟩ : ByteArray), (⟨#[49]⟩ : ByteArray))))))))
end Go.Proofs.Ytccgfmjcldifcaa.P
