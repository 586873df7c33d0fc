/- What each Go function computes, as plain Lean functions, and the walks that show it; each theorem's conditions stand in it. -/
import Derived.Test.YtccgfmjcldifcaaT
namespace Go.Proofs.Ytccgfmjcldifcaa.P
open Go.RowKit Go.Proofs.YtccgfmjcldifcaaW.PrintWords Go.Proofs.YtccgfmjcldifcaaW.PrintLast Go.Proofs.YtccgfmjcldifcaaW.PrintMore
attribute [local go_sem] max2_int min2_int max_two min_two max_three min_three max_four min_four   -- for this text's walks alone
set_option linter.unusedVariables false
set_option linter.unusedSimpArgs false

/-! ### corporamade_New: function 23 -/
def corporamade_New.f (l0 : List Int) : Option (List Int × Int) := if (l0.length : Int) > 120 then (if 120 ≤ (l0.length : Int) then (some (l0.take 120, 0)) else (none)) else (some (l0, 0))

/-! ### corporamade_Mod: function 25 -/
def corporamade_Mod.f (a0 : Int) (a1 : Int) : Option (Int) := if a1 < 1 then (some 0) else (if a1 = 0 then (none) else (if (Int.tmod a0 a1) < 0 then (some (wrap64 ((Int.tmod a0 a1) + a1))) else (some (Int.tmod a0 a1))))

/-! ### corporamade_Tape_Next: function 53 -/
def corporamade_Tape_Next.f (s0_0 : List Int) (s0_1 : Int) (a1 : Int) : Option (Int × Int) := if s0_1 ≥ (s0_0.length : Int) then (some (0, s0_1)) else (if 0 ≤ (wrap64 ((wrap64 (s0_1 + 1)) - 1)) then (if (wrap64 ((wrap64 (s0_1 + 1)) - 1)) < (s0_0.length : Int) then ((corporamade_Mod.f (rd s0_0 (wrap64 ((wrap64 (s0_1 + 1)) - 1))) a1).bind fun t105 => (some (t105, wrap64 (s0_1 + 1)))) else (none)) else (none))

/-! ### corporamade_Tape_Natural: function 72 -/
mutual
def corporamade_Tape_Natural.l0 : Nat → ByteArray → Int → List Int → Int → Option (ByteArray × Int)
  | 0, _, _, _, _ => none
  | k + 1, x5, x6, x1000, x1001 => if x6 > 0 then ((corporamade_Tape_Next.f x1000 x1001 10).bind fun bt108 => (if 0 ≤ bt108.1 then (if bt108.1 ≤ 10 then (if 0 ≤ 1 then (if 1 ≤ (((⟨#[48, 49, 50, 51, 52, 53, 54, 55, 56, 57]⟩ : ByteArray).extract (bt108.1 : Int).toNat (⟨#[48, 49, 50, 51, 52, 53, 54, 55, 56, 57]⟩ : ByteArray).size).size : Int) then (if x5.size + (((⟨#[48, 49, 50, 51, 52, 53, 54, 55, 56, 57]⟩ : ByteArray).extract (bt108.1 : Int).toNat (⟨#[48, 49, 50, 51, 52, 53, 54, 55, 56, 57]⟩ : ByteArray).size).extract 0 1).size ≤ 9223372036854775807 then (corporamade_Tape_Natural.l0 k (x5 ++ (((⟨#[48, 49, 50, 51, 52, 53, 54, 55, 56, 57]⟩ : ByteArray).extract (bt108.1 : Int).toNat (⟨#[48, 49, 50, 51, 52, 53, 54, 55, 56, 57]⟩ : ByteArray).size).extract 0 1)) (wrap64 (x6 - 1)) x1000 bt108.2) else (none)) else (none)) else (none)) else (none)) else (none))) else (corporamade_Tape_Natural.l1 k x5 x1000 x1001)
def corporamade_Tape_Natural.l1 : Nat → ByteArray → List Int → Int → Option (ByteArray × Int)
  | 0, _, _, _ => none
  | k + 1, x5, x1000, x1001 => if (x5.size : Int) > 1 then (if 0 < (x5.size : Int) then (if (bt x5 0) = 48 then (if 1 ≤ (x5.size : Int) then (corporamade_Tape_Natural.l1 k (x5.extract 1 x5.size) x1000 x1001) else (none)) else (some (x5, x1001))) else (none)) else (some (x5, x1001))
end
def corporamade_Tape_Natural.f (k : Nat) (s0_0 : List Int) (s0_1 : Int) (a1 : Int) : Option (ByteArray × Int) := (corporamade_Tape_Next.f s0_0 s0_1 a1).bind fun bt106 => (corporamade_Tape_Natural.l0 k (⟨#[]⟩ : ByteArray) (wrap64 (1 + bt106.1)) s0_0 bt106.2)
/-! ### corporalaw36_natural: function 17 -/
def corporalaw36_natural.f (k : Nat) (l0 : List Int) : Option (ByteArray) := (corporamade_New.f l0).bind fun bt110 => ((corporamade_Tape_Natural.f k bt110.1 bt110.2 60).bind fun bt113 => (some bt113.1))
/-! ### ratio_Valid: function 80 -/
mutual
def ratio_Valid.j0 : Nat → ByteArray → Bool → Option (Bool)
  | 0, _, _ => none
  | k + 1, x0, x21 => if x21 = true then (some false) else (ratio_Valid.l0 k x0 0)
def ratio_Valid.l0 : Nat → ByteArray → Int → Option (Bool)
  | 0, _, _ => none
  | k + 1, x0, x3 => if x3 < (x0.size : Int) then (if 0 ≤ x3 then (if (bt x0 x3) < 48 then (some false) else (if (bt x0 x3) > 57 then (some false) else (ratio_Valid.l0 k x0 (wrap64 (x3 + 1))))) else (none)) else (some true)
end
def ratio_Valid.f (k : Nat) (a0 : ByteArray) : Option (Bool) := if (a0.size : Int) = 0 then (ratio_Valid.j0 k a0 true) else (if (a0.size : Int) > 20000 then (ratio_Valid.j0 k a0 true) else (if (a0.size : Int) > 1 then (if 0 < (a0.size : Int) then (ratio_Valid.j0 k a0 ((bt a0 0) == 48)) else (none)) else (ratio_Valid.j0 k a0 false)))
/-! ### bignat_Parse: function 113 -/
mutual
def bignat_Parse.l0 : Nat → ByteArray → List Int → Int → Option (List Int)
  | 0, _, _, _ => none
  | k + 1, x0, x3, x4 => if x4 < (x0.size : Int) then (bignat_Parse.l1 k x0 x3 x4 0 1) else (some x3)
def bignat_Parse.j2 : Nat → ByteArray → List Int → Int → Int → Int → Option (List Int)
  | 0, _, _, _, _, _ => none
  | k + 1, x0, x3, x4, x5, x6 => bignat_Parse.l2 k x0 x3 x4 x5 x6 (x3.length : Int) 0
def bignat_Parse.l2 : Nat → ByteArray → List Int → Int → Int → Int → Int → Int → Option (List Int)
  | 0, _, _, _, _, _, _, _ => none
  | k + 1, x0, x3, x4, x5, x6, x33, x34 => if x34 < x33 then (if 0 ≤ x34 then (if x34 < (x3.length : Int) then (bignat_Parse.l2 k x0 (x3.set (x34 : Int).toNat ((IntKind.u64.wrap (x5 + (IntKind.u64.wrap ((IntKind.u64.wrap (rd x3 x34)) * x6)))) % 4294967296)) x4 ((IntKind.u64.wrap (x5 + (IntKind.u64.wrap ((IntKind.u64.wrap (rd x3 x34)) * x6)))) / 4294967296) x6 x33 (wrap64 (x34 + 1))) else (none)) else (none)) else (if x5 > 0 then (if x3.length < 35184372088832 then (bignat_Parse.l0 k x0 (x3 ++ [(x5) % 4294967296]) x4) else (none)) else (bignat_Parse.l0 k x0 x3 x4))
def bignat_Parse.l1 : Nat → ByteArray → List Int → Int → Int → Int → Option (List Int)
  | 0, _, _, _, _, _ => none
  | k + 1, x0, x3, x4, x5, x6 => if x4 < (x0.size : Int) then (if x6 < 1000000000 then (if 0 ≤ x4 then (bignat_Parse.l1 k x0 x3 (wrap64 (x4 + 1)) (IntKind.u64.wrap ((IntKind.u64.wrap (10 * x5)) + (((bt x0 x4) - 48) % 256))) (IntKind.u64.wrap (10 * x6))) else (none)) else (bignat_Parse.j2 k x0 x3 x4 x5 x6)) else (bignat_Parse.j2 k x0 x3 x4 x5 x6)
end
def bignat_Parse.f (k : Nat) (a0 : ByteArray) : Option (List Int) := bignat_Parse.l0 k a0 ([] : List Int) 0
/-! ### ratio_both: function 73 -/
def ratio_both.j0 : Nat → ByteArray → ByteArray → Bool → Option (List Int × List Int × Bool)
  | 0, _, _, _ => none
  | k + 1, x0, x1, x14 => if x14 = true then (some (([] : List Int), ([] : List Int), false)) else ((bignat_Parse.f k x0).bind fun t122 => ((bignat_Parse.f k x1).bind fun t125 => (some (t122, t125, true))))
def ratio_both.f (k : Nat) (a0 : ByteArray) (a1 : ByteArray) : Option (List Int × List Int × Bool) := (ratio_Valid.f k a0).bind fun t120 => (if t120 = true then ((ratio_Valid.f k a1).bind fun t121 => (ratio_both.j0 k a0 a1 (!t121))) else (ratio_both.j0 k a0 a1 true))
/-! ### bignat_Nat_Cmp: function 94 -/
def bignat_Nat_Cmp.l0 : Nat → List Int → List Int → Int → Option (Int)
  | 0, _, _, _ => none
  | k + 1, x0, x1, x5 => if x5 ≥ 0 then (if 0 ≤ x5 then (if x5 < (x0.length : Int) then (if x5 < (x1.length : Int) then (if (rd x0 x5) = (rd x1 x5) then (bignat_Nat_Cmp.l0 k x0 x1 (wrap64 (x5 - 1))) else (if (rd x0 x5) < (rd x1 x5) then (some (-1)) else (some 1))) else (none)) else (none)) else (none)) else (some 0)
def bignat_Nat_Cmp.f (k : Nat) (l0 : List Int) (l1 : List Int) : Option (Int) := if (l0.length : Int) = (l1.length : Int) then (bignat_Nat_Cmp.l0 k l0 l1 (wrap64 ((l0.length : Int) - 1))) else (if (l0.length : Int) < (l1.length : Int) then (some (-1)) else (some 1))
/-! ### bignat_norm: function 119 -/
def bignat_norm.l0 : Nat → List Int → Option (List Int)
  | 0, _ => none
  | k + 1, x0 => if (x0.length : Int) > 0 then (if 0 ≤ (wrap64 ((x0.length : Int) - 1)) then (if (wrap64 ((x0.length : Int) - 1)) < (x0.length : Int) then (if (rd x0 (wrap64 ((x0.length : Int) - 1))) = 0 then (if (wrap64 ((x0.length : Int) - 1)) ≤ (x0.length : Int) then (bignat_norm.l0 k (x0.take ((wrap64 ((x0.length : Int) - 1)) : Int).toNat)) else (none)) else (some x0)) else (none)) else (none)) else (some x0)
def bignat_norm.f (k : Nat) (l0 : List Int) : Option (List Int) := bignat_norm.l0 k l0
/-! ### bignat_Of: function 106 -/
def bignat_Of.f (k : Nat) (a0 : Int) : Option (List Int) := (bignat_norm.f k (([(a0) % 4294967296, (a0 / 4294967296) % 4294967296] : List Int))).bind fun t141 => (some t141)
/-! ### bignat_Nat_Small: function 114 -/
def bignat_Nat_Small.l0 : Nat → List Int → Int → List Int → Int → Int → Option (List Int × Int)
  | 0, _, _, _, _, _ => none
  | k + 1, x0, x1, x6, x7, x8 => if x8 ≥ 0 then (if 0 ≤ x8 then (if x8 < (x0.length : Int) then (if (IntKind.u64.wrap (x1)) = 0 then (none) else (if x8 < (x6.length : Int) then (bignat_Nat_Small.l0 k x0 x1 (x6.set (x8 : Int).toNat ((IntKind.u64.wrap (Int.tdiv (Go.bits .or .u64 (IntKind.u64.wrap (x7 * 4294967296)) (IntKind.u64.wrap (rd x0 x8))) (IntKind.u64.wrap (x1)))) % 4294967296)) (Int.tmod (Go.bits .or .u64 (IntKind.u64.wrap (x7 * 4294967296)) (IntKind.u64.wrap (rd x0 x8))) (IntKind.u64.wrap (x1))) (wrap64 (x8 - 1))) else (none))) else (none)) else (none)) else ((bignat_norm.f k x6).bind fun t149 => (some (t149, (x7) % 4294967296)))
def bignat_Nat_Small.f (k : Nat) (l0 : List Int) (a1 : Int) : Option (List Int × Int) := if 0 ≤ (l0.length : Int) then (if ((l0.length : Int) : Int).toNat ≤ 70368744177664 then (bignat_Nat_Small.l0 k l0 a1 (List.replicate ((l0.length : Int) : Int).toNat 0) 0 (wrap64 ((l0.length : Int) - 1))) else (none)) else (none)
/-! ### bits_LeadingZeros32: function 115 -/
def bits_LeadingZeros32.f (a0 : Int) : Option Int := if 0 ≤ a0 ∧ a0 ≤ 4294967295 then some (32 - (Lib.bitLen a0.toNat : Int)) else none

/-! ### bignat_Nat_Shift: function 116 -/
def bignat_Nat_Shift.l0 : Nat → Int → Int → List Int → List Int → Int → Int → Option (List Int)
  | 0, _, _, _, _, _, _ => none
  | k + 1, x5, x6, x7, x25, x26, x27 => if x27 < x26 then (if 0 ≤ x27 then (if x27 < (x25.length : Int) then (if 0 ≤ x6 then (if 0 ≤ (wrap64 (x5 + x27)) then (if (wrap64 (x5 + x27)) < (x7.length : Int) then (if 0 ≤ (wrap64 ((wrap64 (x5 + x27)) + 1)) then (if (wrap64 ((wrap64 (x5 + x27)) + 1)) < (x7.length : Int) then (bignat_Nat_Shift.l0 k x5 x6 ((x7.set ((wrap64 (x5 + x27)) : Int).toNat (Go.bits .or .u32 (rd x7 (wrap64 (x5 + x27))) ((shl .u64 (IntKind.u64.wrap (rd x25 x27)) x6) % 4294967296))).set ((wrap64 ((wrap64 (x5 + x27)) + 1)) : Int).toNat (((shl .u64 (IntKind.u64.wrap (rd x25 x27)) x6) / 4294967296) % 4294967296)) x25 x26 (wrap64 (x27 + 1))) else (none)) else (none)) else (none)) else (none)) else (none)) else (none)) else (none)) else ((bignat_norm.f k x7).bind fun t159 => (some t159))
def bignat_Nat_Shift.f (k : Nat) (l0 : List Int) (a1 : Int) : Option (List Int) := if (l0.length : Int) = 0 then (some ([] : List Int)) else (if 0 ≤ (wrap64 ((wrap64 ((wrap64 (Int.tdiv a1 32)) + (l0.length : Int))) + 1)) then (if (wrap64 ((wrap64 ((wrap64 (Int.tdiv a1 32)) + (l0.length : Int))) + 1) : Int).toNat ≤ 70368744177664 then (bignat_Nat_Shift.l0 k (wrap64 (Int.tdiv a1 32)) (IntKind.u64.wrap (Int.tmod a1 32)) (List.replicate (wrap64 ((wrap64 ((wrap64 (Int.tdiv a1 32)) + (l0.length : Int))) + 1) : Int).toNat 0) l0 (l0.length : Int) 0) else (none)) else (none))
/-! ### bignat_less: function 117 -/
def bignat_less.l0 : Nat → List Int → List Int → Int → Int → Int → Int → Int → Option (Bool × List Int)
  | 0, _, _, _, _, _, _, _ => none
  | k + 1, x0, x1, x2, x7, x8, x11, x12 => if x12 < x11 then (if x12 < (x1.length : Int) then (if 0 ≤ x12 then (if x12 < (x0.length : Int) then (bignat_less.l0 k (x0.set (x12 : Int).toNat ((wrap64 (x7 + (wrap64 ((wrap64 (rd x0 x12)) - ((IntKind.u64.wrap (x8 + (IntKind.u64.wrap (x2 * (IntKind.u64.wrap (rd x1 x12)))))) % 4294967296))))) % 4294967296)) x1 x2 ((wrap64 (x7 + (wrap64 ((wrap64 (rd x0 x12)) - ((IntKind.u64.wrap (x8 + (IntKind.u64.wrap (x2 * (IntKind.u64.wrap (rd x1 x12)))))) % 4294967296))))) / 4294967296) ((IntKind.u64.wrap (x8 + (IntKind.u64.wrap (x2 * (IntKind.u64.wrap (rd x1 x12)))))) / 4294967296) x11 (wrap64 (x12 + 1))) else (none)) else (none)) else (if 0 ≤ x12 then (if x12 < (x0.length : Int) then (bignat_less.l0 k (x0.set (x12 : Int).toNat ((wrap64 (x7 + (wrap64 ((wrap64 (rd x0 x12)) - ((x8) % 4294967296))))) % 4294967296)) x1 x2 ((wrap64 (x7 + (wrap64 ((wrap64 (rd x0 x12)) - ((x8) % 4294967296))))) / 4294967296) (x8 / 4294967296) x11 (wrap64 (x12 + 1))) else (none)) else (none))) else (some (decide (x7 < 0), x0))
def bignat_less.f (k : Nat) (l0 : List Int) (l1 : List Int) (a2 : Int) : Option (Bool × List Int) := bignat_less.l0 k l0 l1 a2 0 0 (l0.length : Int) 0
/-! ### bignat_more: function 118 -/
def bignat_more.l0 : Nat → List Int → List Int → Int → Int → Int → Option (List Int)
  | 0, _, _, _, _, _ => none
  | k + 1, x0, x1, x4, x7, x8 => if x8 < x7 then (if 0 ≤ x8 then (if x8 < (x0.length : Int) then (if x8 < (x1.length : Int) then (bignat_more.l0 k (x0.set (x8 : Int).toNat ((IntKind.u64.wrap ((IntKind.u64.wrap (x4 + (IntKind.u64.wrap (rd x0 x8)))) + (IntKind.u64.wrap (rd x1 x8)))) % 4294967296)) x1 ((IntKind.u64.wrap ((IntKind.u64.wrap (x4 + (IntKind.u64.wrap (rd x0 x8)))) + (IntKind.u64.wrap (rd x1 x8)))) / 4294967296) x7 (wrap64 (x8 + 1))) else (bignat_more.l0 k (x0.set (x8 : Int).toNat ((IntKind.u64.wrap (x4 + (IntKind.u64.wrap (rd x0 x8)))) % 4294967296)) x1 ((IntKind.u64.wrap (x4 + (IntKind.u64.wrap (rd x0 x8)))) / 4294967296) x7 (wrap64 (x8 + 1)))) else (none)) else (none)) else (some x0)
def bignat_more.f (k : Nat) (l0 : List Int) (l1 : List Int) : Option (List Int) := bignat_more.l0 k l0 l1 0 (l0.length : Int) 0
/-! ### bignat_Nat_low: function 120 -/
def bignat_Nat_low.l0 : Nat → List Int → Int → List Int → Int → Int → Option (List Int)
  | 0, _, _, _, _, _ => none
  | k + 1, x0, x1, x5, x12, x13 => if x13 < x12 then (if 0 ≤ x13 then (if x13 < (x0.length : Int) then (if (wrap64 (x13 + 1)) < (x0.length : Int) then (if 0 ≤ (wrap64 (x13 + 1)) then (if 0 ≤ x1 then (if x13 < (x5.length : Int) then (bignat_Nat_low.l0 k x0 x1 (x5.set (x13 : Int).toNat ((shr .u64 (Go.bits .or .u64 (IntKind.u64.wrap (rd x0 x13)) (IntKind.u64.wrap ((IntKind.u64.wrap (rd x0 (wrap64 (x13 + 1)))) * 4294967296))) x1) % 4294967296)) x12 (wrap64 (x13 + 1))) else (none)) else (none)) else (none)) else (if 0 ≤ x1 then (if x13 < (x5.length : Int) then (bignat_Nat_low.l0 k x0 x1 (x5.set (x13 : Int).toNat ((shr .u64 (IntKind.u64.wrap (rd x0 x13)) x1) % 4294967296)) x12 (wrap64 (x13 + 1))) else (none)) else (none))) else (none)) else (none)) else ((bignat_norm.f k x5).bind fun t178 => (some t178))
def bignat_Nat_low.f (k : Nat) (l0 : List Int) (a1 : Int) : Option (List Int) := if 0 ≤ (l0.length : Int) then (if ((l0.length : Int) : Int).toNat ≤ 70368744177664 then (bignat_Nat_low.l0 k l0 a1 (List.replicate ((l0.length : Int) : Int).toNat 0) (l0.length : Int) 0) else (none)) else (none)
/-- copy(v, ys): v's first cells are ys's. -/
def bignat_copyTo.f (l0 l1 : List Int) : Option (List Int) := some (l1.take (min l1.length l0.length) ++ l0.drop (min l1.length l0.length))
/-- less on a window of a row. -/
def bignat_lessAt.f (k : Nat) (l0 l1 : List Int) (a2 a3 a4 : Int) : Option (Bool × List Int) :=
  if 0 ≤ a3 ∧ a3 < a4 ∧ a4 ≤ (l0.length : Int) then (bignat_less.f k ((l0.take a4.toNat).drop a3.toNat) l1 a2).bind fun p => some (p.1, l0.take a3.toNat ++ p.2 ++ l0.drop a4.toNat) else none
/-- more on a window of a row. -/
def bignat_moreAt.f (k : Nat) (l0 l1 : List Int) (a3 a4 : Int) : Option (List Int) :=
  if 0 ≤ a3 ∧ a3 < a4 ∧ a4 ≤ (l0.length : Int) then (bignat_more.f k ((l0.take a4.toNat).drop a3.toNat) l1).bind fun p => some (l0.take a3.toNat ++ p ++ l0.drop a4.toNat) else none
/-! ### bignat_Nat_Div: function 74 -/
mutual
def bignat_Nat_Div.l0 : Nat → Int → List Int → Int → List Int → List Int → Int → Option (List Int × List Int)
  | 0, _, _, _, _, _, _ => none
  | k + 1, x8, x9, x10, x11, x12, x13 => if x13 ≥ 0 then (if 0 ≤ (wrap64 (x13 + x10)) then (if (wrap64 (x13 + x10)) < (x11.length : Int) then (if 0 ≤ (wrap64 ((wrap64 (x13 + x10)) - 1)) then (if (wrap64 ((wrap64 (x13 + x10)) - 1)) < (x11.length : Int) then (if 0 ≤ (wrap64 (x10 - 1)) then (if (wrap64 (x10 - 1)) < (x9.length : Int) then (if (IntKind.u64.wrap (rd x9 (wrap64 (x10 - 1)))) = 0 then (none) else (bignat_Nat_Div.l1 k x8 x9 x10 x11 x12 x13 (IntKind.u64.wrap (Int.tdiv (Go.bits .or .u64 (IntKind.u64.wrap ((IntKind.u64.wrap (rd x11 (wrap64 (x13 + x10)))) * 4294967296)) (IntKind.u64.wrap (rd x11 (wrap64 ((wrap64 (x13 + x10)) - 1))))) (IntKind.u64.wrap (rd x9 (wrap64 (x10 - 1)))))) (Int.tmod (Go.bits .or .u64 (IntKind.u64.wrap ((IntKind.u64.wrap (rd x11 (wrap64 (x13 + x10)))) * 4294967296)) (IntKind.u64.wrap (rd x11 (wrap64 ((wrap64 (x13 + x10)) - 1))))) (IntKind.u64.wrap (rd x9 (wrap64 (x10 - 1))))))) else (none)) else (none)) else (none)) else (none)) else (none)) else (none)) else ((bignat_norm.f k x12).bind fun t205 => ((bignat_norm.f k x11).bind fun t208 => ((bignat_Nat_low.f k t208 x8).bind fun t211 => (some (t205, t211)))))
def bignat_Nat_Div.j3 : Nat → Int → List Int → Int → List Int → List Int → Int → Int → Option (List Int × List Int)
  | 0, _, _, _, _, _, _, _ => none
  | k + 1, x8, x9, x10, x11, x12, x13, x15 => (bignat_lessAt.f k x11 x9 x15 x13 (wrap64 ((wrap64 (x13 + x10)) + 1))).bind fun bt221 => (if bt221.1 = true then ((bignat_moreAt.f k bt221.2 x9 x13 (wrap64 ((wrap64 (x13 + x10)) + 1))).bind fun t223 => (if 0 ≤ x13 then (if x13 < (x12.length : Int) then (bignat_Nat_Div.l0 k x8 x9 x10 t223 (x12.set (x13 : Int).toNat ((IntKind.u64.wrap (x15 - 1)) % 4294967296)) (wrap64 (x13 - 1))) else (none)) else (none))) else (if 0 ≤ x13 then (if x13 < (x12.length : Int) then (bignat_Nat_Div.l0 k x8 x9 x10 bt221.2 (x12.set (x13 : Int).toNat ((x15) % 4294967296)) (wrap64 (x13 - 1))) else (none)) else (none)))
def bignat_Nat_Div.l1 : Nat → Int → List Int → Int → List Int → List Int → Int → Int → Int → Option (List Int × List Int)
  | 0, _, _, _, _, _, _, _, _ => none
  | k + 1, x8, x9, x10, x11, x12, x13, x15, x16 => if x15 ≥ 4294967296 then (bignat_Nat_Div.j2 k x8 x9 x10 x11 x12 x13 x15 x16 true) else (if 0 ≤ (wrap64 (x10 - 2)) then (if (wrap64 (x10 - 2)) < (x9.length : Int) then (if 0 ≤ (wrap64 ((wrap64 (x13 + x10)) - 2)) then (if (wrap64 ((wrap64 (x13 + x10)) - 2)) < (x11.length : Int) then (bignat_Nat_Div.j2 k x8 x9 x10 x11 x12 x13 x15 x16 (decide ((IntKind.u64.wrap (x15 * (IntKind.u64.wrap (rd x9 (wrap64 (x10 - 2)))))) > (Go.bits .or .u64 (IntKind.u64.wrap (x16 * 4294967296)) (IntKind.u64.wrap (rd x11 (wrap64 ((wrap64 (x13 + x10)) - 2)))))))) else (none)) else (none)) else (none)) else (none))
def bignat_Nat_Div.j2 : Nat → Int → List Int → Int → List Int → List Int → Int → Int → Int → Bool → Option (List Int × List Int)
  | 0, _, _, _, _, _, _, _, _, _ => none
  | k + 1, x8, x9, x10, x11, x12, x13, x15, x16, x129 => if x129 = true then (if 0 ≤ (wrap64 (x10 - 1)) then (if (wrap64 (x10 - 1)) < (x9.length : Int) then (if (IntKind.u64.wrap (x16 + (IntKind.u64.wrap (rd x9 (wrap64 (x10 - 1)))))) ≥ 4294967296 then (bignat_Nat_Div.j3 k x8 x9 x10 x11 x12 x13 (IntKind.u64.wrap (x15 - 1))) else (bignat_Nat_Div.l1 k x8 x9 x10 x11 x12 x13 (IntKind.u64.wrap (x15 - 1)) (IntKind.u64.wrap (x16 + (IntKind.u64.wrap (rd x9 (wrap64 (x10 - 1)))))))) else (none)) else (none)) else (bignat_Nat_Div.j3 k x8 x9 x10 x11 x12 x13 x15)
end
def bignat_Nat_Div.f (k : Nat) (l0 : List Int) (l1 : List Int) : Option (List Int × List Int) := (bignat_Nat_Cmp.f k l0 l1).bind fun t181 => (if t181 < 0 then (some (([] : List Int), l0)) else (if (l1.length : Int) = 1 then (if 0 < (l1.length : Int) then ((bignat_Nat_Small.f k l0 (rd l1 0)).bind fun bt183 => ((bignat_Of.f k (IntKind.u64.wrap (bt183.2))).bind fun t187 => (some (bt183.1, t187)))) else (none)) else (if 0 ≤ (wrap64 ((l1.length : Int) - 1)) then (if (wrap64 ((l1.length : Int) - 1)) < (l1.length : Int) then ((bits_LeadingZeros32.f (rd l1 (wrap64 ((l1.length : Int) - 1)))).bind fun t191 => ((bignat_Nat_Shift.f k l1 (wrap64 (IntKind.u64.wrap (t191)))).bind fun t192 => (if 0 ≤ (wrap64 ((l0.length : Int) + 1)) then (if (wrap64 ((l0.length : Int) + 1) : Int).toNat ≤ 70368744177664 then ((some (List.replicate (wrap64 ((l0.length : Int) + 1) : Int).toNat 0 : List Int)).bind fun y195 => ((bignat_Nat_Shift.f k l0 (wrap64 (IntKind.u64.wrap (t191)))).bind fun t198 => ((bignat_copyTo.f y195 t198).bind fun t201 => (if 0 ≤ (wrap64 ((y195.length : Int) - (t192.length : Int))) then (if (wrap64 ((y195.length : Int) - (t192.length : Int)) : Int).toNat ≤ 70368744177664 then ((some (List.replicate (wrap64 ((y195.length : Int) - (t192.length : Int)) : Int).toNat 0 : List Int)).bind fun y202 => (bignat_Nat_Div.l0 k (IntKind.u64.wrap (t191)) t192 (t192.length : Int) t201 y202 (wrap64 ((y202.length : Int) - 1)))) else (none)) else (none))))) else (none)) else (none)))) else (none)) else (none))))
/-! ### bignat_Nat_String: function 75 -/
mutual
def bignat_Nat_String.l0 : Nat → List Int → List Int → Option (ByteArray)
  | 0, _, _ => none
  | k + 1, x0, x3 => if (x0.length : Int) > 0 then ((bignat_Nat_Small.f k x0 1000000000).bind fun bt226 => (bignat_Nat_String.l1 k bt226.1 x3 bt226.2 0)) else (bignat_Nat_String.l2 k x3 0 (wrap64 ((x3.length : Int) - 1)))
def bignat_Nat_String.l1 : Nat → List Int → List Int → Int → Int → Option (ByteArray)
  | 0, _, _, _, _ => none
  | k + 1, x0, x3, x4, x5 => if x5 < 9 then (if (x0.length : Int) > 0 then (if x3.length < 140737488355328 then (bignat_Nat_String.l1 k x0 (x3 ++ [(48 + (Int.tmod x4 10)) % 256]) ((Int.tdiv x4 10) % 4294967296) (wrap64 (x5 + 1))) else (none)) else (if x4 > 0 then (if x3.length < 140737488355328 then (bignat_Nat_String.l1 k x0 (x3 ++ [(48 + (Int.tmod x4 10)) % 256]) ((Int.tdiv x4 10) % 4294967296) (wrap64 (x5 + 1))) else (none)) else (bignat_Nat_String.l0 k x0 x3))) else (bignat_Nat_String.l0 k x0 x3)
def bignat_Nat_String.l2 : Nat → List Int → Int → Int → Option (ByteArray)
  | 0, _, _, _ => none
  | k + 1, x3, x6, x7 => if x6 < x7 then (if 0 ≤ x7 then (if x7 < (x3.length : Int) then (if 0 ≤ x6 then (if x6 < (x3.length : Int) then (bignat_Nat_String.l2 k ((x3.set (x6 : Int).toNat (rd x3 x7)).set (x7 : Int).toNat (rd x3 x6)) (wrap64 (x6 + 1)) (wrap64 (x7 - 1))) else (none)) else (none)) else (none)) else (none)) else (some (strOfNums x3))
end
def bignat_Nat_String.f (k : Nat) (l0 : List Int) : Option (ByteArray) := if (l0.length : Int) = 0 then (some (⟨#[48]⟩ : ByteArray)) else (bignat_Nat_String.l0 k l0 ([] : List Int))
/-! ### ratio_NatDiv: function 18 -/
def ratio_NatDiv.f (k : Nat) (a0 : ByteArray) (a1 : ByteArray) : Option (ByteArray × ByteArray × Int) := (ratio_both.f k a0 a1).bind fun bt240 => (if bt240.2.2 = true then (if (bt240.2.1.length : Int) = 0 then (some ((⟨#[]⟩ : ByteArray), (⟨#[]⟩ : ByteArray), 25)) else ((bignat_Nat_Div.f k bt240.1 bt240.2.1).bind fun bt247 => ((bignat_Nat_String.f k bt247.1).bind fun t253 => ((bignat_Nat_String.f k bt247.2).bind fun t254 => (some (t253, t254, 0)))))) else (some ((⟨#[]⟩ : ByteArray), (⟨#[]⟩ : ByteArray), 1)))
/-! ### bits_Len32: function 124 -/
def bits_Len32.f (a0 : Int) : Option Int := if 0 ≤ a0 ∧ a0 ≤ 4294967295 then some (Lib.bitLen a0.toNat : Int) else none

/-! ### bignat_Nat_Bits: function 86 -/
def bignat_Nat_Bits.f (l0 : List Int) : Option (Int) := if (l0.length : Int) = 0 then (some 0) else (if 0 ≤ (wrap64 ((l0.length : Int) - 1)) then (if (wrap64 ((l0.length : Int) - 1)) < (l0.length : Int) then ((bits_Len32.f (rd l0 (wrap64 ((l0.length : Int) - 1)))).bind fun t256 => (some (wrap64 ((wrap64 (32 * (wrap64 ((l0.length : Int) - 1)))) + t256)))) else (none)) else (none))

/-! ### ratio_text: function 95 -/
def ratio_text.f (k : Nat) (l0 : List Int) : Option (ByteArray × Int) := (bignat_Nat_Bits.f l0).bind fun t257 => (if t257 > 80000 then (some ((⟨#[]⟩ : ByteArray), 2)) else ((bignat_Nat_String.f k l0).bind fun t258 => (if (t258.size : Int) > 20000 then (some ((⟨#[]⟩ : ByteArray), 2)) else (some (t258, 0)))))
/-! ### bignat_Gcd: function 97 -/
def bignat_Gcd.l0 : Nat → List Int → List Int → Option (List Int)
  | 0, _, _ => none
  | k + 1, x0, x1 => if (x1.length : Int) > 0 then ((bignat_Nat_Div.f k x0 x1).bind fun bt259 => (bignat_Gcd.l0 k x1 bt259.2)) else (some x0)
def bignat_Gcd.f (k : Nat) (l0 : List Int) (l1 : List Int) : Option (List Int) := bignat_Gcd.l0 k l0 l1
/-! ### ratio_number_lowest: function 83 -/
def ratio_number_lowest.f (k : Nat) (a0_0 : Bool) (l0_1 : List Int) (l0_2 : List Int) : Option (Bool × ByteArray × ByteArray × Int) := (bignat_Gcd.f k l0_1 l0_2).bind fun t267 => ((bignat_Nat_Div.f k l0_1 t267).bind fun bt270 => ((bignat_Nat_Div.f k l0_2 t267).bind fun bt276 => ((ratio_text.f k bt270.1).bind fun bt282 => (if bt282.2 = 0 then ((ratio_text.f k bt276.1).bind fun bt284 => (if bt284.2 = 0 then (if a0_0 = true then (some (decide (0 < bt270.1.length), bt282.1, bt284.1, 0)) else (some (false, bt282.1, bt284.1, 0))) else (some (false, (⟨#[]⟩ : ByteArray), (⟨#[]⟩ : ByteArray), bt284.2)))) else (some (false, (⟨#[]⟩ : ByteArray), (⟨#[]⟩ : ByteArray), bt282.2))))))
/-! ### ratio_size: function 121 -/
def ratio_size.f (k : Nat) (a0 : Int) : Option (List Int) := if a0 < 0 then ((bignat_Of.f k (IntKind.u64.wrap (-(IntKind.u64.wrap (a0))))).bind fun t286 => (some t286)) else ((bignat_Of.f k (IntKind.u64.wrap (a0))).bind fun t289 => (some t289))
/-! ### ratio_Make: function 76 -/
def ratio_Make.f (k : Nat) (a0 : Int) (a1 : Int) : Option (Bool × ByteArray × ByteArray × Int) := if a1 = 0 then (some (false, (⟨#[]⟩ : ByteArray), (⟨#[]⟩ : ByteArray), 25)) else ((ratio_size.f k a0).bind fun t293 => ((ratio_size.f k a1).bind fun t296 => ((ratio_number_lowest.f k ((decide (a0 < 0)) != (decide (a1 < 0))) t293 t296).bind fun bt299 => (some (bt299.1, bt299.2.1, bt299.2.2.1, bt299.2.2.2)))))
/-! ### corporalaw36_known: function 19 -/
def corporalaw36_known.f (k : Nat)  : Option (Bool) := (ratio_Make.f k (-6) 4).bind fun bt303 => ((ratio_NatDiv.f k (⟨#[49, 48, 48]⟩ : ByteArray) (⟨#[55]⟩ : ByteArray)).bind fun bt308 => (if bt303.2.2.2 = 0 then (if (bt303.1 && (bt303.2.1.toList == ([51] : List UInt8) && (bt303.2.2.1.toList == ([50] : List UInt8)))) = true then (if bt308.2.2 = 0 then (if bt308.1.toList = ([49, 52] : List UInt8) then (some (bt308.2.1.toList == ([50] : List UInt8))) else (some false)) else (some false)) else (some false)) else (some false)))
/-! ### bignat_Nat_Mul: function 78 -/
mutual
def bignat_Nat_Mul.l0 : Nat → List Int → List Int → List Int → Int → Int → Option (List Int)
  | 0, _, _, _, _, _ => none
  | k + 1, x1, x5, x17, x18, x19 => if x19 < x18 then (if 0 ≤ x19 then (if x19 < (x17.length : Int) then (bignat_Nat_Mul.l1 k x1 x5 x19 (rd x17 x19) 0 x17 x18 x19 x1 (x1.length : Int) 0) else (none)) else (none)) else ((bignat_norm.f k x5).bind fun t314 => (some t314))
def bignat_Nat_Mul.l1 : Nat → List Int → List Int → Int → Int → Int → List Int → Int → Int → List Int → Int → Int → Option (List Int)
  | 0, _, _, _, _, _, _, _, _, _, _, _ => none
  | k + 1, x1, x5, x6, x7, x8, x17, x18, x19, x24, x25, x26 => if x26 < x25 then (if 0 ≤ x26 then (if x26 < (x24.length : Int) then (if 0 ≤ (wrap64 (x6 + x26)) then (if (wrap64 (x6 + x26)) < (x5.length : Int) then (bignat_Nat_Mul.l1 k x1 (x5.set ((wrap64 (x6 + x26)) : Int).toNat ((IntKind.u64.wrap (x8 + (IntKind.u64.wrap ((IntKind.u64.wrap ((IntKind.u64.wrap (x7)) * (IntKind.u64.wrap (rd x24 x26)))) + (IntKind.u64.wrap (rd x5 (wrap64 (x6 + x26)))))))) % 4294967296)) x6 x7 ((IntKind.u64.wrap (x8 + (IntKind.u64.wrap ((IntKind.u64.wrap ((IntKind.u64.wrap (x7)) * (IntKind.u64.wrap (rd x24 x26)))) + (IntKind.u64.wrap (rd x5 (wrap64 (x6 + x26)))))))) / 4294967296) x17 x18 x19 x24 x25 (wrap64 (x26 + 1))) else (none)) else (none)) else (none)) else (none)) else (if 0 ≤ (wrap64 (x6 + (x1.length : Int))) then (if (wrap64 (x6 + (x1.length : Int))) < (x5.length : Int) then (bignat_Nat_Mul.l0 k x1 (x5.set ((wrap64 (x6 + (x1.length : Int))) : Int).toNat ((x8) % 4294967296)) x17 x18 (wrap64 (x19 + 1))) else (none)) else (none))
end
def bignat_Nat_Mul.f (k : Nat) (l0 : List Int) (l1 : List Int) : Option (List Int) := if 0 ≤ (wrap64 ((l0.length : Int) + (l1.length : Int))) then (if (wrap64 ((l0.length : Int) + (l1.length : Int)) : Int).toNat ≤ 70368744177664 then (bignat_Nat_Mul.l0 k l1 (List.replicate (wrap64 ((l0.length : Int) + (l1.length : Int)) : Int).toNat 0) l0 (l0.length : Int) 0) else (none)) else (none)
/-! ### ratio_NatMul: function 20 -/
def ratio_NatMul.f (k : Nat) (a0 : ByteArray) (a1 : ByteArray) : Option (ByteArray × Int) := (ratio_both.f k a0 a1).bind fun b => (if b.2.2 = true then ((bignat_Nat_Mul.f k b.1 b.2.1).bind fun t => (ratio_text.f k t)) else (some (⟨#[]⟩, 1)))
/-! ### bignat_Nat_Add: function 79 -/
def bignat_Nat_Add.l0 : Nat → List Int → List Int → List Int → Int → Int → Int → Option (List Int)
  | 0, _, _, _, _, _, _ => none
  | k + 1, x0, x1, x5, x6, x20, x21 => if x21 < x20 then (if 0 ≤ x21 then (if x21 < (x0.length : Int) then (if x21 < (x1.length : Int) then (if x21 < (x5.length : Int) then (bignat_Nat_Add.l0 k x0 x1 (x5.set (x21 : Int).toNat ((IntKind.u64.wrap ((IntKind.u64.wrap (x6 + (IntKind.u64.wrap (rd x0 x21)))) + (IntKind.u64.wrap (rd x1 x21)))) % 4294967296)) ((IntKind.u64.wrap ((IntKind.u64.wrap (x6 + (IntKind.u64.wrap (rd x0 x21)))) + (IntKind.u64.wrap (rd x1 x21)))) / 4294967296) x20 (wrap64 (x21 + 1))) else (none)) else (if x21 < (x5.length : Int) then (bignat_Nat_Add.l0 k x0 x1 (x5.set (x21 : Int).toNat ((IntKind.u64.wrap (x6 + (IntKind.u64.wrap (rd x0 x21)))) % 4294967296)) ((IntKind.u64.wrap (x6 + (IntKind.u64.wrap (rd x0 x21)))) / 4294967296) x20 (wrap64 (x21 + 1))) else (none))) else (none)) else (none)) else (if 0 ≤ (x0.length : Int) then (if (x0.length : Int) < (x5.length : Int) then ((bignat_norm.f k (x5.set ((x0.length : Int) : Int).toNat ((x6) % 4294967296))).bind fun t330 => (some t330)) else (none)) else (none))
def bignat_Nat_Add.g (k : Nat) (l0 : List Int) (l1 : List Int) : Option (List Int) := if 0 ≤ (wrap64 ((l0.length : Int) + 1)) then (if (wrap64 ((l0.length : Int) + 1) : Int).toNat ≤ 70368744177664 then (bignat_Nat_Add.l0 k l0 l1 (List.replicate (wrap64 ((l0.length : Int) + 1) : Int).toNat 0) 0 (l0.length : Int) 0) else (none)) else (none)
def bignat_Nat_Add.f (k : Nat) (l0 : List Int) (l1 : List Int) : Option (List Int) := if (l0.length : Int) < (l1.length : Int) then (bignat_Nat_Add.g k l1 l0) else (bignat_Nat_Add.g k l0 l1)
/-! ### ratio_NatAdd: function 21 -/
def ratio_NatAdd.f (k : Nat) (a0 : ByteArray) (a1 : ByteArray) : Option (ByteArray × Int) := (ratio_both.f k a0 a1).bind fun b => (if b.2.2 = true then ((bignat_Nat_Add.f k b.1 b.2.1).bind fun t => (ratio_text.f k t)) else (some (⟨#[]⟩, 1)))
/-! ### strings_Compare: function 81 -/
def strings_Compare.f (a0 a1 : ByteArray) : Option Int := some (Lib.compareBytes a0.data.toList a1.data.toList)

/-! ### ratio_NatCompare: function 22 -/
def ratio_NatCompare.j0 : Nat → ByteArray → ByteArray → Bool → Option (Int)
  | 0, _, _, _ => none
  | k + 1, x0, x1, x12 => if x12 = true then (some 0) else (if (x0.size : Int) = (x1.size : Int) then ((strings_Compare.f x0 x1).bind fun t335 => (some t335)) else (if (x0.size : Int) < (x1.size : Int) then (some (-1)) else (some 1)))
def ratio_NatCompare.f (k : Nat) (a0 : ByteArray) (a1 : ByteArray) : Option (Int) := (ratio_Valid.f k a0).bind fun t333 => (if t333 = true then ((ratio_Valid.f k a1).bind fun t334 => (ratio_NatCompare.j0 k a0 a1 (!t334))) else (ratio_NatCompare.j0 k a0 a1 true))
/-! ### bignat_Nat_Sub: function 96 -/
def bignat_Nat_Sub.l0 : Nat → List Int → List Int → List Int → Int → Int → Int → Option (List Int)
  | 0, _, _, _, _, _, _ => none
  | k + 1, x0, x1, x5, x6, x12, x13 => if x13 < x12 then (if 0 ≤ x13 then (if x13 < (x0.length : Int) then (if x13 < (x1.length : Int) then (if x13 < (x5.length : Int) then (bignat_Nat_Sub.l0 k x0 x1 (x5.set (x13 : Int).toNat ((wrap64 ((wrap64 (x6 + (wrap64 (rd x0 x13)))) - (wrap64 (rd x1 x13)))) % 4294967296)) ((wrap64 ((wrap64 (x6 + (wrap64 (rd x0 x13)))) - (wrap64 (rd x1 x13)))) / 4294967296) x12 (wrap64 (x13 + 1))) else (none)) else (if x13 < (x5.length : Int) then (bignat_Nat_Sub.l0 k x0 x1 (x5.set (x13 : Int).toNat ((wrap64 (x6 + (wrap64 (rd x0 x13)))) % 4294967296)) ((wrap64 (x6 + (wrap64 (rd x0 x13)))) / 4294967296) x12 (wrap64 (x13 + 1))) else (none))) else (none)) else (none)) else ((bignat_norm.f k x5).bind fun t823 => (some t823))
def bignat_Nat_Sub.f (k : Nat) (l0 : List Int) (l1 : List Int) : Option (List Int) := if 0 ≤ (l0.length : Int) then (if ((l0.length : Int) : Int).toNat ≤ 70368744177664 then (bignat_Nat_Sub.l0 k l0 l1 (List.replicate ((l0.length : Int) : Int).toNat 0) 0 (l0.length : Int) 0) else (none)) else (none)
/-! ### ratio_NatSub: function 33 -/
def ratio_NatSub.f (k : Nat) (a0 : ByteArray) (a1 : ByteArray) : Option (ByteArray × Int) := (ratio_both.f k a0 a1).bind fun bt826 => (if bt826.2.2 = true then ((bignat_Nat_Cmp.f k bt826.1 bt826.2.1).bind fun t833 => (if t833 < 0 then (some ((⟨#[]⟩ : ByteArray), 8)) else ((bignat_Nat_Sub.f k bt826.1 bt826.2.1).bind fun t834 => ((ratio_text.f k t834).bind fun bt837 => (some (bt837.1, bt837.2)))))) else (some ((⟨#[]⟩ : ByteArray), 1)))
/-! ### ratio_NatGcd: function 34 -/
def ratio_NatGcd.f (k : Nat) (a0 : ByteArray) (a1 : ByteArray) : Option (ByteArray × Int) := (ratio_both.f k a0 a1).bind fun b => (if b.2.2 = true then ((bignat_Gcd.f k b.1 b.2.1).bind fun t => (ratio_text.f k t)) else (some (⟨#[]⟩, 1)))

end Go.Proofs.Ytccgfmjcldifcaa.P
