/- Walks of Go functions: what they compute; each theorem's conditions stand in it. -/
import Derived.Test.YtccgfmjcldifcaaT
import Derived.Test.YtccgfmjcldifcaaDA
import Derived.Test.YtccgfmjcldifcaaDE
namespace Go.Proofs.Ytccgfmjcldifcaa.P
open Go.RowKit Go.Proofs.YtccgfmjcldifcaaW.PrintWords Go.Proofs.YtccgfmjcldifcaaW.PrintLast Go.Proofs.YtccgfmjcldifcaaW.PrintMore
attribute [local go_sem] max2_int min2_int max_two min_two max_three min_three max_four min_four
set_option linter.unusedVariables false
set_option linter.unusedSimpArgs false
mutual
def corporalaw37_EnclosePowers.l0 : Nat → Int → Int → Bool → Int → Bool → ByteArray → ByteArray → Option (Bool)
 | 0, _, _, _, _, _, _, _ => none
 | k + 1, x1, x6, x7, x10, x1269000, x1269001, x1269002 => if x10 < x1 then ((ratio_Mul.f k x1269000 x1269001 x1269002 x1269000 x1269001 x1269002).bind fun bt1269 => (if bt1269.2.2.2 = 0 then (corporalaw37_EnclosePowers.l0 k x1 x6 x7 (wrap64 (x10 + 1)) bt1269.1 bt1269.2.1 bt1269.2.2.1) else (some false))) else (corporalaw37_EnclosePowers.l1 k x6 x7 0 x1269000 x1269001 x1269002 false (⟨#[50]⟩ : ByteArray) (⟨#[49]⟩ : ByteArray) false (⟨#[49]⟩ : ByteArray) (⟨#[49]⟩ : ByteArray))
def corporalaw37_EnclosePowers.j2 : Nat → Int → Bool → Bool → ByteArray → ByteArray → Bool → ByteArray → ByteArray → Bool → ByteArray → ByteArray → Option (Bool)
 | 0, _, _, _, _, _, _, _, _, _, _, _ => none
 | k + 1, x6, x7, x1269000, x1269001, x1269002, x1274000, x1274001, x1274002, x1275000, x1275001, x1275002 => corporalaw37_EnclosePowers.l2 k x6 x7 0 x1269000 x1269001 x1269002 x1274000 x1274001 x1274002 x1275000 x1275001 x1275002
def corporalaw37_EnclosePowers.j4 : Nat → Bool → Bool → ByteArray → ByteArray → Bool → ByteArray → ByteArray → Bool → ByteArray → ByteArray → Option (Bool)
 | 0, _, _, _, _, _, _, _, _, _, _ => none
 | k + 1, x7, x1269000, x1269001, x1269002, x1274000, x1274001, x1274002, x1275000, x1275001, x1275002 => (ratio_Mul.f k x1275000 x1275001 x1275002 x1274000 x1274001 x1274002).bind fun bt1283 => (if bt1283.2.2.2 = 0 then ((ratio_Compare.f k x1275000 x1275001 x1275002 x1269000 x1269001 x1269002).bind fun t1288 => (if t1288 ≤ 0 then ((ratio_Compare.f k x1275000 x1275001 x1275002 x1269000 x1269001 x1269002).bind fun t1289 => (if ((t1289 == 0) == x7) = true then ((ratio_Compare.f k x1269000 x1269001 x1269002 bt1283.1 bt1283.2.1 bt1283.2.2.1).bind fun t1290 => (if t1290 < 0 then ((corporalaw37_known.f k).bind fun t1291 => (some t1291)) else (some false))) else (some false))) else (some false))) else (some false))
def corporalaw37_EnclosePowers.l2 : Nat → Int → Bool → Int → Bool → ByteArray → ByteArray → Bool → ByteArray → ByteArray → Bool → ByteArray → ByteArray → Option (Bool)
 | 0, _, _, _, _, _, _, _, _, _, _, _, _ => none
 | k + 1, x6, x7, x14, x1269000, x1269001, x1269002, x1274000, x1274001, x1274002, x1275000, x1275001, x1275002 => if x14 > x6 then (if x14 > (-2000) then ((ratio_Quo.f k x1275000 x1275001 x1275002 x1274000 x1274001 x1274002).bind fun bt1279 => (corporalaw37_EnclosePowers.l2 k x6 x7 (wrap64 (x14 - 1)) x1269000 x1269001 x1269002 x1274000 x1274001 x1274002 bt1279.1 bt1279.2.1 bt1279.2.2.1)) else (corporalaw37_EnclosePowers.j4 k x7 x1269000 x1269001 x1269002 x1274000 x1274001 x1274002 x1275000 x1275001 x1275002)) else (corporalaw37_EnclosePowers.j4 k x7 x1269000 x1269001 x1269002 x1274000 x1274001 x1274002 x1275000 x1275001 x1275002)
def corporalaw37_EnclosePowers.l1 : Nat → Int → Bool → Int → Bool → ByteArray → ByteArray → Bool → ByteArray → ByteArray → Bool → ByteArray → ByteArray → Option (Bool)
 | 0, _, _, _, _, _, _, _, _, _, _, _, _ => none
 | k + 1, x6, x7, x13, x1269000, x1269001, x1269002, x1274000, x1274001, x1274002, x1275000, x1275001, x1275002 => if x13 < x6 then (if x13 < 2000 then ((ratio_Mul.f k x1275000 x1275001 x1275002 x1274000 x1274001 x1274002).bind fun bt1275 => (corporalaw37_EnclosePowers.l1 k x6 x7 (wrap64 (x13 + 1)) x1269000 x1269001 x1269002 x1274000 x1274001 x1274002 bt1275.1 bt1275.2.1 bt1275.2.2.1)) else (corporalaw37_EnclosePowers.j2 k x6 x7 x1269000 x1269001 x1269002 x1274000 x1274001 x1274002 x1275000 x1275001 x1275002)) else (corporalaw37_EnclosePowers.j2 k x6 x7 x1269000 x1269001 x1269002 x1274000 x1274001 x1274002 x1275000 x1275001 x1275002)
end
def corporalaw37_EnclosePowers.f (k : Nat) (l0 : List Int) (a1 : Int) : Option (Bool) := (corporamade_New.f l0).bind fun bt1256 => ((corporalaw37_some.f k bt1256.1 bt1256.2 true).bind fun bt1259 => ((corporamade_Mod.f a1 5).bind fun t1264 => ((enclose_Log.f k bt1259.1 bt1259.2.1 bt1259.2.2.1 t1264).bind fun bt1265 => (if bt1265.2.2 = 0 then (corporalaw37_EnclosePowers.l0 k t1264 bt1265.1 bt1265.2.1 0 bt1259.1 bt1259.2.1 bt1259.2.2.1) else (some false)))))
def corporalaw37_EnclosePowers.Pure : Prop := ∀ (l0 : List Int) (a1 : Int), l0.length ≤ maxLen → l0.length * 8 ≤ 140737488351232 → (∀ x ∈ l0, (Lit.int .i64 x).wf = true) → (Lit.int .i64 a1).wf = true → ∃ k, corporalaw37_EnclosePowers.f k l0 a1 = some true
end Go.Proofs.Ytccgfmjcldifcaa.P
