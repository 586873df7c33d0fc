/- Words for loops that come to an answer, and whole numbers of 64 and 32 bits within their bounds. -/
import Derived.Test.YtccgfmjcldifcaaDA
import Derived.Test.YtccgfmjcldifcaaMDg
namespace Go.Proofs.Ytccgfmjcldifcaa.P
open Go.RowKit Go.Proofs.YtccgfmjcldifcaaW.PrintWords Go.Proofs.YtccgfmjcldifcaaW.PrintMore Go.Proofs.Ytccgfmjcldifcaa.Dg
set_option linter.unusedVariables false
theorem Ev.pos {α : Type} {c : Prop} [Decidable c] {f g : Nat → Option α} {r : α} (h : c) (k : Ev f r) : Ev (fun n => if c then f n else g n) r :=
 Ev.congr (fun n => if_pos h) k
theorem Ev.neg {α : Type} {c : Prop} [Decidable c] {f g : Nat → Option α} {r : α} (h : ¬ c) (k : Ev g r) : Ev (fun n => if c then f n else g n) r :=
 Ev.congr (fun n => if_neg h) k
theorem Ev.bindo {α β : Type} {a : Option α} {x : α} {f : Nat → α → Option β} {r : β} (h : a = some x) (k : Ev (fun n => f n x) r) : Ev (fun n => a.bind (f n)) r := by
 subst h; exact k
theorem Ev.some {α : Type} {x r : α} (h : x = r) : Ev (fun _ => some x) r := by subst h; exact Ev.now _
theorem Ev.to {α : Type} {g : Nat → Option α} {r s : α} (k : Ev g r) (h : r = s) : Ev g s := h ▸ k
theorem w64 {x : Int} (h0 : -9223372036854775808 ≤ x) (h1 : x < 9223372036854775808) : wrap64 x = x := by unfold wrap64; omega
theorem wrap_u64 (n : Int) : IntKind.u64.wrap n = n % 18446744073709551616 := by simp [IntKind.wrap, IntKind.bits, IntKind.signed]
theorem u64 {x : Int} (h0 : 0 ≤ x) (h1 : x < 18446744073709551616) : IntKind.u64.wrap x = x := by rw [wrap_u64]; omega
theorem tdiv_pos {x y : Int} (h : 0 ≤ x) : Int.tdiv x y = x / y := Int.tdiv_eq_ediv_of_nonneg h
theorem tmod_pos {x y : Int} (h : 0 ≤ x) : Int.tmod x y = x % y := Int.tmod_eq_emod_of_nonneg h
theorem or32 {x y : Int} (h0 : 0 ≤ x) (h1 : x < 4294967296) (h2 : 0 ≤ y) (h3 : y < 4294967296) : Go.bits .or .u64 (x * 4294967296) y = x * 4294967296 + y :=
 bits_join .u64 64 (by decide) (fun n a b => u64 a (by simpa using b)) 32 _ _ (by omega) (by show x * 4294967296 % 4294967296 = 0; omega) (by show x * 4294967296 < 18446744073709551616; omega) h2 h3 (by show y < 18446744073709551616; omega)
theorem or32' {x y : Int} (h0 : 0 ≤ x) (h1 : x < 4294967296) (h2 : 0 ≤ y) (h3 : y < 4294967296) : Go.bits .or .u64 y (x * 4294967296) = x * 4294967296 + y := by
 rw [show Go.bits .or .u64 y (x * 4294967296) = Go.bits .or .u64 (x * 4294967296) y from by
  obtain ⟨a, rfl⟩ := Int.eq_ofNat_of_zero_le h0
  obtain ⟨b, rfl⟩ := Int.eq_ofNat_of_zero_le h2
  have e : ((a : Int) * 4294967296) = ((a * 4294967296 : Nat) : Int) := by simp
  have hk : ∀ n : Int, 0 ≤ n → n < 2 ^ 64 → IntKind.u64.wrap n = n := fun n p q => u64 p (by simpa using q)
  rw [e, (bits_nat .u64 64 (by decide) hk _ _ (by omega) (by omega)).2, (bits_nat .u64 64 (by decide) hk _ _ (by omega) (by omega)).2, Nat.or_comm]]
 exact or32 h0 h1 h2 h3
theorem rd_nat (l : List Int) (i : Nat) : rd l (i : Int) = at_ l i := rfl
theorem mul_lt_sq {x y a b : Int} (h0 : 0 ≤ x) (h1 : x ≤ a) (h2 : 0 ≤ y) (h3 : y ≤ b) : x * y ≤ a * b :=
 Int.mul_le_mul h1 h3 h2 (by omega)
def W (n : Nat) : List Int := dg 4294967296 n
def T (n : Nat) : List Int := dg 10000 n
theorem W_dig (n : Nat) : Dig 4294967296 (W n) := dig_dg (B := 4294967296) (by omega) n
theorem T_dig (n : Nat) : Dig 10000 (T n) := dig_dg (B := 10000) (by omega) n
theorem W_val (n : Nat) : val 4294967296 (W n) = n := val_dg (B := 4294967296) (by omega) n
theorem T_val (n : Nat) : val 10000 (T n) = n := val_dg (B := 10000) (by omega) n
theorem W_zero : W 0 = [] := dg_zero _
theorem T_zero : T 0 = [] := dg_zero _
theorem W_nil {n : Nat} : W n = [] ↔ n = 0 := dg_eq_nil (B := 4294967296) (by omega)
theorem T_nil {n : Nat} : T n = [] ↔ n = 0 := dg_eq_nil (B := 10000) (by omega)
theorem W_len0 {n : Nat} : ((W n).length : Int) = 0 ↔ n = 0 := by rw [← W_nil, ← List.length_eq_zero_iff]; omega
theorem T_len0 {n : Nat} : ((T n).length : Int) = 0 ↔ n = 0 := by rw [← T_nil, ← List.length_eq_zero_iff]; omega
end Go.Proofs.Ytccgfmjcldifcaa.P
