/- What the operations on the texts of natural numbers come to, and what the tape deals. -/
import Derived.Test.YtccgfmjcldifcaaMStr
import Derived.Laws.Strings
namespace Go.Proofs.Ytccgfmjcldifcaa.P
open Go.RowKit Go.Proofs.YtccgfmjcldifcaaW.PrintWords Go.Proofs.YtccgfmjcldifcaaW.PrintMore Go.Proofs.Ytccgfmjcldifcaa.Dg
set_option linter.unusedVariables false
theorem dl_lt (n : Nat) : n < 10 ^ dl n := lt_pow_len (B := 10) (by omega) n
theorem dl_le {n k : Nat} (h : n < 10 ^ k) : dl n ≤ k := len_dg_le (B := 10) (by omega) k n h
theorem dl_mono {a b : Nat} (h : a ≤ b) : dl a ≤ dl b := len_dg_mono (B := 10) (by omega) h
theorem dl_mul (a b : Nat) : dl (a * b) ≤ dl a + dl b := by
 refine dl_le ?_
 rw [Nat.pow_add]
 exact Nat.mul_lt_mul'' (dl_lt a) (dl_lt b)
theorem dl_add (a b : Nat) : dl (a + b) ≤ max (dl a) (dl b) + 1 := by
 refine dl_le ?_
 have h1 : 10 ^ dl a ≤ 10 ^ max (dl a) (dl b) := Nat.pow_le_pow_right (by omega) (Nat.le_max_left _ _)
 have h2 : 10 ^ dl b ≤ 10 ^ max (dl a) (dl b) := Nat.pow_le_pow_right (by omega) (Nat.le_max_right _ _)
 have := dl_lt a
 have := dl_lt b
 rw [Nat.pow_succ]; omega
theorem Lm.mono {a b : Nat} (h : Lm b) (hab : a ≤ b) : Lm a := Nat.le_trans (dl_mono hab) h
theorem Lm.of {n : Nat} (h : dl n ≤ 20000) : Lm n := h
theorem mul_small {a b : Nat} (ha : dl a ≤ 1000000) (hb : dl b ≤ 1000000) : Ev (fun k => bignat_Nat_Mul.f k (W a) (W b)) (W (a * b)) :=
 mul_ev (by have := W_len_dl a; have := W_len_dl b; omega)
theorem gcd_step {a b : Nat} : Nat.gcd a b = Nat.gcd b (a % b) := (Nat.gcd_comm a b).trans ((Nat.gcd_rec b a).trans (Nat.gcd_comm _ _))
theorem gcd_ev (b : Nat) : ∀ a : Nat, Sm a → Sm b → Ev (fun k => bignat_Gcd.f k (W a) (W b)) (W (Nat.gcd a b)) := by
 unfold bignat_Gcd.f
 induction b using Nat.strongRecOn with
 | _ b ih =>
  intro a ha hb
  by_cases h : b = 0
  ·subst h
   rw [Nat.gcd_zero_right]
   exact Ev.step (fun k => bignat_Gcd.l0.eq_2 ..) (Ev.neg (by rw [W_zero]; simp) (Ev.now _))
  ·refine Ev.step (fun k => bignat_Gcd.l0.eq_2 ..) (Ev.pos (by have := W_len_pos (n := b) (by omega); omega) (Ev.bind (div_ev ha (by omega)) ?_))
   have hlt := Nat.mod_lt a (show 0 < b by omega)
   rw [gcd_step]
   exact ih (a % b) hlt b hb (hb.mono (by omega))
def e0 : ByteArray := ⟨#[]⟩
theorem natdiv_ev {a b : Nat} (ha : Lm a) (hb : Lm b) : Ev (fun k => ratio_NatDiv.f k (S a) (S b)) (if b = 0 then (⟨#[]⟩, ⟨#[]⟩, 25) else (S (a / b), S (a % b), 0)) := by
 unfold ratio_NatDiv.f
 refine Ev.bind (both_ev ha hb) (Ev.pos rfl ?_)
 by_cases h : b = 0
 ·rw [if_pos h]
  exact Ev.pos (W_len0.2 h) (Ev.now _)
 ·rw [if_neg h]
  have h1 : Lm (a / b) := ha.mono (Nat.div_le_self _ _)
  have h2 : Lm (a % b) := ha.mono (Nat.mod_le _ _)
  exact Ev.neg (fun g => h (W_len0.1 g)) (Ev.bind (div_ev ha.sm (by omega)) (Ev.bind (string_ev h1.dlb) (Ev.bind (string_ev h2.dlb) (Ev.now _))))
theorem Lm.m {a : Nat} (h : Lm a) : dl a ≤ 1000000 := by unfold Lm at h; omega
theorem Lm.max {a b : Nat} (ha : Lm a) (hb : Lm b) : Lm (max a b) := by
 rcases Nat.le_total a b with h | h
 ·rw [Nat.max_eq_right h]; exact hb
 ·rw [Nat.max_eq_left h]; exact ha
theorem dv_bound {l : List Int} (h : Dig 10 l) : 0 ≤ dv l ∧ dv l < 10 ^ l.length := by
 have hr : Dig 10 l.reverse := fun x hx => h x (List.mem_reverse.1 hx)
 have h1 := val_lt (B := 10) (by omega) hr
 rw [List.length_reverse] at h1
 exact ⟨val_nonneg (by omega) hr, h1⟩
def ch (d : Int) : UInt8 := UInt8.ofNat (48 + d).toNat
theorem ch_nat {d : Int} (h0 : 0 ≤ d) (h1 : d < 10) : (ch d).toNat = (48 + d).toNat := by
 unfold ch; rw [UInt8.toNat_ofNat', Nat.mod_eq_of_lt (by omega)]
theorem S_data (n : Nat) : (S n).data.toList = (D10 n).map ch := by
 unfold S; rw [strOfNums_data, List.map_map]; rfl
theorem list_S {s : ByteArray} {l : List UInt8} {n : Nat} (h : (S n).data.toList = l) : s.toList = l ↔ s = S n := by
 rw [ByteArray.toList_eq, ← h]
 constructor
 ·intro e
  have : s.data = (S n).data := Array.toList_inj.1 e
  cases s; cases hS : S n; rw [hS] at this; cases this; rfl
 ·rintro rfl; rfl
theorem dg_small {n : Nat} (h0 : 0 < n) (h1 : n < 10) : dg 10 n = [(n : Int)] := by
 rw [dg_pos (by omega) h0, Nat.div_eq_of_lt h1, dg_zero, Nat.mod_eq_of_lt h1]
theorem S_digit {n : Nat} (h1 : n < 10) : (S n).data.toList = [ch n] := by
 rw [S_data]
 by_cases h : n = 0
 ·subst h; rfl
 ·rw [D10_pos h, dg_small (by omega) h1]; rfl
theorem dg_more {n : Nat} (h : 10 ≤ n) : dg 10 n = ((n % 10 : Nat) : Int) :: dg 10 (n / 10) := dg_pos (by omega) (by omega)
theorem S_more {n : Nat} (h : 10 ≤ n) : (S n).data.toList = (S (n / 10)).data.toList ++ [ch ((n % 10 : Nat) : Int)] := by
 rw [S_data, S_data, D10_pos (by omega), D10_pos (by omega), dg_more h, List.reverse_cons, List.map_append]; rfl
theorem isS0 {s : ByteArray} : s.toList = ([48] : List UInt8) ↔ s = S 0 := list_S (by rw [S_digit (by omega)]; rfl)
theorem isS1 {s : ByteArray} : s.toList = ([49] : List UInt8) ↔ s = S 1 := list_S (by rw [S_digit (by omega)]; rfl)
theorem S_toList {n : Nat} : ∀ {l : List UInt8} {m : Nat}, (S m).data.toList = l → ((S n).toList = l ↔ n = m) := fun h => (list_S h).trans ⟨S_inj, fun e => by rw [e]⟩
theorem S_0 {n : Nat} : (S n).toList = ([48] : List UInt8) ↔ n = 0 := isS0.trans ⟨S_inj, fun e => by rw [e]⟩
theorem S_1 {n : Nat} : (S n).toList = ([49] : List UInt8) ↔ n = 1 := isS1.trans ⟨S_inj, fun e => by rw [e]⟩
theorem str_S {l : List UInt8} {n : Nat} (h : (S n).data.toList = l) : (⟨l.toArray⟩ : ByteArray) = S n := by
 cases hS : S n with
 | mk d => rw [hS] at h; cases d; cases h; rfl
theorem Lm_small {n : Nat} (h : n < 10 ^ 9) : Lm n := by unfold Lm; have := dl_le h; omega
end Go.Proofs.Ytccgfmjcldifcaa.P
