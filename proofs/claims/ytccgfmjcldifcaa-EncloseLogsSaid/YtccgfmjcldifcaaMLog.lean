/- What NatPower, power, times and Log come to: the logarithm rounded down; the ratios of chapter 37 that are generated, and its examples. -/
import Derived.Test.YtccgfmjcldifcaaMRat
namespace Go.Proofs.Ytccgfmjcldifcaa.P
open Go.RowKit Go.Proofs.YtccgfmjcldifcaaW.PrintWords Go.Proofs.YtccgfmjcldifcaaW.PrintLast Go.Proofs.YtccgfmjcldifcaaW.PrintMore Go.Proofs.Ytccgfmjcldifcaa.Dg
set_option linter.unusedVariables false
theorem dl_pow (n : Nat) : ∀ m : Nat, dl (n ^ m) ≤ m * dl n + 1
 | 0 => by rw [Nat.pow_zero]; exact Nat.le_trans (dl_le (k := 1) (by omega)) (by omega)
 | m + 1 => by
  have h1 := dl_pow n m
  have h2 := dl_mul (n ^ m) n
  rw [Nat.pow_succ, Nat.succ_mul]; omega
theorem and_pow (e i : Nat) : e &&& 2 ^ i = if e.testBit i = true then 2 ^ i else 0 := by
 refine Nat.eq_of_testBit_eq (fun k => ?_)
 rw [Nat.testBit_and, Nat.testBit_two_pow]
 by_cases h : i = k
 ·subst h
  cases h2 : e.testBit i <;> simp
 ·by_cases h2 : e.testBit i = true
  ·rw [if_pos h2, Nat.testBit_two_pow]; simp [h]
  ·rw [if_neg h2]; simp [h]
theorem and_bit {e i : Nat} (he : e < 2 ^ 40) (hi : i ≤ 30) : (Go.bits .and .i64 (e : Int) ((2 ^ i : Nat) : Int) = 0) ↔ e / 2 ^ i % 2 = 0 := by
 have hp : 2 ^ i ≤ 2 ^ 30 := Nat.pow_le_pow_right (by omega) hi
 have hk : ∀ n : Int, 0 ≤ n → n < 2 ^ 62 → IntKind.i64.wrap n = n := fun n h0 h1 => by
  rw [i64_w]; exact w64 (by omega) (by omega)
 rw [(bits_nat .i64 62 (by decide) hk e (2 ^ i) (by omega) (by omega)).1, and_pow, Nat.testBit_eq_decide_div_mod_eq]
 have hq := Nat.two_pow_pos i
 rcases Nat.mod_two_eq_zero_or_one (e / 2 ^ i) with h | h
 ·rw [if_neg (by rw [h]; decide)]
  exact ⟨fun _ => h, fun _ => rfl⟩
 ·rw [if_pos (by rw [h]; decide)]
  exact ⟨fun g => by omega, fun g => by omega⟩
theorem pow_step (n e i : Nat) : (if e / 2 ^ i % 2 = 0 then n ^ (e / 2 ^ (i + 1)) * n ^ (e / 2 ^ (i + 1)) else n ^ (e / 2 ^ (i + 1)) * n ^ (e / 2 ^ (i + 1)) * n) = n ^ (e / 2 ^ i) := by
 have h : e / 2 ^ (i + 1) = e / 2 ^ i / 2 := by rw [Nat.pow_succ, Nat.div_div_eq_div_mul]
 rw [h, ← Nat.pow_add]
 rcases Nat.mod_two_eq_zero_or_one (e / 2 ^ i) with g | g
 ·rw [if_pos g]; congr 1; omega
 ·rw [if_neg (by omega), ← Nat.pow_succ]; congr 1; omega
theorem power_l0 (n e : Nat) (he : e < 1000) (hn : dl n ≤ 15) (i : Nat) : i ≤ 21 → Ev (fun k => ratio_NatPower.l0 k (e : Int) (W n) (W (n ^ (e / 2 ^ i))) ((2 ^ i / 2 : Nat) : Int)) (S (n ^ e), 0) := by
 have hd : ∀ m, m ≤ e → dl (n ^ m) ≤ 15001 := fun m hm => by
  have h1 := dl_pow n m
  have h2 : m * dl n ≤ 1000 * 15 := Nat.mul_le_mul (by omega) hn
  omega
 induction i with
 | zero =>
  intro _
  rw [Nat.pow_zero, Nat.div_one]
  exact Ev.step (fun k => ratio_NatPower.l0.eq_2 ..) (Ev.neg (by omega) (Ev.bind (text_ev (Nat.le_trans (hd e (Nat.le_refl _)) (by omega))) (Ev.some rfl)))
 | succ i ih =>
  intro hi
  have ih := ih (by omega)
  have hp := Nat.two_pow_pos i
  have e1 : 2 ^ (i + 1) / 2 = 2 ^ i := by rw [Nat.pow_succ]; omega
  have hs := pow_step n e i
  have hm := hd (e / 2 ^ (i + 1)) (Nat.div_le_self _ _)
  rw [e1]
  refine Ev.step (fun k => ratio_NatPower.l0.eq_2 ..) (Ev.pos (by omega) (Ev.bind (mul_small (by omega) (by omega)) ?_))
  have e2 : ((2 ^ i : Nat) : Int) / 2 = ((2 ^ i / 2 : Nat) : Int) := by omega
  by_cases g : e / 2 ^ i % 2 = 0
  ·rw [if_pos g] at hs
   refine Ev.pos ((and_bit (by omega) (by omega)).2 g) ?_
   rw [e2, hs]; exact ih
  ·rw [if_neg g] at hs
   refine Ev.neg (fun h => g ((and_bit (by omega) (by omega)).1 h)) (Ev.bind (mul_small ?_ (by omega)) ?_)
   ·have := dl_mul (n ^ (e / 2 ^ (i + 1))) (n ^ (e / 2 ^ (i + 1))); omega
   ·rw [e2, hs]; exact ih
theorem natpower_ev {n e : Nat} (hn0 : 0 < n) (hn : dl n ≤ 15) (he0 : 0 < e) (he : e < 1000) : Ev (fun k => ratio_NatPower.f k (S n) (e : Int)) (S (n ^ e), 0) := by
 unfold ratio_NatPower.f
 have ln : Lm n := Nat.le_trans hn (by omega)
 have hsz := S_size_le ln
 refine Ev.bind (Ev.to (valid_ev (by omega)) (vld_S ln)) (Ev.pos rfl ?_)
 rw [decide_eq_false (show ¬ (e : Int) < 0 by omega)]
 refine Ev.step (fun k => ratio_NatPower.j0.eq_2 ..) (Ev.neg (by simp) (Ev.neg (by omega) ?_))
 by_cases h1 : n = 1
 ·subst h1
  rw [show ((S 1).toList == ([49] : List UInt8)) = true from beq_iff_eq.2 (S_1.2 rfl), Nat.one_pow]
  exact Ev.step (fun k => ratio_NatPower.j1.eq_2 ..) (Ev.pos rfl (Ev.some (by rw [S1_eq])))
 ·rw [show ((S n).toList == ([49] : List UInt8)) = false from beq_eq_false_iff_ne.2 (fun h => h1 (S_1.1 h))]
  obtain ⟨b, hb, _, hb2⟩ := bits_ev ln.sm
  obtain ⟨b0, b1, b2⟩ := hb2 hn0
  have hb50 : b ≤ 51 := by
   rcases Nat.lt_or_ge 51 b with g | g
   ·exfalso
    have h1 : 2 ^ 51 ≤ 2 ^ (b - 1) := Nat.pow_le_pow_right (by omega) (by omega)
    have h2 : n < 10 ^ dl n := dl_lt n
    have h3 : 10 ^ dl n ≤ 10 ^ 15 := Nat.pow_le_pow_right (by omega) hn
    omega
   ·exact g
  have hb1 : 2 ≤ b := by
   rcases Nat.lt_or_ge b 2 with g | g
   ·have : b = 1 := by omega
    subst this; omega
   ·exact g
  refine Ev.step (fun k => ratio_NatPower.j1.eq_2 ..) (Ev.neg (by simp) (Ev.neg (fun h => by have := S_0.1 h; omega) (Ev.bind (parse_ev ln) (Ev.bindo hb ?_))))
  rw [w64s1 (by omega) (by omega)]
  have q0 : 1600 ≤ 80000 / (b - 1) := by rw [Nat.le_div_iff_mul_le (by omega)]; omega
  have q1 : 80000 / (b - 1) ≤ 80000 := Nat.div_le_self _ _
  have q : Int.tdiv 80000 (((b - 1 : Nat)) : Int) = ((80000 / (b - 1) : Nat) : Int) := by rw [tdiv_pos (by omega)]; rfl
  rw [q, w64 (by omega) (by omega)]
  refine Ev.neg (by omega) (Ev.neg (by omega) (Ev.bind (of_ev (n := 1) (by omega)) ?_))
  have := power_l0 n e he hn 21 (by omega)
  rw [Nat.div_eq_of_lt (show e < 2 ^ 21 by omega), Nat.pow_zero] at this
  exact this
theorem shl_two {j : Nat} (hj : j ≤ 8) : shl .i64 1 (IntKind.u64.wrap (j : Int)) = ((2 ^ j : Nat) : Int) := by
 rcases (show j = 0 ∨ j = 1 ∨ j = 2 ∨ j = 3 ∨ j = 4 ∨ j = 5 ∨ j = 6 ∨ j = 7 ∨ j = 8 by omega) with h | h | h | h | h | h | h | h | h <;> subst h <;> decide
theorem pow_le256 {j : Nat} (hj : j ≤ 8) : 2 ^ j ≤ 256 := Nat.pow_le_pow_right (n := 2) (by omega) hj
theorem dl_pow2 {n j : Nat} (hn : dl n ≤ 15) (hj : j ≤ 8) : dl (n ^ 2 ^ j) ≤ 3841 := by
 have h1 := dl_pow n (2 ^ j)
 have h2 : 2 ^ j * dl n ≤ 256 * 15 := Nat.mul_le_mul (pow_le256 hj) hn
 omega
theorem epower_ev {n j : Nat} (hn0 : 0 < n) (hn : dl n ≤ 15) (hj : j ≤ 8) : Ev (fun k => enclose_power.f k (S n) (j : Int)) (W (n ^ 2 ^ j)) := by
 unfold enclose_power.f
 have := Nat.two_pow_pos j
 have := pow_le256 hj
 rw [shl_two hj]
 exact Ev.pos (by rw [wrap_u64]; omega) (Ev.bind (natpower_ev hn0 hn (by omega) (by omega)) (Ev.pos rfl (parse_ev (Nat.le_trans (dl_pow2 hn hj) (by omega)))))
theorem W_len_shift {b s t : Nat} (hs : s ≤ t) : (W (b * 2 ^ s)).length ≤ (W b).length + t := by
 refine W_len_of ?_
 rw [Nat.pow_add]
 have h3 : 2 ^ s ≤ 4294967296 ^ t := Nat.le_trans (Nat.pow_le_pow_right (by omega) hs) (Nat.pow_le_pow_left (by omega) _)
 exact Nat.mul_lt_mul_of_lt_of_le (W_len b) h3 (Nat.pow_pos (by omega))
theorem lt_exp {p q : Nat} (h : 2 ^ p < 2 ^ q) : p < q := (Nat.pow_lt_pow_iff_right (by omega)).1 h
theorem bit_lim {x y m : Nat} (h1 : dl x ≤ m) (h2 : 2 ^ (y - 1) ≤ x) : y ≤ 4 * m + 1 := by
 have h3 : x < 10 ^ dl x := dl_lt x
 have h4 : (10 : Nat) ^ dl x ≤ 10 ^ m := Nat.pow_le_pow_right (by omega) h1
 have h5 : (10 : Nat) ^ m ≤ (2 ^ 4) ^ m := Nat.pow_le_pow_left (by omega) _
 rw [← Nat.pow_mul] at h5
 have := lt_exp (Nat.lt_of_le_of_lt h2 (Nat.lt_of_lt_of_le h3 (Nat.le_trans h4 h5)))
 omega
theorem times_up {a b s : Nat} (ha : dl a ≤ 4000) (hb : dl b ≤ 4000) (hs : s < 1000000) : Ev (fun k => enclose_times.f k (W a) (W b) (s : Int)) (cmp (b * 2 ^ s : Nat) a) := by
 unfold enclose_times.f
 have h1 := W_len_dl b
 have hl := W_len_shift (b := b) (s := s) (t := 1000000) (by omega)
 exact Ev.neg (by omega) (Ev.bind (shift_ev (by omega)) (Ev.bind (cmp_ev (by unfold Sm; omega)) (Ev.now _)))
theorem times_down {a b s : Nat} (ha : dl a ≤ 4000) (hb : dl b ≤ 4000) (hs0 : 0 < s) (hs : s < 1000000) : Ev (fun k => enclose_times.f k (W a) (W b) (-(s : Int))) (cmp b (a * 2 ^ s : Nat)) := by
 unfold enclose_times.f
 have h1 := W_len_dl a
 have h2 := W_len_dl b
 rw [show wrap64 (-(-(s : Int))) = (s : Int) by rw [w64 (by omega) (by omega)]; omega]
 exact Ev.pos (by omega) (Ev.bind (shift_ev (by omega)) (Ev.bind (cmp_ev (by unfold Sm; omega)) (Ev.now _)))
def Lg (a b : Nat) (n : Int) (ex : Bool) : Prop := ∃ p q : Nat, n = (p : Int) - q ∧ b * 2 ^ p ≤ a * 2 ^ q ∧ a * 2 ^ q < b * 2 ^ (p + 1) ∧ (ex = true ↔ b * 2 ^ p = a * 2 ^ q)
theorem two_bounds {a b c d p q r s : Nat} (ha : 0 < a) (hd : 0 < d) (e : a * d = c * b) (h1 : b * 2 ^ p ≤ a * 2 ^ q) (h2 : c * 2 ^ r < d * 2 ^ s) : p + r < q + s := by
 refine lt_exp ?_
 have h3 : (b * 2 ^ p) * (c * 2 ^ r) < (a * 2 ^ q) * (d * 2 ^ s) := by
  refine Nat.lt_of_le_of_lt (Nat.mul_le_mul_right _ h1) (Nat.mul_lt_mul_of_pos_left h2 (Nat.mul_pos ha (Nat.two_pow_pos q)))
 have h4 : (a * d) * 2 ^ (p + r) < (a * d) * 2 ^ (q + s) := by
  have e1 : (b * 2 ^ p) * (c * 2 ^ r) = (a * d) * 2 ^ (p + r) := by rw [e, Nat.pow_add]; grind
  have e2 : (a * 2 ^ q) * (d * 2 ^ s) = (a * d) * 2 ^ (q + s) := by rw [Nat.pow_add]; grind
  rwa [e1, e2] at h3
 exact Nat.lt_of_mul_lt_mul_left h4
theorem two_bounds' {a b c d p q r s : Nat} (ha : 0 < a) (hb : 0 < b) (hd : 0 < d) (hc : 0 < c) (e : a * d = c * b) (h1 : b * 2 ^ p < a * 2 ^ q) (h2 : c * 2 ^ r ≤ d * 2 ^ s) : p + r < q + s := by
 refine lt_exp ?_
 have h3 : (b * 2 ^ p) * (c * 2 ^ r) < (a * 2 ^ q) * (d * 2 ^ s) := by
  refine Nat.lt_of_lt_of_le (Nat.mul_lt_mul_of_pos_right h1 (Nat.mul_pos hc (Nat.two_pow_pos r))) (Nat.mul_le_mul_left _ h2)
 have h4 : (a * d) * 2 ^ (p + r) < (a * d) * 2 ^ (q + s) := by
  have e1 : (b * 2 ^ p) * (c * 2 ^ r) = (a * d) * 2 ^ (p + r) := by rw [e, Nat.pow_add]; grind
  have e2 : (a * 2 ^ q) * (d * 2 ^ s) = (a * d) * 2 ^ (q + s) := by rw [Nat.pow_add]; grind
  rwa [e1, e2] at h3
 exact Nat.lt_of_mul_lt_mul_left h4
theorem log_raw {a b : Nat} (ha0 : 0 < a) (hb0 : 0 < b) (ha : dl a ≤ 4000) (hb : dl b ≤ 4000) :
  ∃ ba bb : Nat, ∃ n : Int, ∃ ex : Bool, bignat_Nat_Bits.f (W a) = some (ba : Int) ∧ bignat_Nat_Bits.f (W b) = some (bb : Int) ∧ -300000 < n ∧ n < 300000 ∧ Lg a b n ex ∧
   Ev (fun k => (enclose_times.f k (W a) (W b) (wrap64 ((ba : Int) - bb))).bind fun t601 => (if t601 > 0 then ((enclose_times.f k (W a) (W b) (wrap64 ((wrap64 ((ba : Int) - bb)) - 1))).bind fun t602 => (some (wrap64 ((wrap64 ((ba : Int) - bb)) - 1), (t602 == 0), (0 : Int)))) else (some (wrap64 ((ba : Int) - bb), (t601 == 0), 0)))) (n, ex, 0) := by
 have sa : Sm a := Lm.sm (Nat.le_trans ha (by omega))
 have sb : Sm b := Lm.sm (Nat.le_trans hb (by omega))
 obtain ⟨ba, hba, _, ha2⟩ := bits_ev sa
 obtain ⟨bb, hbb, _, hb2⟩ := bits_ev sb
 obtain ⟨a1, a2, a3⟩ := ha2 ha0
 obtain ⟨b1, b2, b3⟩ := hb2 hb0
 have la := bit_lim ha a2
 have lb := bit_lim hb b2
 -- what times tells of each number
 have tm : ∀ n : Int, -200000 ≤ n → n < 200000 → ∃ p q : Nat, n = (p : Int) - q ∧ Ev (fun k => enclose_times.f k (W a) (W b) n) (cmp (b * 2 ^ p : Nat) (a * 2 ^ q : Nat)) := fun n h0 h1 => by
  by_cases h : n < 0
  ·obtain ⟨s, hs⟩ : ∃ s : Nat, n = -(s : Int) := ⟨(-n).toNat, by omega⟩
   subst hs
   exact ⟨0, s, by omega, by rw [Nat.pow_zero, Nat.mul_one]; exact times_down ha hb (by omega) (by omega)⟩
  ·obtain ⟨s, hs⟩ := Int.eq_ofNat_of_zero_le (show 0 ≤ n by omega)
   subst hs
   exact ⟨s, 0, by omega, by rw [Nat.pow_zero, Nat.mul_one]; exact times_up ha hb (by omega)⟩
 have low1 : b * 2 ^ (ba - 1) < a * 2 ^ bb := Nat.lt_of_lt_of_le (Nat.mul_lt_mul_of_pos_right b3 (Nat.two_pow_pos _)) (by rw [Nat.mul_comm]; exact Nat.mul_le_mul_right _ a2)
 have up1 : a * 2 ^ (bb - 1) < b * 2 ^ ba := Nat.lt_of_lt_of_le (Nat.mul_lt_mul_of_pos_right a3 (Nat.two_pow_pos _)) (by rw [Nat.mul_comm]; exact Nat.mul_le_mul_right _ b2)
 refine ⟨ba, bb, ?_⟩
 rw [w64 (x := (ba : Int) - bb) (by omega) (by omega), w64 (x := (ba : Int) - bb - 1) (by omega) (by omega)]
 obtain ⟨p, q, hn, ev⟩ := tm ((ba : Int) - bb) (by omega) (by omega)
 have key : ∀ p' q' r' s' : Nat, (p' : Int) - q' ≤ (r' : Int) - s' → b * 2 ^ r' ≤ a * 2 ^ s' → b * 2 ^ p' ≤ a * 2 ^ q' := fun p' q' r' s' h g => by
  rcases Nat.lt_or_ge (a * 2 ^ q') (b * 2 ^ p') with k | k
  ·have := two_bounds ha0 hb0 rfl g k
   omega
  ·exact k
 have keyl : ∀ p' q' r' s' : Nat, (p' : Int) - q' ≤ (r' : Int) - s' → b * 2 ^ r' < a * 2 ^ s' → b * 2 ^ p' < a * 2 ^ q' := fun p' q' r' s' h g => by
  rcases Nat.lt_or_ge (b * 2 ^ p') (a * 2 ^ q') with k | k
  ·exact k
  ·have := two_bounds' ha0 hb0 hb0 ha0 rfl g k
   omega
 have keyu : ∀ p' q' r' s' : Nat, (r' : Int) - s' ≤ (p' : Int) - q' → a * 2 ^ s' < b * 2 ^ r' → a * 2 ^ q' < b * 2 ^ p' := fun p' q' r' s' h g => by
  rcases Nat.lt_or_ge (a * 2 ^ q') (b * 2 ^ p') with k | k
  ·exact k
  ·have := two_bounds ha0 hb0 rfl k g
   omega
 by_cases hc : a * 2 ^ q < b * 2 ^ p
 ·obtain ⟨r, s, hm, ev2⟩ := tm ((ba : Int) - bb - 1) (by omega) (by omega)
  have l2 : b * 2 ^ r < a * 2 ^ s := keyl r s (ba - 1) bb (by omega) low1
  refine ⟨(ba : Int) - bb - 1, false, hba, hbb, by omega, by omega, ⟨r, s, hm, Nat.le_of_lt l2, keyu (r + 1) s p q (by omega) hc, by simp; omega⟩, ?_⟩
  refine Ev.bind ev (Ev.pos (by rw [cmp_gt (by omega)]; omega) (Ev.bind ev2 (Ev.some ?_)))
  rw [cmp_lt (by omega)]; rfl
 ·have u2 : a * 2 ^ q < b * 2 ^ (p + 1) := keyu (p + 1) q ba (bb - 1) (by omega) up1
  by_cases he : b * 2 ^ p = a * 2 ^ q
  ·refine ⟨(ba : Int) - bb, true, hba, hbb, by omega, by omega, ⟨p, q, hn, by omega, u2, by simp [he]⟩, ?_⟩
   refine Ev.bind ev (Ev.neg (by rw [cmp_eq (by omega)]; omega) (Ev.some ?_))
   rw [cmp_eq (by omega)]; rfl
  ·refine ⟨(ba : Int) - bb, false, hba, hbb, by omega, by omega, ⟨p, q, hn, by omega, u2, by simp [he]⟩, ?_⟩
   refine Ev.bind ev (Ev.neg (by rw [cmp_lt (by omega)]; omega) (Ev.some ?_))
   rw [cmp_lt (by omega)]; rfl
theorem log_ev {r : Rat} {j : Nat} (hr : 0 < r.num) (hb : Rb 15 r) (hj : j ≤ 8) : ∃ n ex, -300000 < n ∧ n < 300000 ∧ Lg (r.num.natAbs ^ 2 ^ j) (r.den ^ 2 ^ j) n ex ∧ Ev (fun k => enclose_Log.f k (decide (r.num < 0)) (S r.num.natAbs) (S r.den) (j : Int)) (n, ex, 0) := by
 have hn0 : 0 < r.num.natAbs := by omega
 obtain ⟨ba, bb, n, ex, h1, h2, h3, h4, h5, ev⟩ := log_raw (Nat.pow_pos hn0 (n := 2 ^ j)) (Nat.pow_pos (den_pos r) (n := 2 ^ j)) (Nat.le_trans (dl_pow2 hb.1 hj) (by omega)) (Nat.le_trans (dl_pow2 hb.2 hj) (by omega))
 refine ⟨n, ex, h3, h4, h5, ?_⟩
 unfold enclose_Log.f
 refine Ev.bind (isratio_ev hb (by omega)) (Ev.pos rfl (Ev.neg (by rw [decide_eq_false (show ¬ r.num < 0 by omega)]; simp) (Ev.neg (fun h => by have := S_0.1 h; omega) (Ev.neg (by omega) ?_))))
 rw [decide_eq_false (show ¬ (j : Int) > 8 by omega)]
 exact Ev.step (fun k => enclose_Log.j0.eq_2 ..) (Ev.neg (by simp) (Ev.bind (epower_ev hn0 hb.1 hj) (Ev.bind (epower_ev (den_pos r) hb.2 hj) (Ev.bindo h1 (Ev.bindo h2 ev)))))
theorem Lg.unique {a b c d : Nat} {n m : Int} {x y : Bool} (ha : 0 < a) (hb : 0 < b) (hc : 0 < c) (hd : 0 < d) (e : a * d = c * b) (h : Lg a b n x) (k : Lg c d m y) : n = m ∧ x = y := by
 obtain ⟨p, q, hn, h1, h2, h3⟩ := h
 obtain ⟨r, s, hm, k1, k2, k3⟩ := k
 have i1 := two_bounds ha hd e h1 k2
 have i2 := two_bounds hc hb e.symm k1 h2
 have hnm : n = m := by omega
 refine ⟨hnm, ?_⟩
 rw [Bool.eq_iff_iff, h3, k3]
 constructor
 ·intro g
  rcases Nat.lt_or_eq_of_le k1 with l | l
  ·have := two_bounds' hc hd hb ha e.symm l (Nat.le_of_eq g.symm)
   omega
  ·exact l
 ·intro g
  rcases Nat.lt_or_eq_of_le h1 with l | l
  ·have := two_bounds' ha hb hd hc e l (Nat.le_of_eq g.symm)
   omega
  ·exact l
theorem Lg.congr {a b c d : Nat} {n : Int} {x : Bool} (ha : 0 < a) (hb : 0 < b) (hc : 0 < c) (hd : 0 < d) (e : a * d = c * b) (h : Lg a b n x) : Lg c d n x := by
 obtain ⟨p, q, hn, h1, h2, h3⟩ := h
 have i1 : d * 2 ^ p ≤ c * 2 ^ q := by
  rcases Nat.lt_or_ge (c * 2 ^ q) (d * 2 ^ p) with g | g
  ·have := two_bounds ha hd e h1 g
   omega
  ·exact g
 have i2 : c * 2 ^ q < d * 2 ^ (p + 1) := by
  rcases Nat.lt_or_ge (c * 2 ^ q) (d * 2 ^ (p + 1)) with g | g
  ·exact g
  ·have := two_bounds hc hb e.symm g h2
   omega
 refine ⟨p, q, hn, i1, i2, h3.trans ⟨fun g => ?_, fun g => ?_⟩⟩
 ·rcases Nat.lt_or_eq_of_le i1 with l | l
  ·have := two_bounds' hc hd hb ha e.symm l (Nat.le_of_eq g.symm)
   omega
  ·exact l
 ·rcases Nat.lt_or_eq_of_le h1 with l | l
  ·have := two_bounds' ha hb hd hc e l (Nat.le_of_eq g.symm)
   omega
  ·exact l
theorem some37_ev {l : List Int} {p : Int} (hp : TapeOk l p) : ∃ (r : Rat) (p' : Int), 0 < r.num ∧ Rb 6 r ∧ TapeOk l p' ∧ Ev (fun k => corporalaw37_some.f k l p true) (decide (r.num < 0), S r.num.natAbs, S r.den, p') := by
 obtain ⟨n, p1, hn, hp1, e1⟩ := tapenat_ev (most := 6) hp (by omega) (by omega)
 obtain ⟨d, p2, hd, hp2, e2⟩ := tapenat_ev (most := 6) hp1 (by omega) (by omega)
 have d1 : dl 1 ≤ 6 := Nat.le_trans (dl_le (k := 1) (by omega)) (by omega)
 -- with a numerator and a denominator that are not zero
 have fin : ∀ n' d' : Nat, 0 < n' → 0 < d' → dl n' ≤ 6 → dl d' ≤ 6 → ∀ X, (Ev (fun k => (corporaref36_Of.f k false (S n') (S d')).bind fun b => (some (b.1, b.2.1, b.2.2.1, p2))) (decide ((mkRat (sg false n') d').num < 0), S (mkRat (sg false n') d').num.natAbs, S (mkRat (sg false n') d').den, p2) → Ev (fun k => corporalaw37_some.f k l p true) X) → X = (decide ((mkRat (sg false n') d').num < 0), S (mkRat (sg false n') d').num.natAbs, S (mkRat (sg false n') d').den, p2) →
   ∃ (r : Rat) (p' : Int), 0 < r.num ∧ Rb 6 r ∧ TapeOk l p' ∧ Ev (fun k => corporalaw37_some.f k l p true) (decide (r.num < 0), S r.num.natAbs, S r.den, p') := by
  intro n' d' h1 h2 h3 h4 X hX e
  subst e
  have ev := rof_ev (neg := false) (n := n') (d := d') (Nat.le_trans h3 (by omega)) (Nat.le_trans h4 (by omega))
  rw [if_neg (by omega), low_Q4 _ _ h2] at ev
  refine ⟨mkRat (sg false n') d', p2, ?_, Rb_mk h2 h3 h4, hp2, hX (Ev.bind ev (Ev.some rfl))⟩
  rw [mk_num false n' h2]
  have := Nat.div_pos (Nat.gcd_le_left d' h1) (Nat.gcd_pos_of_pos_right n' h2)
  show (0 : Int) < ((n' / Nat.gcd n' d' : Nat) : Int)
  omega
 have last : ∀ n' : Nat, 0 < n' → dl n' ≤ 6 → (∀ R, Ev (fun k => corporalaw37_some.j1 k true (S n') (S d) l p2) R → Ev (fun k => corporalaw37_some.f k l p true) R) →
   ∃ (r : Rat) (p' : Int), 0 < r.num ∧ Rb 6 r ∧ TapeOk l p' ∧ Ev (fun k => corporalaw37_some.f k l p true) (decide (r.num < 0), S r.num.natAbs, S r.den, p') := by
  intro n' h1 h2 hj
  by_cases h : d = 0
  ·refine fin n' 1 h1 (by omega) h2 d1 _ (fun ev => hj _ (Ev.step (fun k => corporalaw37_some.j1.eq_2 ..) (Ev.pos (S_0.2 h) (Ev.pos rfl ?_)))) rfl
   rw [S1_eq]; exact ev
  ·exact fin n' d h1 (by omega) h2 hd _ (fun ev => hj _ (Ev.step (fun k => corporalaw37_some.j1.eq_2 ..) (Ev.neg (fun g => h (S_0.1 g)) (Ev.pos rfl ev)))) rfl
 by_cases h : n = 0
 ·refine last 1 (by omega) d1 (fun R hR => ?_)
  unfold corporalaw37_some.f
  refine Ev.bind e1 (Ev.bind e2 (Ev.pos rfl ?_))
  rw [show ((S n).toList == ([48] : List UInt8)) = true from beq_iff_eq.2 (S_0.2 h)]
  refine Ev.step (fun k => corporalaw37_some.j0.eq_2 ..) (Ev.pos rfl ?_)
  rw [S1_eq]; exact hR
 ·refine last n (by omega) hn (fun R hR => ?_)
  unfold corporalaw37_some.f
  refine Ev.bind e1 (Ev.bind e2 (Ev.pos rfl ?_))
  rw [show ((S n).toList == ([48] : List UInt8)) = false from beq_eq_false_iff_ne.2 (fun g => h (S_0.1 g))]
  exact Ev.step (fun k => corporalaw37_some.j0.eq_2 ..) (Ev.neg (by simp) hR)
theorem log_nat {n j : Nat} (h0 : 0 < n) (hn : n < 10) (hj : j ≤ 8) {m : Int} {x : Bool} (h : Lg (n ^ 2 ^ j) 1 m x) : Ev (fun k => enclose_Log.f k false (S n) (S 1) (j : Int)) (m, x, 0) := by
 have e : mkRat (n : Int) 1 = (n : Rat) := by rw [Rat.mkRat_one]; rfl
 have hnum : (mkRat (sg false n) 1).num = n := by rw [mk_num false n (by omega), Nat.gcd_one_right, Nat.div_one]; rfl
 have hden : (mkRat (sg false n) 1).den = 1 := by rw [mk_den false n (by omega), Nat.gcd_one_right]
 have d1 : ∀ t : Nat, t < 10 → dl t ≤ 15 := fun t ht => Nat.le_trans (dl_le (k := 1) (by omega)) (by omega)
 obtain ⟨m', x', _, _, l, ev⟩ := log_ev (r := mkRat (sg false n) 1) (j := j) (by rw [hnum]; omega) (Rb_mk (by omega) (d1 n hn) (d1 1 (by omega))) hj
 rw [hnum, hden, Nat.one_pow, Int.natAbs_natCast] at l
 rw [hnum, hden, Int.natAbs_natCast, decide_eq_false (by omega)] at ev
 have hp : 0 < n ^ 2 ^ j := Nat.pow_pos h0
 obtain ⟨rfl, rfl⟩ := Lg.unique hp (by omega) hp (by omega) rfl h l
 exact ev
theorem known37_ev : Ev (fun k => corporalaw37_known.f k) true := by
 unfold corporalaw37_known.f
 have h3 : (⟨#[51]⟩ : ByteArray) = S 3 := str_S (l := [51]) (by rw [S_digit (by omega)]; decide)
 have h8 : (⟨#[56]⟩ : ByteArray) = S 8 := str_S (l := [56]) (by rw [S_digit (by omega)]; decide)
 rw [h3, h8, S1_eq]
 have e1 := log_nat (n := 3) (j := 4) (m := 25) (x := false) (by omega) (by omega) (by omega) ⟨25, 0, by omega, by decide, by decide, by decide⟩
 have e2 := log_nat (n := 8) (j := 2) (m := 12) (x := true) (by omega) (by omega) (by omega) ⟨12, 0, by omega, by decide, by decide, by decide⟩
 exact Ev.bind e1 (Ev.bind e2 (Ev.pos rfl (Ev.pos rfl (Ev.neg (by simp) (Ev.pos rfl (Ev.pos rfl (Ev.some rfl)))))))
end Go.Proofs.Ytccgfmjcldifcaa.P
