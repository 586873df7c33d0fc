/- What Div comes to: the quotient and the remainder of natural numbers (the divisor is not 0): long division by estimated digits. -/
import Derived.Test.YtccgfmjcldifcaaMShift
namespace Go.Proofs.Ytccgfmjcldifcaa.P
open Go.RowKit Go.Proofs.YtccgfmjcldifcaaW.PrintWords Go.Proofs.YtccgfmjcldifcaaW.PrintMore Go.Proofs.Ytccgfmjcldifcaa.Dg
set_option linter.unusedVariables false
theorem w64s {i c : Nat} (h : c ≤ i) (h2 : i < 9223372036854775807) : wrap64 ((i : Int) - (c : Int)) = ((i - c : Nat) : Int) := by rw [w64 (by omega) (by omega)]; omega
theorem w64s1 {i : Nat} (h : 1 ≤ i) (h2 : i < 9223372036854775807) : wrap64 ((i : Int) - 1) = ((i - 1 : Nat) : Int) := w64s (c := 1) h h2
theorem w64s2 {i : Nat} (h : 2 ≤ i) (h2 : i < 9223372036854775807) : wrap64 ((i : Int) - 2) = ((i - 2 : Nat) : Int) := w64s (c := 2) h h2
section
variable {v1 v2 vr P V u0 u1 u2 wr w q t r : Int}
theorem est_more (hP : 0 < P) (hV : V = (v1 * 4294967296 + v2) * P + vr) (hvr : 0 ≤ vr) (hw : w = ((u0 * 4294967296 + u1) * 4294967296 + u2) * P + wr) (hwr : wr < P)
  (ht0 : 0 ≤ t) (hq : q * V ≤ w) (htop : t * v1 + r = u0 * 4294967296 + u1) (hc : r * 4294967296 + u2 < t * v2) (hVp : 0 < V) : q < t := by
 rcases Int.lt_or_le q t with h | h
 ·exact h
 ·exfalso
  have h1 : t * V ≤ q * V := Int.mul_le_mul_of_nonneg_right h (by omega)
  have h2 : t * V = ((t * v1) * 4294967296 + t * v2) * P + t * vr := by rw [hV]; grind
  have h3 : 0 ≤ t * vr := Int.mul_nonneg ht0 hvr
  have h4 : t * v1 = u0 * 4294967296 + u1 - r := by omega
  rw [h4] at h2
  have h5 := Int.mul_le_mul_of_nonneg_right (show (u0 * 4294967296 + u1) * 4294967296 + u2 + 1 ≤ (u0 * 4294967296 + u1 - r) * 4294967296 + t * v2 by omega) (Int.le_of_lt hP)
  rw [Int.add_mul ((u0 * 4294967296 + u1) * 4294967296 + u2) 1 P, Int.one_mul] at h5
  omega
theorem est_less (hP : 0 < P) (hV : V = (v1 * 4294967296 + v2) * P + vr) (hvr : 0 ≤ vr) (hvr1 : vr < P) (hv1 : 2147483648 ≤ v1) (hv2 : 0 ≤ v2) (hw : w = ((u0 * 4294967296 + u1) * 4294967296 + u2) * P + wr) (hwr : 0 ≤ wr)
  (ht0 : 0 ≤ t) (ht1 : t < 4294967296) (hq : w < (q + 1) * V) (hc : t * (v1 * 4294967296 + v2) ≤ (u0 * 4294967296 + u1) * 4294967296 + u2) : t ≤ q + 1 := by
 have hm : 0 ≤ v1 * P := Int.mul_nonneg (by omega) (by omega)
 have hVP : 9223372036854775808 * P ≤ V := by
  have h1 := Int.mul_le_mul_of_nonneg_right (show 9223372036854775808 ≤ v1 * 4294967296 + v2 by omega) (Int.le_of_lt hP)
  omega
 rcases Int.lt_or_le (q + 1) t with h | h
 ·exfalso
  have h1 : (q + 2) * V ≤ t * V := Int.mul_le_mul_of_nonneg_right (by omega) (by omega)
  have h2 : t * V = t * (v1 * 4294967296 + v2) * P + t * vr := by rw [hV]; grind
  have h3 : t * vr ≤ 4294967295 * P := mul_lt_sq ht0 (by omega) hvr (by omega)
  have h4 := Int.mul_le_mul_of_nonneg_right hc (Int.le_of_lt hP)
  have h5 : (q + 2) * V = (q + 1) * V + V := by grind
  omega
 ·exact h
end
structure Knuth (v u : List Int) (j : Nat) (q : Int) : Prop where
 dv : Dig 4294967296 v
 du : Dig 4294967296 u
 n2 : 2 ≤ v.length
 lt : j + v.length < u.length
 hm : u.length < 1099511627776
 top : 2147483648 ≤ at_ v (v.length - 1)
 rest : val 4294967296 (u.drop (j + 1)) < val 4294967296 v
 q0 : 0 ≤ q
 ql : q * val 4294967296 v ≤ val 4294967296 (u.drop j)
 qu : val 4294967296 (u.drop j) < (q + 1) * val 4294967296 v
theorem val_drop_split {l : List Int} {i n : Nat} (h : i + n ≤ l.length) : val 4294967296 (l.drop i) = val 4294967296 ((l.drop i).take n) + 4294967296 ^ n * val 4294967296 (l.drop (i + n)) := by
 rw [val_split _ (l.drop i) n (by simp; omega), List.drop_drop]
theorem val_zero_of_lt {l : List Int} (hd : Dig 4294967296 l) (n : Nat) (h : val 4294967296 l < 4294967296 ^ n) (hn : n ≤ l.length) : val 4294967296 (l.drop n) = 0 := by
 have h1 := val_split 4294967296 l n hn
 have h2 := val_nonneg (B := 4294967296) (by omega) (hd.take n)
 have h3 := val_nonneg (B := 4294967296) (by omega) (hd.drop n)
 rcases Int.lt_or_le (val 4294967296 (l.drop n)) 1 with g | g
 ·omega
 ·have h4 : (0 : Int) < 4294967296 ^ n := Int.pow_pos (by omega)
  have h5 := Int.mul_le_mul_of_nonneg_left g (Int.le_of_lt h4)
  rw [Int.mul_one] at h5
  omega
namespace Knuth
variable {v u : List Int} {j : Nat} {q : Int}
theorem vpos (K : Knuth v u j q) : 0 < val 4294967296 v := by
 have := val_nonneg (B := 4294967296) (by omega) (K.du.drop (j + 1))
 have := K.rest
 omega
theorem upper (K : Knuth v u j q) : val 4294967296 (u.drop (j + v.length + 1)) = 0 := by
 have h := val_zero_of_lt (K.du.drop (j + 1)) v.length (Int.lt_of_lt_of_le K.rest (Int.le_of_lt (val_lt (by omega) K.dv))) (by have := K.lt; simp; omega)
 rw [List.drop_drop] at h
 rw [show j + v.length + 1 = j + 1 + v.length by omega]
 exact h
theorem vsplit (K : Knuth v u j q) : val 4294967296 v = (at_ v (v.length - 1) * 4294967296 + at_ v (v.length - 2)) * 4294967296 ^ (v.length - 2) + val 4294967296 (v.take (v.length - 2)) ∧ 0 ≤ val 4294967296 (v.take (v.length - 2)) ∧ val 4294967296 (v.take (v.length - 2)) < 4294967296 ^ (v.length - 2) := by
 have n2 := K.n2
 have h1 := val_lt (B := 4294967296) (by omega) (K.dv.take (v.length - 2))
 rw [List.length_take, Nat.min_eq_left (by omega)] at h1
 refine ⟨?_, val_nonneg (by omega) (K.dv.take _), h1⟩
 rw [val_split 4294967296 v (v.length - 2) (by omega), val_drop _ _ _ (by omega), val_drop _ _ _ (by omega), show v.length - 2 + 1 = v.length - 1 by omega, List.drop_eq_nil_of_le (show v.length ≤ v.length - 1 + 1 by omega), val_nil]
 grind
theorem usplit (K : Knuth v u j q) : val 4294967296 (u.drop j) = ((at_ u (j + v.length) * 4294967296 + at_ u (j + v.length - 1)) * 4294967296 + at_ u (j + v.length - 2)) * 4294967296 ^ (v.length - 2) + val 4294967296 ((u.drop j).take (v.length - 2)) ∧ 0 ≤ val 4294967296 ((u.drop j).take (v.length - 2)) ∧ val 4294967296 ((u.drop j).take (v.length - 2)) < 4294967296 ^ (v.length - 2) := by
 have n2 := K.n2
 have lt := K.lt
 have h1 := val_lt (B := 4294967296) (by omega) ((K.du.drop j).take (v.length - 2))
 rw [List.length_take, List.length_drop, Nat.min_eq_left (by omega)] at h1
 refine ⟨?_, val_nonneg (by omega) ((K.du.drop j).take _), h1⟩
 have hu := K.upper
 rw [val_drop_split (l := u) (i := j) (n := v.length - 2) (by omega), show j + (v.length - 2) = j + v.length - 2 by omega, val_drop _ _ (j + v.length - 2) (by omega), show j + v.length - 2 + 1 = j + v.length - 1 by omega, val_drop _ _ (j + v.length - 1) (by omega), show j + v.length - 1 + 1 = j + v.length by omega, val_drop _ _ (j + v.length) (by omega), hu]
 grind
theorem vdig (K : Knuth v u j q) (i : Nat) : 0 ≤ at_ v i ∧ at_ v i < 4294967296 := K.dv.at (by omega) i
theorem udig (K : Knuth v u j q) (i : Nat) : 0 ≤ at_ u i ∧ at_ u i < 4294967296 := K.du.at (by omega) i
theorem ppos : (0 : Int) < 4294967296 ^ (v.length - 2) := Int.pow_pos (by omega)
theorem ulast (K : Knuth v u j q) : at_ u (j + v.length) ≤ at_ v (v.length - 1) := by
 have n2 := K.n2
 have lt := K.lt
 obtain ⟨hv, hv0, hv1⟩ := K.vsplit
 obtain ⟨hw, hw0, hw1⟩ := K.usplit
 have hP : (0 : Int) < 4294967296 ^ (v.length - 2) := ppos
 have hr := K.rest
 have hj : val 4294967296 (u.drop j) = at_ u j + 4294967296 * val 4294967296 (u.drop (j + 1)) := val_drop _ _ _ (by omega)
 have d := K.udig j
 have a := K.udig (j + v.length - 1)
 have b := K.udig (j + v.length - 2)
 have c := K.vdig (v.length - 2)
 rcases Int.lt_or_le (at_ v (v.length - 1)) (at_ u (j + v.length)) with h | h
 ·exfalso
  have h1 := Int.mul_le_mul_of_nonneg_right (show ((at_ v (v.length - 1) + 1) * 4294967296 + 0) * 4294967296 + 0 ≤ (at_ u (j + v.length) * 4294967296 + at_ u (j + v.length - 1)) * 4294967296 + at_ u (j + v.length - 2) by omega) (Int.le_of_lt hP)
  have h2 := Int.mul_le_mul_of_nonneg_right (show (at_ v (v.length - 1) * 4294967296 + at_ v (v.length - 2) + 1) * 4294967296 ≤ ((at_ v (v.length - 1) + 1) * 4294967296 + 0) * 4294967296 + 0 by omega) (Int.le_of_lt hP)
  have h3 : (at_ v (v.length - 1) * 4294967296 + at_ v (v.length - 2) + 1) * 4294967296 * 4294967296 ^ (v.length - 2) = 4294967296 * ((at_ v (v.length - 1) * 4294967296 + at_ v (v.length - 2)) * 4294967296 ^ (v.length - 2)) + 4294967296 * 4294967296 ^ (v.length - 2) := by grind
  omega
 ·exact h
theorem qlt (K : Knuth v u j q) : q < 4294967296 := by
 have hr := K.rest
 have lt := K.lt
 have hj : val 4294967296 (u.drop j) = at_ u j + 4294967296 * val 4294967296 (u.drop (j + 1)) := val_drop _ _ _ (by omega)
 have d := K.udig j
 rcases Int.lt_or_le q 4294967296 with h | h
 ·exact h
 ·exfalso
  have h1 := Int.mul_le_mul_of_nonneg_right h (Int.le_of_lt K.vpos)
  have := K.ql
  omega
end Knuth
theorem est_l2 {v u : List Int} {j : Nat} {q : Int} (K : Knuth v u j q) (s : Int) (x14 : List Int) (R : List Int × List Int)
  (next : ∀ t, q ≤ t → t ≤ q + 1 → t < 4294967296 → Ev (fun k => bignat_Nat_Div.j3 k s v (v.length : Int) u x14 (j : Int) t) R) (d : Nat) :
  ∀ t r : Int, q ≤ t → 0 ≤ r → r < 4294967296 → (4294967296 - r).toNat ≤ d → t * at_ v (v.length - 1) + r = at_ u (j + v.length) * 4294967296 + at_ u (j + v.length - 1) →
  Ev (fun k => bignat_Nat_Div.l1 k s v (v.length : Int) u x14 (j : Int) t r) R := by
 have n2 := K.n2
 have lt := K.lt
 have hm := K.hm
 have q0 := K.q0
 have hP := Knuth.ppos (v := v)
 obtain ⟨hv, hv0, hv1⟩ := K.vsplit
 obtain ⟨hw, hw0, hw1⟩ := K.usplit
 have a1 := K.vdig (v.length - 1)
 have a2 := K.vdig (v.length - 2)
 have b0 := K.udig (j + v.length)
 have b1 := K.udig (j + v.length - 1)
 have b2 := K.udig (j + v.length - 2)
 have top := K.top
 have ul := K.ulast
 induction d with
 | zero => intro t r _ _ h1 h2; omega
 | succ d ih =>
  intro t r hq r0 r1 hd ht
  have t2 : t < 8589934592 := by
   rcases Int.lt_or_le t 8589934592 with h | h
   ·exact h
   ·exfalso
    have := Int.mul_le_mul_of_nonneg_right h (show 0 ≤ at_ v (v.length - 1) by omega)
    omega
  -- what follows where the digit is too great
  have down : q < t → Ev (fun k => bignat_Nat_Div.j2 k s v (v.length : Int) u x14 (j : Int) t r true) R := by
   intro hlt
   refine Ev.step (fun k => bignat_Nat_Div.j2.eq_2 ..) (Ev.pos rfl ?_)
   rw [w64s1 (by omega) (by omega), rd_nat, u64 (x := at_ v (v.length - 1)) (by omega) (by omega), u64 (x := r + at_ v (v.length - 1)) (by omega) (by omega), u64 (x := t - 1) (by omega) (by omega)]
   refine Ev.pos (by omega) (Ev.pos (by omega) ?_)
   have hs : (t - 1) * at_ v (v.length - 1) + (r + at_ v (v.length - 1)) = at_ u (j + v.length) * 4294967296 + at_ u (j + v.length - 1) := by
    rw [Int.sub_mul, Int.one_mul]; omega
   by_cases hb : r + at_ v (v.length - 1) ≥ 4294967296
   ·refine Ev.pos hb ?_
    have hl : t - 1 < 4294967296 := by
     rcases Int.lt_or_le (t - 1) 4294967296 with h | h
     ·exact h
     ·exfalso
      have g1 := Int.mul_le_mul_of_nonneg_right h (show 0 ≤ at_ v (v.length - 1) by omega)
      omega
    refine next (t - 1) (by omega) ?_ hl
    refine est_less hP hv hv0 hv1 top a2.1 hw hw0 (by omega) hl K.qu ?_
    have g2 : (t - 1) * at_ v (v.length - 2) ≤ 4294967295 * 4294967295 := mul_lt_sq (by omega) (by omega) a2.1 (by omega)
    have g3 : (t - 1) * (at_ v (v.length - 1) * 4294967296 + at_ v (v.length - 2)) = (t - 1) * at_ v (v.length - 1) * 4294967296 + (t - 1) * at_ v (v.length - 2) := by grind
    omega
   ·refine Ev.neg hb ?_
    exact ih (t - 1) (r + at_ v (v.length - 1)) (by omega) (by omega) (by omega) (by omega) hs
  refine Ev.step (fun k => bignat_Nat_Div.l1.eq_2 ..) ?_
  by_cases ht4 : t ≥ 4294967296
  ·exact Ev.pos ht4 (down (by have := K.qlt; omega))
  ·refine Ev.neg ht4 ?_
   rw [w64s2 (by omega) (by omega), w64a (by omega), w64s2 (by omega) (by omega)]
   refine Ev.pos (by omega) (Ev.pos (by omega) (Ev.pos (by omega) (Ev.pos (by omega) ?_)))
   have g2 : t * at_ v (v.length - 2) ≤ 4294967295 * 4294967295 := mul_lt_sq (by omega) (by omega) a2.1 (by omega)
   have g0 : 0 ≤ t * at_ v (v.length - 2) := Int.mul_nonneg (by omega) a2.1
   rw [rd_nat, rd_nat, u64 (x := at_ v (v.length - 2)) (by omega) (by omega), u64 (x := at_ u (j + v.length - 2)) (by omega) (by omega), u64 (x := t * at_ v (v.length - 2)) (by omega) (by omega), u64 (x := r * 4294967296) (by omega) (by omega), or32 r0 r1 b2.1 b2.2]
   by_cases hc : t * at_ v (v.length - 2) > r * 4294967296 + at_ u (j + v.length - 2)
   ·rw [decide_eq_true hc]
    exact down (est_more hP hv hv0 hw hw1 (by omega) K.ql ht hc K.vpos)
   ·rw [decide_eq_false hc]
    refine Ev.step (fun k => bignat_Nat_Div.j2.eq_2 ..) (Ev.neg (by simp) ?_)
    refine next t hq ?_ (by omega)
    refine est_less hP hv hv0 hv1 top a2.1 hw hw0 (by omega) (by omega) K.qu ?_
    have g3 : t * (at_ v (v.length - 1) * 4294967296 + at_ v (v.length - 2)) = t * at_ v (v.length - 1) * 4294967296 + t * at_ v (v.length - 2) := by grind
    omega
end Go.Proofs.Ytccgfmjcldifcaa.P
