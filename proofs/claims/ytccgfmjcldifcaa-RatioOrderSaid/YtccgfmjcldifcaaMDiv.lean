/- What Div comes to: the quotient and the remainder of natural numbers (the divisor is not 0): long division by estimated digits. -/
import Derived.Test.YtccgfmjcldifcaaMShift
namespace Go.Proofs.Ytccgfmjcldifcaa.P
open Go.RowKit Go.Proofs.YtccgfmjcldifcaaW.PrintWords Go.Proofs.YtccgfmjcldifcaaW.PrintMore Go.Proofs.Ytccgfmjcldifcaa.Dg
set_option linter.unusedVariables false
theorem w64s {i c : Nat} (h : c ≤ i) (h2 : i < 9223372036854775807) : wrap64 ((i : Int) - (c : Int)) = ((i - c : Nat) : Int) := by rw [w64 (by omega) (by omega)]; omega
theorem w64s1 {i : Nat} (h : 1 ≤ i) (h2 : i < 9223372036854775807) : wrap64 ((i : Int) - 1) = ((i - 1 : Nat) : Int) := w64s (c := 1) h h2
theorem w64s2 {i : Nat} (h : 2 ≤ i) (h2 : i < 9223372036854775807) : wrap64 ((i : Int) - 2) = ((i - 2 : Nat) : Int) := w64s (c := 2) h h2
section
variable {v1 v2 vr P V u0 u1 u2 wr w q t r : Int}
theorem est_more (hP : 0 < P) (hV : V = (v1 * 4294967296 + v2) * P + vr) (hvr : 0 ≤ vr) (hw : w = ((u0 * 4294967296 + u1) * 4294967296 + u2) * P + wr) (hwr : wr < P)
  (ht0 : 0 ≤ t) (hq : q * V ≤ w) (htop : t * v1 + r = u0 * 4294967296 + u1) (hc : r * 4294967296 + u2 < t * v2) (hVp : 0 < V) : q < t := by
 rcases Int.lt_or_le q t with h | h
 ·exact h
 ·exfalso
  have h1 : t * V ≤ q * V := Int.mul_le_mul_of_nonneg_right h (by omega)
  have h2 : t * V = ((t * v1) * 4294967296 + t * v2) * P + t * vr := by rw [hV]; grind
  have h3 : 0 ≤ t * vr := Int.mul_nonneg ht0 hvr
  have h4 : t * v1 = u0 * 4294967296 + u1 - r := by omega
  rw [h4] at h2
  have h5 := Int.mul_le_mul_of_nonneg_right (show (u0 * 4294967296 + u1) * 4294967296 + u2 + 1 ≤ (u0 * 4294967296 + u1 - r) * 4294967296 + t * v2 by omega) (Int.le_of_lt hP)
  rw [Int.add_mul ((u0 * 4294967296 + u1) * 4294967296 + u2) 1 P, Int.one_mul] at h5
  omega
theorem est_less (hP : 0 < P) (hV : V = (v1 * 4294967296 + v2) * P + vr) (hvr : 0 ≤ vr) (hvr1 : vr < P) (hv1 : 2147483648 ≤ v1) (hv2 : 0 ≤ v2) (hw : w = ((u0 * 4294967296 + u1) * 4294967296 + u2) * P + wr) (hwr : 0 ≤ wr)
  (ht0 : 0 ≤ t) (ht1 : t < 4294967296) (hq : w < (q + 1) * V) (hc : t * (v1 * 4294967296 + v2) ≤ (u0 * 4294967296 + u1) * 4294967296 + u2) : t ≤ q + 1 := by
 have hm : 0 ≤ v1 * P := Int.mul_nonneg (by omega) (by omega)
 have hVP : 9223372036854775808 * P ≤ V := by
  have h1 := Int.mul_le_mul_of_nonneg_right (show 9223372036854775808 ≤ v1 * 4294967296 + v2 by omega) (Int.le_of_lt hP)
  omega
 rcases Int.lt_or_le (q + 1) t with h | h
 ·exfalso
  have h1 : (q + 2) * V ≤ t * V := Int.mul_le_mul_of_nonneg_right (by omega) (by omega)
  have h2 : t * V = t * (v1 * 4294967296 + v2) * P + t * vr := by rw [hV]; grind
  have h3 : t * vr ≤ 4294967295 * P := mul_lt_sq ht0 (by omega) hvr (by omega)
  have h4 := Int.mul_le_mul_of_nonneg_right hc (Int.le_of_lt hP)
  have h5 : (q + 2) * V = (q + 1) * V + V := by grind
  omega
 ·exact h
end
structure Knuth (v u : List Int) (j : Nat) (q : Int) : Prop where
 dv : Dig 4294967296 v
 du : Dig 4294967296 u
 n2 : 2 ≤ v.length
 lt : j + v.length < u.length
 hm : u.length < 1099511627776
 top : 2147483648 ≤ at_ v (v.length - 1)
 rest : val 4294967296 (u.drop (j + 1)) < val 4294967296 v
 q0 : 0 ≤ q
 ql : q * val 4294967296 v ≤ val 4294967296 (u.drop j)
 qu : val 4294967296 (u.drop j) < (q + 1) * val 4294967296 v
theorem val_drop_split {l : List Int} {i n : Nat} (h : i + n ≤ l.length) : val 4294967296 (l.drop i) = val 4294967296 ((l.drop i).take n) + 4294967296 ^ n * val 4294967296 (l.drop (i + n)) := by
 rw [val_split _ (l.drop i) n (by simp; omega), List.drop_drop]
theorem val_zero_of_lt {l : List Int} (hd : Dig 4294967296 l) (n : Nat) (h : val 4294967296 l < 4294967296 ^ n) (hn : n ≤ l.length) : val 4294967296 (l.drop n) = 0 := by
 have h1 := val_split 4294967296 l n hn
 have h2 := val_nonneg (B := 4294967296) (by omega) (hd.take n)
 have h3 := val_nonneg (B := 4294967296) (by omega) (hd.drop n)
 rcases Int.lt_or_le (val 4294967296 (l.drop n)) 1 with g | g
 ·omega
 ·have h4 : (0 : Int) < 4294967296 ^ n := Int.pow_pos (by omega)
  have h5 := Int.mul_le_mul_of_nonneg_left g (Int.le_of_lt h4)
  rw [Int.mul_one] at h5
  omega
namespace Knuth
variable {v u : List Int} {j : Nat} {q : Int}
theorem vpos (K : Knuth v u j q) : 0 < val 4294967296 v := by
 have := val_nonneg (B := 4294967296) (by omega) (K.du.drop (j + 1))
 have := K.rest
 omega
theorem upper (K : Knuth v u j q) : val 4294967296 (u.drop (j + v.length + 1)) = 0 := by
 have h := val_zero_of_lt (K.du.drop (j + 1)) v.length (Int.lt_of_lt_of_le K.rest (Int.le_of_lt (val_lt (by omega) K.dv))) (by have := K.lt; simp; omega)
 rw [List.drop_drop] at h
 rw [show j + v.length + 1 = j + 1 + v.length by omega]
 exact h
theorem vsplit (K : Knuth v u j q) : val 4294967296 v = (at_ v (v.length - 1) * 4294967296 + at_ v (v.length - 2)) * 4294967296 ^ (v.length - 2) + val 4294967296 (v.take (v.length - 2)) ∧ 0 ≤ val 4294967296 (v.take (v.length - 2)) ∧ val 4294967296 (v.take (v.length - 2)) < 4294967296 ^ (v.length - 2) := by
 have n2 := K.n2
 have h1 := val_lt (B := 4294967296) (by omega) (K.dv.take (v.length - 2))
 rw [List.length_take, Nat.min_eq_left (by omega)] at h1
 refine ⟨?_, val_nonneg (by omega) (K.dv.take _), h1⟩
 rw [val_split 4294967296 v (v.length - 2) (by omega), val_drop _ _ _ (by omega), val_drop _ _ _ (by omega), show v.length - 2 + 1 = v.length - 1 by omega, List.drop_eq_nil_of_le (show v.length ≤ v.length - 1 + 1 by omega), val_nil]
 grind
theorem usplit (K : Knuth v u j q) : val 4294967296 (u.drop j) = ((at_ u (j + v.length) * 4294967296 + at_ u (j + v.length - 1)) * 4294967296 + at_ u (j + v.length - 2)) * 4294967296 ^ (v.length - 2) + val 4294967296 ((u.drop j).take (v.length - 2)) ∧ 0 ≤ val 4294967296 ((u.drop j).take (v.length - 2)) ∧ val 4294967296 ((u.drop j).take (v.length - 2)) < 4294967296 ^ (v.length - 2) := by
 have n2 := K.n2
 have lt := K.lt
 have h1 := val_lt (B := 4294967296) (by omega) ((K.du.drop j).take (v.length - 2))
 rw [List.length_take, List.length_drop, Nat.min_eq_left (by omega)] at h1
 refine ⟨?_, val_nonneg (by omega) ((K.du.drop j).take _), h1⟩
 have hu := K.upper
 rw [val_drop_split (l := u) (i := j) (n := v.length - 2) (by omega), show j + (v.length - 2) = j + v.length - 2 by omega, val_drop _ _ (j + v.length - 2) (by omega), show j + v.length - 2 + 1 = j + v.length - 1 by omega, val_drop _ _ (j + v.length - 1) (by omega), show j + v.length - 1 + 1 = j + v.length by omega, val_drop _ _ (j + v.length) (by omega), hu]
 grind
theorem vdig (K : Knuth v u j q) (i : Nat) : 0 ≤ at_ v i ∧ at_ v i < 4294967296 := K.dv.at (by omega) i
theorem udig (K : Knuth v u j q) (i : Nat) : 0 ≤ at_ u i ∧ at_ u i < 4294967296 := K.du.at (by omega) i
theorem ppos : (0 : Int) < 4294967296 ^ (v.length - 2) := Int.pow_pos (by omega)
theorem ulast (K : Knuth v u j q) : at_ u (j + v.length) ≤ at_ v (v.length - 1) := by
 have n2 := K.n2
 have lt := K.lt
 obtain ⟨hv, hv0, hv1⟩ := K.vsplit
 obtain ⟨hw, hw0, hw1⟩ := K.usplit
 have hP : (0 : Int) < 4294967296 ^ (v.length - 2) := ppos
 have hr := K.rest
 have hj : val 4294967296 (u.drop j) = at_ u j + 4294967296 * val 4294967296 (u.drop (j + 1)) := val_drop _ _ _ (by omega)
 have d := K.udig j
 have a := K.udig (j + v.length - 1)
 have b := K.udig (j + v.length - 2)
 have c := K.vdig (v.length - 2)
 rcases Int.lt_or_le (at_ v (v.length - 1)) (at_ u (j + v.length)) with h | h
 ·exfalso
  have h1 := Int.mul_le_mul_of_nonneg_right (show ((at_ v (v.length - 1) + 1) * 4294967296 + 0) * 4294967296 + 0 ≤ (at_ u (j + v.length) * 4294967296 + at_ u (j + v.length - 1)) * 4294967296 + at_ u (j + v.length - 2) by omega) (Int.le_of_lt hP)
  have h2 := Int.mul_le_mul_of_nonneg_right (show (at_ v (v.length - 1) * 4294967296 + at_ v (v.length - 2) + 1) * 4294967296 ≤ ((at_ v (v.length - 1) + 1) * 4294967296 + 0) * 4294967296 + 0 by omega) (Int.le_of_lt hP)
  have h3 : (at_ v (v.length - 1) * 4294967296 + at_ v (v.length - 2) + 1) * 4294967296 * 4294967296 ^ (v.length - 2) = 4294967296 * ((at_ v (v.length - 1) * 4294967296 + at_ v (v.length - 2)) * 4294967296 ^ (v.length - 2)) + 4294967296 * 4294967296 ^ (v.length - 2) := by grind
  omega
 ·exact h
theorem qlt (K : Knuth v u j q) : q < 4294967296 := by
 have hr := K.rest
 have lt := K.lt
 have hj : val 4294967296 (u.drop j) = at_ u j + 4294967296 * val 4294967296 (u.drop (j + 1)) := val_drop _ _ _ (by omega)
 have d := K.udig j
 rcases Int.lt_or_le q 4294967296 with h | h
 ·exact h
 ·exfalso
  have h1 := Int.mul_le_mul_of_nonneg_right h (Int.le_of_lt K.vpos)
  have := K.ql
  omega
end Knuth
theorem est_l2 {v u : List Int} {j : Nat} {q : Int} (K : Knuth v u j q) (s : Int) (x14 : List Int) (R : List Int × List Int)
  (next : ∀ t, q ≤ t → t ≤ q + 1 → t < 4294967296 → Ev (fun k => bignat_Nat_Div.j3 k s v (v.length : Int) u x14 (j : Int) t) R) (d : Nat) :
  ∀ t r : Int, q ≤ t → 0 ≤ r → r < 4294967296 → (4294967296 - r).toNat ≤ d → t * at_ v (v.length - 1) + r = at_ u (j + v.length) * 4294967296 + at_ u (j + v.length - 1) →
  Ev (fun k => bignat_Nat_Div.l1 k s v (v.length : Int) u x14 (j : Int) t r) R := by
 have n2 := K.n2
 have lt := K.lt
 have hm := K.hm
 have q0 := K.q0
 have hP := Knuth.ppos (v := v)
 obtain ⟨hv, hv0, hv1⟩ := K.vsplit
 obtain ⟨hw, hw0, hw1⟩ := K.usplit
 have a1 := K.vdig (v.length - 1)
 have a2 := K.vdig (v.length - 2)
 have b0 := K.udig (j + v.length)
 have b1 := K.udig (j + v.length - 1)
 have b2 := K.udig (j + v.length - 2)
 have top := K.top
 have ul := K.ulast
 induction d with
 | zero => intro t r _ _ h1 h2; omega
 | succ d ih =>
  intro t r hq r0 r1 hd ht
  have t2 : t < 8589934592 := by
   rcases Int.lt_or_le t 8589934592 with h | h
   ·exact h
   ·exfalso
    have := Int.mul_le_mul_of_nonneg_right h (show 0 ≤ at_ v (v.length - 1) by omega)
    omega
  -- what follows where the digit is too great
  have down : q < t → Ev (fun k => bignat_Nat_Div.j2 k s v (v.length : Int) u x14 (j : Int) t r true) R := by
   intro hlt
   refine Ev.step (fun k => bignat_Nat_Div.j2.eq_2 ..) (Ev.pos rfl ?_)
   rw [w64s1 (by omega) (by omega), rd_nat, u64 (x := at_ v (v.length - 1)) (by omega) (by omega), u64 (x := r + at_ v (v.length - 1)) (by omega) (by omega), u64 (x := t - 1) (by omega) (by omega)]
   refine Ev.pos (by omega) (Ev.pos (by omega) ?_)
   have hs : (t - 1) * at_ v (v.length - 1) + (r + at_ v (v.length - 1)) = at_ u (j + v.length) * 4294967296 + at_ u (j + v.length - 1) := by
    rw [Int.sub_mul, Int.one_mul]; omega
   by_cases hb : r + at_ v (v.length - 1) ≥ 4294967296
   ·refine Ev.pos hb ?_
    have hl : t - 1 < 4294967296 := by
     rcases Int.lt_or_le (t - 1) 4294967296 with h | h
     ·exact h
     ·exfalso
      have g1 := Int.mul_le_mul_of_nonneg_right h (show 0 ≤ at_ v (v.length - 1) by omega)
      omega
    refine next (t - 1) (by omega) ?_ hl
    refine est_less hP hv hv0 hv1 top a2.1 hw hw0 (by omega) hl K.qu ?_
    have g2 : (t - 1) * at_ v (v.length - 2) ≤ 4294967295 * 4294967295 := mul_lt_sq (by omega) (by omega) a2.1 (by omega)
    have g3 : (t - 1) * (at_ v (v.length - 1) * 4294967296 + at_ v (v.length - 2)) = (t - 1) * at_ v (v.length - 1) * 4294967296 + (t - 1) * at_ v (v.length - 2) := by grind
    omega
   ·refine Ev.neg hb ?_
    exact ih (t - 1) (r + at_ v (v.length - 1)) (by omega) (by omega) (by omega) (by omega) hs
  refine Ev.step (fun k => bignat_Nat_Div.l1.eq_2 ..) ?_
  by_cases ht4 : t ≥ 4294967296
  ·exact Ev.pos ht4 (down (by have := K.qlt; omega))
  ·refine Ev.neg ht4 ?_
   rw [w64s2 (by omega) (by omega), w64a (by omega), w64s2 (by omega) (by omega)]
   refine Ev.pos (by omega) (Ev.pos (by omega) (Ev.pos (by omega) (Ev.pos (by omega) ?_)))
   have g2 : t * at_ v (v.length - 2) ≤ 4294967295 * 4294967295 := mul_lt_sq (by omega) (by omega) a2.1 (by omega)
   have g0 : 0 ≤ t * at_ v (v.length - 2) := Int.mul_nonneg (by omega) a2.1
   rw [rd_nat, rd_nat, u64 (x := at_ v (v.length - 2)) (by omega) (by omega), u64 (x := at_ u (j + v.length - 2)) (by omega) (by omega), u64 (x := t * at_ v (v.length - 2)) (by omega) (by omega), u64 (x := r * 4294967296) (by omega) (by omega), or32 r0 r1 b2.1 b2.2]
   by_cases hc : t * at_ v (v.length - 2) > r * 4294967296 + at_ u (j + v.length - 2)
   ·rw [decide_eq_true hc]
    exact down (est_more hP hv hv0 hw hw1 (by omega) K.ql ht hc K.vpos)
   ·rw [decide_eq_false hc]
    refine Ev.step (fun k => bignat_Nat_Div.j2.eq_2 ..) (Ev.neg (by simp) ?_)
    refine next t hq ?_ (by omega)
    refine est_less hP hv hv0 hv1 top a2.1 hw hw0 (by omega) (by omega) K.qu ?_
    have g3 : t * (at_ v (v.length - 1) * 4294967296 + at_ v (v.length - 2)) = t * at_ v (v.length - 1) * 4294967296 + t * at_ v (v.length - 2) := by grind
    omega
end Go.Proofs.Ytccgfmjcldifcaa.P
namespace Go.Proofs.Ytccgfmjcldifcaa.P
open Go.RowKit Go.Proofs.YtccgfmjcldifcaaW.PrintWords Go.Proofs.YtccgfmjcldifcaaW.PrintMore Go.Proofs.Ytccgfmjcldifcaa.Dg
set_option linter.unusedVariables false
theorem lessAt_ev {u v r : List Int} {t : Int} {lo hi : Nat} {b : Bool} (h1 : lo < hi) (h2 : hi ≤ u.length) (h : Ev (fun k => bignat_less.f k ((u.take hi).drop lo) v t) (b, r)) :
  Ev (fun k => bignat_lessAt.f k u v t (lo : Int) (hi : Int)) (b, u.take lo ++ r ++ u.drop hi) := by
 unfold bignat_lessAt.f
 refine Ev.pos ⟨by omega, by omega, by omega⟩ ?_
 rw [Int.toNat_natCast, Int.toNat_natCast]
 exact Ev.bind h (Ev.now _)
theorem moreAt_ev {u v r r2 : List Int} {lo hi : Nat} (h1 : lo < hi) (h2 : hi ≤ u.length) (hr : r.length = hi - lo) (h : Ev (fun k => bignat_more.f k r v) r2) :
  Ev (fun k => bignat_moreAt.f k (u.take lo ++ r ++ u.drop hi) v (lo : Int) (hi : Int)) (u.take lo ++ r2 ++ u.drop hi) := by
 have hl : (u.take lo).length = lo := by rw [List.length_take]; omega
 have h3 : (u.take lo ++ r).length = hi := by rw [List.length_append, hl]; omega
 have e1 : (u.take lo ++ r ++ u.drop hi).take hi = u.take lo ++ r := by rw [← h3, List.take_left']; rfl
 have e2 : (u.take lo ++ r).drop lo = r := by rw [List.drop_left' hl]
 have e3 : (u.take lo ++ r ++ u.drop hi).take lo = u.take lo := by rw [List.append_assoc, List.take_left' hl]
 have e4 : (u.take lo ++ r ++ u.drop hi).drop hi = u.drop hi := by rw [List.drop_left' h3]
 unfold bignat_moreAt.f
 refine Ev.pos ⟨by omega, by omega, ?_⟩ ?_
 ·have : (u.take lo ++ r ++ u.drop hi).length = u.length := by rw [List.length_append, h3, List.length_drop]; omega
  omega
 rw [Int.toNat_natCast, Int.toNat_natCast, e1, e2, e3, e4]
 exact Ev.bind h (Ev.now _)
theorem copyTo_eq {l : List Int} {m : Nat} (h : l.length ≤ m) : bignat_copyTo.f (List.replicate m (0 : Int)) l = some (l ++ List.replicate (m - l.length) 0) := by
 unfold bignat_copyTo.f
 rw [List.length_replicate, Nat.min_eq_left h, List.take_length, List.drop_replicate]
theorem window_eq (u : List Int) (j n : Nat) : (u.take (j + n + 1)).drop j = (u.drop j).take (n + 1) := by
 rw [List.drop_take, show j + n + 1 - j = n + 1 by omega]
theorem put_len {u r : List Int} {j n : Nat} (h : j + n < u.length) (hr : r.length = n + 1) : (u.take j ++ r ++ u.drop (j + n + 1)).length = u.length := by
 simp only [List.length_append, List.length_take, List.length_drop]; omega
theorem put_drop {u r : List Int} {j n : Nat} (h : j + n < u.length) (hr : r.length = n + 1) : (u.take j ++ r ++ u.drop (j + n + 1)).drop j = r ++ u.drop (j + n + 1) := by
 rw [List.append_assoc, List.drop_append_of_le_length (by simp; omega), List.drop_eq_nil_of_le (by simp; omega), List.nil_append]
theorem put_take {u r : List Int} {j n : Nat} (h : j + n < u.length) (hr : r.length = n + 1) : (u.take j ++ r ++ u.drop (j + n + 1)).take j = u.take j := by
 rw [List.append_assoc, List.take_append_of_le_length (by simp; omega), List.take_take, Nat.min_self]
theorem div_l1 {v : List Int} (s : Nat) (U0 V : Nat) (hs : s < 32) (dv : Dig 4294967296 v) (n2 : 2 ≤ v.length) (top : 2147483648 ≤ at_ v (v.length - 1)) (hV : val 4294967296 v = V) (j : Nat) :
  ∀ u q : List Int, Dig 4294967296 u → Dig 4294967296 q → u.length = q.length + v.length → u.length < 1099511627000 → j ≤ q.length → (∀ i, i < j → at_ q i = 0) → val 4294967296 (u.drop j) < val 4294967296 v → val 4294967296 u + V * val 4294967296 q = U0 →
  Ev (fun k => bignat_Nat_Div.l0 k (s : Int) v (v.length : Int) u q ((j : Int) - 1)) (W (U0 / V), W (U0 % V / 2 ^ s)) := by
 induction j with
 | zero =>
  intro u q du dq hl hm hj hz hlt he
  rw [List.drop_zero] at hlt
  obtain ⟨a, ha⟩ : ∃ a : Nat, val 4294967296 u = a := ⟨(val 4294967296 u).toNat, by have := val_nonneg (B := 4294967296) (by omega) du; omega⟩
  obtain ⟨b, hb⟩ : ∃ b : Nat, val 4294967296 q = b := ⟨(val 4294967296 q).toNat, by have := val_nonneg (B := 4294967296) (by omega) dq; omega⟩
  rw [ha, hb] at he
  rw [ha, hV] at hlt
  have he' : a + V * b = U0 := by exact_mod_cast he
  have h1 : U0 / V = b := by rw [← he', Nat.add_mul_div_left _ _ (by omega), Nat.div_eq_of_lt (by omega), Nat.zero_add]
  have h2 : U0 % V = a := by rw [← he', Nat.add_mul_mod_self_left, Nat.mod_eq_of_lt (by omega)]
  rw [h1, h2]
  refine Ev.step (fun k => bignat_Nat_Div.l0.eq_2 ..) (Ev.neg (by omega) ?_)
  refine Ev.bind (norm_ev dq hb (by omega)) (Ev.bind (norm_ev du ha (by omega)) (Ev.bind (low_ev ?_ hs) (Ev.now _)))
  have hlen : a < 4294967296 ^ u.length := by
   have := val_lt (B := 4294967296) (by omega) du
   rw [ha, show (4294967296 : Int) ^ u.length = ((4294967296 ^ u.length : Nat) : Int) from (Int.natCast_pow 4294967296 u.length).symm] at this
   exact Int.ofNat_lt.1 this
  exact Nat.lt_of_le_of_lt (len_dg_le (B := 4294967296) (by omega) u.length a hlen) (by omega)
 | succ j ih =>
  intro u q du dq hl hm hj hz hlt he
  have hvpos : 0 < val 4294967296 v := by have := val_nonneg (B := 4294967296) (by omega) (du.drop (j + 1)); omega
  have hqd := Int.emod_add_mul_ediv (val 4294967296 (u.drop j)) (val 4294967296 v)
  have hm0 := Int.emod_nonneg (val 4294967296 (u.drop j)) (show val 4294967296 v ≠ 0 by omega)
  have hm1 := Int.emod_lt_of_pos (val 4294967296 (u.drop j)) hvpos
  have hu0 := val_nonneg (B := 4294967296) (by omega) (du.drop j)
  obtain ⟨qd, hqd'⟩ : ∃ z, val 4294967296 (u.drop j) / val 4294967296 v = z := ⟨_, rfl⟩
  rw [hqd'] at hqd
  have q0 : 0 ≤ qd := by rw [← hqd']; exact Int.ediv_nonneg hu0 (by omega)
  have K : Knuth v u j qd := ⟨dv, du, n2, by omega, by omega, top, hlt, q0, by rw [Int.mul_comm]; omega, by rw [Int.add_mul, Int.one_mul, Int.mul_comm]; omega⟩
  have a1 := K.vdig (v.length - 1)
  have b0 := K.udig (j + v.length)
  have b1 := K.udig (j + v.length - 1)
  have ul := K.ulast
  refine Ev.step (fun k => bignat_Nat_Div.l0.eq_2 ..) ?_
  rw [show ((j + 1 : Nat) : Int) - 1 = (j : Int) by omega, w64a (by omega), w64s1 (by omega) (by omega), w64s1 (by omega) (by omega)]
  refine Ev.pos (by omega) (Ev.pos (by omega) (Ev.pos (by omega) (Ev.pos (by omega) (Ev.pos (by omega) (Ev.pos (by omega) (Ev.pos (by omega) ?_))))))
  rw [rd_nat, rd_nat, rd_nat, u64 (x := at_ v (v.length - 1)) (by omega) (by omega), u64 (x := at_ u (j + v.length)) (by omega) (by omega), u64 (x := at_ u (j + v.length - 1)) (by omega) (by omega), u64 (x := at_ u (j + v.length) * 4294967296) (by omega) (by omega), or32 b0.1 b0.2 b1.1 b1.2, tdiv_pos (by omega), tmod_pos (by omega)]
  refine Ev.neg (by omega) ?_
  obtain ⟨tp, htp⟩ : ∃ z, at_ u (j + v.length) * 4294967296 + at_ u (j + v.length - 1) = z := ⟨_, rfl⟩
  have hd := Int.emod_add_mul_ediv tp (at_ v (v.length - 1))
  have hd0 := Int.emod_nonneg tp (show at_ v (v.length - 1) ≠ 0 by omega)
  have hd1 := Int.emod_lt_of_pos tp (show 0 < at_ v (v.length - 1) by omega)
  have hd2 : 0 ≤ tp / at_ v (v.length - 1) := Int.ediv_nonneg (by omega) (by omega)
  have hd3 : tp / at_ v (v.length - 1) ≤ tp := Int.ediv_le_self _ (by omega)
  rw [htp, u64 hd2 (by omega)]
  -- the first guess is not too small
  have hfirst : qd ≤ tp / at_ v (v.length - 1) := by
   obtain ⟨hv, hv0, hv1⟩ := K.vsplit
   obtain ⟨hw, hw0, hw1⟩ := K.usplit
   have hP := Knuth.ppos (v := v)
   rcases Int.lt_or_le (tp / at_ v (v.length - 1)) qd with h | h
   ·exfalso
    have h1 := K.ql
    rw [hv, hw] at h1
    have c2 := K.vdig (v.length - 2)
    have b2 := K.udig (j + v.length - 2)
    have h3 : tp + 1 ≤ qd * at_ v (v.length - 1) := by
     have g1 := Int.mul_le_mul_of_nonneg_right (show tp / at_ v (v.length - 1) + 1 ≤ qd by omega) (show 0 ≤ at_ v (v.length - 1) by omega)
     rw [Int.add_mul, Int.one_mul, Int.mul_comm] at g1
     omega
    have h4 := Int.mul_le_mul_of_nonneg_right (show (tp + 1) * 4294967296 ≤ qd * at_ v (v.length - 1) * 4294967296 by omega) (Int.le_of_lt hP)
    have h5 : 0 ≤ qd * at_ v (v.length - 2) * 4294967296 ^ (v.length - 2) := Int.mul_nonneg (Int.mul_nonneg q0 c2.1) (Int.le_of_lt hP)
    have h6 : 0 ≤ qd * val 4294967296 (v.take (v.length - 2)) := Int.mul_nonneg q0 hv0
    have h7 : qd * ((at_ v (v.length - 1) * 4294967296 + at_ v (v.length - 2)) * 4294967296 ^ (v.length - 2) + val 4294967296 (v.take (v.length - 2))) = qd * at_ v (v.length - 1) * 4294967296 * 4294967296 ^ (v.length - 2) + qd * at_ v (v.length - 2) * 4294967296 ^ (v.length - 2) + qd * val 4294967296 (v.take (v.length - 2)) := by grind
    have h8 := Int.mul_le_mul_of_nonneg_right (show (at_ u (j + v.length) * 4294967296 + at_ u (j + v.length - 1)) * 4294967296 + at_ u (j + v.length - 2) + 1 ≤ (tp + 1) * 4294967296 by omega) (Int.le_of_lt hP)
    rw [Int.add_mul _ 1 (4294967296 ^ (v.length - 2)), Int.one_mul] at h8
    omega
   ·exact h
  refine est_l2 K s q _ (fun t ht0 ht1 ht2 => ?_) (4294967296 - tp % at_ v (v.length - 1)).toNat (tp / at_ v (v.length - 1)) (tp % at_ v (v.length - 1)) hfirst hd0 (by omega) (Nat.le_refl _) (by rw [Int.mul_comm]; omega)
  -- the digit's product is taken off
  refine Ev.step (fun k => bignat_Nat_Div.j3.eq_2 ..) ?_
  rw [w64a (by omega), w64i (by omega)]
  have hwl : ((u.drop j).take (v.length + 1)).length = v.length + 1 := by simp; omega
  have hwd : Dig 4294967296 ((u.drop j).take (v.length + 1)) := (du.drop j).take _
  have hwv : val 4294967296 ((u.drop j).take (v.length + 1)) = val 4294967296 (u.drop j) := by
   have := val_drop_split (l := u) (i := j) (n := v.length + 1) (by omega)
   rw [← Nat.add_assoc, K.upper, Int.mul_zero, Int.add_zero] at this
   exact this.symm
  obtain ⟨r, b', hr, hrl, hrd, hb0, hb1, hrv⟩ := less_ev (t := t) hwd dv (by omega) ht2 (by omega) (by omega)
  rw [hwl] at hrl hrv
  rw [hwv] at hrv
  have hB := val_lt (B := 4294967296) (by omega) hrd
  have hB0 := val_nonneg (B := 4294967296) (by omega) hrd
  rw [hrl] at hB
  have hBV : val 4294967296 v < 4294967296 ^ (v.length + 1) := Int.lt_of_lt_of_le (val_lt (by omega) dv) (by rw [Int.pow_succ]; have : (0 : Int) < 4294967296 ^ v.length := Int.pow_pos (by omega); omega)
  refine Ev.bind (lessAt_ev (by omega) (by omega) (by rw [window_eq]; exact hr)) ?_
  -- what goes on with the right rest z in the window and the right digit
  have goes : ∀ z : List Int, z.length = v.length + 1 → Dig 4294967296 z → val 4294967296 z = val 4294967296 (u.drop j) - qd * val 4294967296 v →
    Ev (fun k => bignat_Nat_Div.l0 k (s : Int) v (v.length : Int) (u.take j ++ z ++ u.drop (j + v.length + 1)) (q.set j qd) ((j : Int) - 1)) (W (U0 / V), W (U0 % V / 2 ^ s)) := by
   intro z hzl hzd hzv
   have hpd := put_drop (u := u) (r := z) (j := j) (n := v.length) (by omega) hzl
   have hpv : val 4294967296 (z ++ u.drop (j + v.length + 1)) = val 4294967296 z := by rw [val_append, K.upper, Int.mul_zero, Int.add_zero]
   refine ih _ _ (((du.take j).append hzd).append (du.drop _)) (dq.set _ q0 K.qlt) (by rw [put_len (by omega) hzl]; simpa using hl) (by rw [put_len (by omega) hzl]; exact hm) (by simp; omega) (fun i hi => ?_) ?_ ?_
   ·rw [at_set_ne (by omega)]; exact hz i (by omega)
   ·rw [hpd, hpv, hzv, Int.mul_comm]; omega
   ·rw [val_split _ (u.take j ++ z ++ u.drop (j + v.length + 1)) j (by rw [put_len (by omega) hzl]; omega), put_take (by omega) hzl, hpd, hpv, hzv, val_set _ _ _ _ (by omega), hz j (by omega), ← he, val_split _ u j (by omega), ← hV]
    grind
  by_cases hcase : t = qd
  ·subst hcase
   have hb : b' = 0 := by
    rcases (show b' = 0 ∨ b' = -1 by omega) with h | h
    ·exact h
    ·subst h; exfalso
     rw [Int.mul_comm] at hqd
     omega
   subst hb
   rw [Int.zero_mul, Int.add_zero] at hrv
   refine Ev.neg (by simp) (Ev.pos (by omega) (Ev.pos (by omega) ?_))
   rw [Int.toNat_natCast, Int.emod_eq_of_lt q0 ht2, w64 (by omega) (by omega)]
   exact goes r hrl hrd hrv
  ·have ht : t = qd + 1 := by omega
   have hb : b' = -1 := by
    rcases (show b' = 0 ∨ b' = -1 by omega) with h | h
    ·subst h; exfalso
     rw [ht, Int.add_mul, Int.one_mul, Int.mul_comm qd] at hrv
     omega
    ·exact h
   subst hb
   obtain ⟨r2, c', hr2, hr2l, hr2d, hc0, hc1, hr2v⟩ := more_ev hrd dv (by omega) (by omega)
   rw [hrl] at hr2l hr2v
   have hB2 := val_lt (B := 4294967296) (by omega) hr2d
   have hB20 := val_nonneg (B := 4294967296) (by omega) hr2d
   rw [hr2l] at hB2
   have hc : c' = 1 := by
    rcases (show c' = 0 ∨ c' = 1 by omega) with h | h
    ·subst h; exfalso
     rw [ht, Int.add_mul, Int.one_mul, Int.mul_comm qd] at hrv
     omega
    ·exact h
   subst hc
   refine Ev.pos (by simp) (Ev.bind (moreAt_ev (by omega) (by omega) (by omega) hr2) (Ev.pos (by omega) (Ev.pos (by omega) ?_)))
   rw [Int.toNat_natCast, u64 (x := t - 1) (by omega) (by omega), Int.emod_eq_of_lt (a := t - 1) (by omega) (by omega), w64 (by omega) (by omega), show t - 1 = qd by omega]
   refine goes r2 hr2l hr2d ?_
   rw [ht, Int.add_mul, Int.one_mul] at hrv
   omega
theorem bitLenAux_spec : ∀ (f x : Nat), x < 2 ^ f → x < 2 ^ Lib.bitLenAux f x ∧ (0 < x → 2 ^ (Lib.bitLenAux f x - 1) ≤ x ∧ 0 < Lib.bitLenAux f x)
 | 0, x, h => by
  have : x = 0 := by simpa using h
  subst this; exact ⟨by simp [Lib.bitLenAux], fun h => by omega⟩
 | f + 1, x, h => by
  rw [Lib.bitLenAux]
  by_cases hx : x = 0
  ·subst hx; simp
  ·rw [if_neg hx]
   have hh : x / 2 < 2 ^ f := by rw [Nat.pow_succ] at h; omega
   obtain ⟨h1, h2⟩ := bitLenAux_spec f (x / 2) hh
   refine ⟨by rw [Nat.add_comm, Nat.pow_succ]; omega, fun _ => ⟨?_, by omega⟩⟩
   rw [Nat.add_sub_cancel_left]
   rcases Nat.eq_zero_or_pos (x / 2) with g | g
   ·rw [g] at h1 ⊢
    have e : Lib.bitLenAux f 0 = 0 := by cases f <;> simp [Lib.bitLenAux]
    rw [e]; simp; omega
   ·obtain ⟨h3, h4⟩ := h2 g
    obtain ⟨m, hm⟩ : ∃ m, Lib.bitLenAux f (x / 2) = m + 1 := ⟨_, (Nat.succ_pred_eq_of_pos h4).symm⟩
    rw [hm] at h3 ⊢
    rw [Nat.add_sub_cancel] at h3
    rw [Nat.pow_succ]; omega
theorem bitLen_spec {x : Nat} (h0 : 0 < x) (h : x < 4294967296) : x < 2 ^ Lib.bitLen x ∧ 2 ^ (Lib.bitLen x - 1) ≤ x ∧ 0 < Lib.bitLen x ∧ Lib.bitLen x ≤ 32 := by
 obtain ⟨h1, h2⟩ := bitLenAux_spec 64 x (Nat.lt_trans h (by decide))
 obtain ⟨h3, h4⟩ := h2 h0
 refine ⟨h1, h3, h4, ?_⟩
 rcases Nat.lt_or_ge 32 (Lib.bitLen x) with g | g
 ·exfalso
  have : 2 ^ 32 ≤ 2 ^ (Lib.bitLen x - 1) := Nat.pow_le_pow_right (by omega) (by omega)
  have h3' : 2 ^ (Lib.bitLen x - 1) ≤ x := h3
  have e : (2 : Nat) ^ 32 = 4294967296 := by decide
  omega
 ·exact g
theorem W_len (n : Nat) : n < 4294967296 ^ (W n).length := lt_pow_len (B := 4294967296) (by omega) n
theorem W_len_le {n : Nat} (hn : 0 < n) : 4294967296 ^ ((W n).length - 1) ≤ n := pow_len_le (B := 4294967296) (by omega) hn
theorem W_len_of {n k : Nat} (h : n < 4294967296 ^ k) : (W n).length ≤ k := len_dg_le (B := 4294967296) (by omega) k n h
theorem W_len_pos {n : Nat} (h : 0 < n) : 0 < (W n).length := by
 rcases Nat.eq_zero_or_pos (W n).length with g | g
 ·have := W_nil.1 (List.length_eq_zero_iff.1 g); omega
 ·exact g
theorem W_top {n : Nat} (hn : 0 < n) : ∃ t : Nat, at_ (W n) ((W n).length - 1) = t ∧ 0 < t ∧ t < 4294967296 ∧ t * 4294967296 ^ ((W n).length - 1) ≤ n ∧ n < (t + 1) * 4294967296 ^ ((W n).length - 1) := by
 have hl := W_len_pos hn
 have hd := (W_dig n).at (by omega) ((W n).length - 1)
 obtain ⟨t, ht⟩ : ∃ t : Nat, at_ (W n) ((W n).length - 1) = t := ⟨(at_ (W n) ((W n).length - 1)).toNat, by omega⟩
 have h1 := val_split 4294967296 (W n) ((W n).length - 1) (by omega)
 rw [W_val, val_drop _ _ _ (by omega), List.drop_eq_nil_of_le (show (W n).length ≤ (W n).length - 1 + 1 by omega), val_nil, ht] at h1
 have h2 := val_lt (B := 4294967296) (by omega) ((W_dig n).take ((W n).length - 1))
 rw [List.length_take, Nat.min_eq_left (by omega)] at h2
 have h3 := val_nonneg (B := 4294967296) (by omega) ((W_dig n).take ((W n).length - 1))
 obtain ⟨a, ha⟩ : ∃ a : Nat, val 4294967296 ((W n).take ((W n).length - 1)) = a := ⟨(val 4294967296 ((W n).take ((W n).length - 1))).toNat, by omega⟩
 rw [ha, show (4294967296 : Int) ^ ((W n).length - 1) = ((4294967296 ^ ((W n).length - 1) : Nat) : Int) from (Int.natCast_pow 4294967296 _).symm] at h1 h2
 have h4 := W_len_le hn
 generalize 4294967296 ^ ((W n).length - 1) = P at *
 have h1' : n = a + P * t := by
  have : (n : Int) = ((a + P * t : Nat) : Int) := by rw [h1]; simp
  exact Int.ofNat_inj.1 this
 have ht0 : 0 < t := by
  rcases Nat.eq_zero_or_pos t with g | g
  ·subst g; omega
  ·exact g
 refine ⟨t, ht, ht0, by omega, ?_, ?_⟩
 ·rw [Nat.mul_comm]; omega
 ·rw [Nat.add_mul, Nat.one_mul, Nat.mul_comm]; omega
theorem lead_some {x : Nat} (h1 : x < 4294967296) : bits_LeadingZeros32.f (x : Int) = some (32 - (Lib.bitLen x : Int)) := by
 unfold bits_LeadingZeros32.f
 rw [if_pos ⟨by omega, by omega⟩, Int.toNat_natCast]
theorem div_ev {a b : Nat} (ha : Sm a) (hb : 0 < b) : Ev (fun k => bignat_Nat_Div.f k (W a) (W b)) (W (a / b), W (a % b)) := by
 unfold bignat_Nat_Div.f
 refine Ev.bind (cmp_ev ha) ?_
 by_cases hab : a < b
 ·refine Ev.pos (by rw [cmp_lt (by omega)]; omega) (Ev.some ?_)
  rw [Nat.div_eq_of_lt hab, Nat.mod_eq_of_lt hab, W_zero]
 ·refine Ev.neg (by unfold cmp; rw [if_neg (by omega)]; split <;> omega) ?_
  have hlen : (W b).length ≤ (W a).length := len_dg_mono (B := 4294967296) (by omega) (by omega)
  have hbl := W_len_pos hb
  unfold Sm at ha
  obtain ⟨t, ht, t0, t1, tl, tu⟩ := W_top hb
  by_cases h1 : (W b).length = 1
  ·refine Ev.pos (by omega) (Ev.pos (by omega) ?_)
   rw [h1] at ht tl tu
   simp only [Nat.sub_self, Nat.pow_zero, Nat.mul_one] at ht tl tu
   have hbt : b = t := by omega
   have e : rd (W b) 0 = (b : Int) := by rw [hbt] at ht ⊢; exact ht
   rw [e]
   refine Ev.bind (small_ev ha hb (by omega)) ?_
   have := Nat.mod_lt a hb
   rw [u64 (by omega) (by omega)]
   exact Ev.bind (of_ev (by omega)) (Ev.now _)
  ·refine Ev.neg (by omega) ?_
   rw [w64s1 (by omega) (by omega), rd_nat, ht]
   refine Ev.pos (by omega) (Ev.pos (by omega) (Ev.bindo (lead_some t1) ?_))
   obtain ⟨l1, l2, l3, l4⟩ := bitLen_spec t0 t1
   generalize Lib.bitLen t = L at *
   obtain ⟨s, hs⟩ : ∃ s : Nat, 32 - L = s := ⟨_, rfl⟩
   have e1 : IntKind.u64.wrap (32 - (L : Int)) = (s : Int) := by rw [u64 (by omega) (by omega)]; omega
   have e2 : wrap64 (s : Int) = (s : Int) := w64 (by omega) (by omega)
   rw [e1, e2]; clear e1 e2
   have hs31 : s < 32 := by omega
   refine Ev.bind (shift_ev (by omega)) ?_
   rw [w64i (by omega), Int.toNat_natCast]
   refine Ev.pos (by omega) (Ev.pos (by omega) (Ev.bindo rfl (Ev.bind (shift_ev (by omega)) ?_)))
   -- lengths of the shifted numbers
   have hps : 0 < 2 ^ s := Nat.pow_pos (by omega)
   have hs32 : (2 : Nat) ^ s < 4294967296 := Nat.pow_lt_pow_right (a := 2) (by omega) hs31
   have hbb : L + s = 32 := by omega
   have hVlen : (W (b * 2 ^ s)).length = (W b).length := by
    refine Nat.le_antisymm (W_len_of ?_) (len_dg_mono (B := 4294967296) (by omega) (Nat.le_mul_of_pos_right _ hps))
    obtain ⟨m, hm⟩ : ∃ m, (W b).length = m + 1 := ⟨_, (Nat.succ_pred_eq_of_pos hbl).symm⟩
    rw [hm] at tu ⊢
    rw [Nat.add_sub_cancel] at tu
    rw [Nat.pow_succ]
    have g1 : (t + 1) * 2 ^ s ≤ 4294967296 := by
     have := Nat.mul_le_mul_right (2 ^ s) (show t + 1 ≤ 2 ^ L by omega)
     rw [← Nat.pow_add, hbb] at this
     exact this
    have g2 := Nat.mul_lt_mul_of_pos_right tu hps
    have g3 := Nat.mul_le_mul_left (4294967296 ^ m) g1
    have g4 : (t + 1) * 4294967296 ^ m * 2 ^ s = 4294967296 ^ m * ((t + 1) * 2 ^ s) := by grind
    omega
   have hVtop : 2147483648 ≤ at_ (W (b * 2 ^ s)) ((W (b * 2 ^ s)).length - 1) := by
    obtain ⟨y, hy, y0, y1, yl, yu⟩ := W_top (show 0 < b * 2 ^ s from Nat.mul_pos hb hps)
    rw [hy]
    rw [hVlen] at yl yu
    rcases Nat.lt_or_ge y 2147483648 with g | g
    ·exfalso
     have g1 : 2147483648 ≤ t * 2 ^ s := by
      have := Nat.mul_le_mul_right (2 ^ s) l2
      rw [← Nat.pow_add, show L - 1 + s = 31 by omega] at this
      exact this
     have g2 := Nat.mul_le_mul_right (2 ^ s) tl
     have g3 := Nat.mul_le_mul_right (4294967296 ^ ((W b).length - 1)) (show y + 1 ≤ t * 2 ^ s by omega)
     have g4 : t * 4294967296 ^ ((W b).length - 1) * 2 ^ s = t * 2 ^ s * 4294967296 ^ ((W b).length - 1) := by grind
     omega
    ·omega
   have hUlen : (W (a * 2 ^ s)).length ≤ (W a).length + 1 := by
    refine W_len_of ?_
    rw [Nat.pow_succ]
    have g1 := Nat.mul_lt_mul_of_pos_right (W_len a) hps
    have g2 := Nat.mul_le_mul_left (4294967296 ^ (W a).length) (Nat.le_of_lt hs32)
    omega
   obtain ⟨m, hm⟩ : ∃ m, (W a).length + 1 = m := ⟨_, rfl⟩
   rw [hm]
   refine Ev.bindo (copyTo_eq (by omega)) ?_
   obtain ⟨U, hU⟩ : ∃ U, W (a * 2 ^ s) ++ List.replicate (m - (W (a * 2 ^ s)).length) (0 : Int) = U := ⟨_, rfl⟩
   have hUl : U.length = m := by rw [← hU]; simp; omega
   have hUd : Dig 4294967296 U := by rw [← hU]; exact (W_dig _).append (Dig.replicate (by omega) _)
   have hUv : val 4294967296 U = ((a * 2 ^ s : Nat) : Int) := by rw [← hU, val_append, val_replicate, Int.mul_zero, Int.add_zero, W_val]
   rw [hU, List.length_replicate, hVlen, w64s (by omega) (by omega)]
   refine Ev.pos (by omega) (Ev.pos (by rw [Int.toNat_natCast]; omega) (Ev.bindo rfl ?_))
   rw [Int.toNat_natCast, List.length_replicate, w64 (by omega) (by omega)]
   rw [show (W b).length = (W (b * 2 ^ s)).length from hVlen.symm]
   have hfin : a * 2 ^ s / (b * 2 ^ s) = a / b := Nat.mul_div_mul_right _ _ hps
   have hfin2 : a * 2 ^ s % (b * 2 ^ s) / 2 ^ s = a % b := by rw [Nat.mul_mod_mul_right, Nat.mul_div_cancel _ hps]
   have := div_l1 (v := W (b * 2 ^ s)) s (a * 2 ^ s) (b * 2 ^ s) hs31 (W_dig _) (by omega) hVtop (W_val _) (m - (W (b * 2 ^ s)).length) U (List.replicate (m - (W (b * 2 ^ s)).length) 0) hUd (Dig.replicate (by omega) _) (by simp; omega) (by omega) (by simp) (fun i _ => at_replicate _ i) ?_ (by rw [hUv, val_replicate, Int.mul_zero, Int.add_zero])
   ·rw [hfin, hfin2] at this
    exact this
   ·-- the first rest is less than the divisor
    rw [W_val]
    have g1 := val_split 4294967296 U (m - (W (b * 2 ^ s)).length) (by omega)
    rw [hUv] at g1
    have g2 := val_nonneg (B := 4294967296) (by omega) (hUd.take (m - (W (b * 2 ^ s)).length))
    obtain ⟨z, hz⟩ : ∃ z : Nat, val 4294967296 (U.drop (m - (W (b * 2 ^ s)).length)) = z := ⟨_, (Int.toNat_of_nonneg (val_nonneg (B := 4294967296) (by omega) (hUd.drop (m - (W (b * 2 ^ s)).length)))).symm⟩
    rw [hz, show (4294967296 : Int) ^ (m - (W (b * 2 ^ s)).length) = ((4294967296 ^ (m - (W (b * 2 ^ s)).length) : Nat) : Int) from (Int.natCast_pow 4294967296 _).symm, ← Int.natCast_mul] at g1
    have g3 : 4294967296 ^ (m - (W (b * 2 ^ s)).length) * z ≤ a * 2 ^ s := by omega
    rw [hz]
    refine Int.ofNat_lt.2 ?_
    rw [hVlen] at g3
    have g4 : 2 ^ s * 4294967296 ^ ((W b).length - 1) ≤ b * 2 ^ s := by
     have q1 := Nat.mul_le_mul_right (2 ^ s) (W_len_le hb)
     rw [Nat.mul_comm] at q1; exact q1
    rcases Nat.lt_or_ge z (b * 2 ^ s) with g | g
    ·exact g
    ·exfalso
     have g5 := Nat.mul_le_mul_left (4294967296 ^ (m - (W b).length)) (Nat.le_trans g4 g)
     have g6 := Nat.mul_lt_mul_of_pos_right (W_len a) hps
     have g7 : 4294967296 ^ (m - (W b).length) * (2 ^ s * 4294967296 ^ ((W b).length - 1)) = 4294967296 ^ (W a).length * 2 ^ s := by
      rw [show (W a).length = (m - (W b).length) + ((W b).length - 1) by omega, Nat.pow_add]; grind
     omega
end Go.Proofs.Ytccgfmjcldifcaa.P
