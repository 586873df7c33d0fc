/- What the reference's big numbers (digits to the base 10000) come to, the first part: trim, Big, Of64, Less, Plus, Minus. -/
import Derived.Test.YtccgfmjcldifcaaDB
import Derived.Test.YtccgfmjcldifcaaMOps
namespace Go.Proofs.Ytccgfmjcldifcaa.P
open Go.RowKit Go.Proofs.YtccgfmjcldifcaaW.PrintWords Go.Proofs.YtccgfmjcldifcaaW.PrintMore Go.Proofs.Ytccgfmjcldifcaa.Dg
set_option linter.unusedVariables false
theorem trim_l0 (n : Nat) : ∀ l : List Int, l.length = n → n < 4611686018427387904 → Ev (fun k => corporaref36_trim.l0 k l) (cut l) := by
 induction n with
 | zero =>
  intro l hl _
  obtain rfl := List.length_eq_zero_iff.1 hl
  exact Ev.step (fun k => corporaref36_trim.l0.eq_2 ..) (Ev.neg (by simp) (Ev.now _))
 | succ n ih =>
  intro l hl hn
  rcases List.eq_nil_or_concat l with rfl | ⟨p, x, hp⟩
  ·simp at hl
  ·simp only [List.concat_eq_append] at hp
   subst hp
   have hpl : p.length = n := by simpa using hl
   have e : wrap64 (((p ++ [x]).length : Int) - 1) = (p.length : Int) := by
    rw [w64 (by simp) (by simp; omega)]; simp
   refine Ev.step (fun k => corporaref36_trim.l0.eq_2 ..) ?_
   refine Ev.pos (by simp) ?_
   rw [e]
   refine Ev.pos (by omega) (Ev.pos (by simp; omega) ?_)
   have hx : rd (p ++ [x]) (p.length : Int) = x := at_snoc p x
   rw [hx]
   by_cases h0 : x = 0
   ·subst h0
    refine Ev.pos rfl (Ev.pos (by simp; omega) ?_)
    rw [Int.toNat_natCast, List.take_left, cut_snoc_zero]
    exact ih p hpl (by omega)
   ·refine Ev.neg h0 ?_
    rw [cut_snoc h0]
    exact Ev.now _
theorem trim_ev {l : List Int} {n : Nat} (hd : Dig 10000 l) (hv : val 10000 l = n) (hl : l.length < 4611686018427387904) : Ev (fun k => corporaref36_trim.f k l) (T n) :=
 Ev.to (trim_l0 _ l rfl hl) (cut_eq (B := 10000) (by omega) hd hv)
theorem T_pos {n : Nat} (h : 0 < n) : T n = ((n % 10000 : Nat) : Int) :: T (n / 10000) := dg_pos (by omega) h
theorem T_len_le {n k : Nat} (h : n < 10000 ^ k) : (T n).length ≤ k := len_dg_le (B := 10000) (by omega) k n h
theorem T_len_mono {a b : Nat} (h : a ≤ b) : (T a).length ≤ (T b).length := len_dg_mono (B := 10000) (by omega) h
theorem of64_l0 (n : Nat) : ∀ x3 : List Int, n < 18446744073709551616 → x3.length + (T n).length < 1000 → Ev (fun k => corporaref36_Of64.l0 k (n : Int) x3) (x3 ++ T n) := by
 induction n using Nat.strongRecOn with
 | _ n ih =>
  intro x3 h hl
  refine Ev.step (fun k => corporaref36_Of64.l0.eq_2 ..) ?_
  by_cases h0 : n = 0
  ·subst h0
   refine Ev.neg (by omega) (Ev.some ?_)
   rw [T_zero, List.append_nil]
  ·have hT := T_pos (n := n) (by omega)
   rw [hT, List.length_cons] at hl
   refine Ev.pos (by omega) (Ev.pos (by omega) ?_)
   rw [tdiv_pos (by omega), tmod_pos (by omega), show (n : Int) / 10000 = ((n / 10000 : Nat) : Int) by omega, show (n : Int) % 10000 = ((n % 10000 : Nat) : Int) by omega, u64 (by omega) (by omega), w64 (by omega) (by omega), hT]
   have := ih (n / 10000) (by omega) (x3 ++ [((n % 10000 : Nat) : Int)]) (by omega) (by rw [List.length_append, List.length_singleton]; omega)
   rwa [List.append_assoc, List.singleton_append] at this
theorem of64_ev {n : Nat} (h : n < 18446744073709551616) : Ev (fun k => corporaref36_Of64.f k (n : Int)) (T n) := by
 have h1 : (T n).length ≤ 5 := T_len_le (by omega)
 have := of64_l0 n [] h (by simp; omega)
 rwa [List.nil_append] at this
theorem rless_l0 (x0 x1 : List Int) (h0 : Dig 10000 x0) (h1 : Dig 10000 x1) (hl : x0.length = x1.length) (hm : x0.length < 1099511627776) (i : Nat) :
  i ≤ x0.length → x0.drop i = x1.drop i → Ev (fun k => corporaref36_Less.l0 k x0 x1 ((i : Int) - 1)) (cmp (val 10000 x0) (val 10000 x1)) := by
 induction i with
 | zero =>
  intro _ e
  rw [List.drop_zero, List.drop_zero] at e
  refine Ev.step (fun k => corporaref36_Less.l0.eq_2 ..) ?_
  exact Ev.neg (by omega) (Ev.some (cmp_eq (by rw [e])).symm)
 | succ i ih =>
  intro hi e
  refine Ev.step (fun k => corporaref36_Less.l0.eq_2 ..) ?_
  rw [show ((i + 1 : Nat) : Int) - 1 = (i : Int) by omega]
  refine Ev.pos (by omega) (Ev.pos (by omega) (Ev.pos (by omega) (Ev.pos (by omega) ?_)))
  rw [rd_nat, rd_nat]
  by_cases h : at_ x0 i = at_ x1 i
  ·refine Ev.pos h ?_
   rw [w64 (by omega) (by omega)]
   exact ih (by omega) (drop_eq_of (by omega) (by omega) e h)
  ·refine Ev.neg h ?_
   by_cases g : at_ x0 i < at_ x1 i
   ·exact Ev.pos g (Ev.some (cmp_lt (val_lt_of (by omega) (by omega) (by omega) h0 h1 e g)).symm)
   ·exact Ev.neg g (Ev.some (cmp_gt (val_lt_of (by omega) (by omega) (by omega) h1 h0 e.symm (by omega))).symm)
def Tm (a : Nat) : Prop := (T a).length < 1099511620
theorem Tm.mono {a b : Nat} (h : Tm b) (hab : a ≤ b) : Tm a := Nat.lt_of_le_of_lt (T_len_mono hab) h
theorem rless_ev {a b : Nat} (ha : Tm a) : Ev (fun k => corporaref36_Less.f k (T a) (T b)) (cmp a b) := by
 unfold corporaref36_Less.f
 unfold Tm at ha
 by_cases h : (T a).length = (T b).length
 ·refine Ev.pos (by omega) ?_
  rw [w64 (by omega) (by omega)]
  have := rless_l0 (T a) (T b) (T_dig _) (T_dig _) h (by omega) (T a).length (Nat.le_refl _) (by rw [List.drop_eq_nil_of_le (Nat.le_refl _), List.drop_eq_nil_of_le (by omega)])
  rwa [T_val, T_val] at this
 ·refine Ev.neg (by omega) ?_
  by_cases g : (T a).length < (T b).length
  ·have := lt_of_len (B := 10000) (by omega) g
   exact Ev.pos (by omega) (Ev.some (cmp_lt (by omega)).symm)
  ·have := lt_of_len (B := 10000) (by omega) (show (dg 10000 b).length < (dg 10000 a).length by unfold T at h g; omega)
   exact Ev.neg (by omega) (Ev.some (cmp_gt (by omega)).symm)
theorem push_step {x : List Int} {i : Nat} {v c c' s A : Int} (hi : x.length = i) (hs : v + 10000 * c' = s) (h : val 10000 x + c * 10000 ^ i = A) :
  val 10000 (x ++ [v]) + c' * 10000 ^ (i + 1) = A + (s - c) * 10000 ^ i := by
 rw [val_append, hi, val_cons, val_nil, Int.pow_succ]; grind
theorem minus_l0 (x0 x1 : List Int) (n : Nat) (h0 : Dig 10000 x0) (h1 : Dig 10000 x1) (hl : x1.length ≤ x0.length) (hm : x0.length < 1099511620) (hn : val 10000 x0 - val 10000 x1 = n) (d : Nat) :
  ∀ (i : Nat) (x5 : List Int) (c : Int), i + d = x0.length → x5.length = i → Dig 10000 x5 → 0 ≤ c → c ≤ 1 →
  val 10000 x5 + (-c) * 10000 ^ i = val 10000 (x0.take i) - val 10000 (x1.take i) →
  Ev (fun k => corporaref36_Minus.l0 k x0 x1 x5 c (x0.length : Int) (i : Int)) (T n) := by
 induction d with
 | zero =>
  intro i x5 c hi h5 hd c0 c1 hv
  obtain rfl : i = x0.length := by omega
  refine Ev.step (fun k => corporaref36_Minus.l0.eq_2 ..) (Ev.neg (by omega) ?_)
  rw [val_full (Nat.le_refl _), val_full hl] at hv
  have hb := val_lt (by omega) hd
  rw [h5] at hb
  have hc : c = 0 := by
   rcases (show c = 0 ∨ c = 1 by omega) with h | h
   ·exact h
   ·subst h; omega
  subst hc
  exact Ev.bind (trim_ev hd (by omega) (by omega)) (Ev.now _)
 | succ d ih =>
  intro i x5 c hi h5 hd c0 c1 hv
  have a0 := h0.at (by omega) i
  have a1 := h1.at (by omega) i
  have go : ∀ (v c' : Int), 0 ≤ v → v < 10000 → 0 ≤ c' → c' ≤ 1 → v - 10000 * c' = at_ x0 i - c - at_ x1 i → Ev (fun k => corporaref36_Minus.l0 k x0 x1 (x5 ++ [v]) c' (x0.length : Int) ((i + 1 : Nat) : Int)) (T n) := by
   intro v c' v0 v1 g0 g1 hs
   refine ih (i + 1) _ _ (by omega) (by simp [h5]) (hd.append (Dig.cons v0 v1 (Dig.nil _))) g0 g1 ?_
   rw [push_step (c' := -c') (s := at_ x0 i - c - at_ x1 i) h5 (by omega) hv, val_take_succ, val_take_succ]
   grind
  refine Ev.step (fun k => corporaref36_Minus.l0.eq_2 ..) (Ev.pos (by omega) (Ev.pos (by omega) (Ev.pos (by omega) ?_)))
  by_cases hx : i < x1.length
  ·refine Ev.pos (by omega) ?_
   rw [rd_nat, rd_nat, w64 (x := at_ x0 i - c) (by omega) (by omega), w64 (x := at_ x0 i - c - at_ x1 i) (by omega) (by omega), w64i (by omega)]
   by_cases g : at_ x0 i - c - at_ x1 i < 0
   ·refine Ev.pos g (Ev.pos (by omega) ?_)
    rw [w64 (x := at_ x0 i - c - at_ x1 i + 10000) (by omega) (by omega)]
    exact go _ 1 (by omega) (by omega) (by omega) (by omega) (by omega)
   ·exact Ev.neg g (Ev.pos (by omega) (go _ 0 (by omega) (by omega) (by omega) (by omega) (by omega)))
  ·have e1 : at_ x1 i = 0 := at_ge (by omega)
   refine Ev.neg (by omega) ?_
   rw [rd_nat, w64 (x := at_ x0 i - c) (by omega) (by omega), w64i (by omega)]
   by_cases g : at_ x0 i - c < 0
   ·refine Ev.pos g (Ev.pos (by omega) ?_)
    rw [w64 (x := at_ x0 i - c + 10000) (by omega) (by omega)]
    exact go _ 1 (by omega) (by omega) (by omega) (by omega) (by omega)
   ·exact Ev.neg g (Ev.pos (by omega) (go _ 0 (by omega) (by omega) (by omega) (by omega) (by omega)))
theorem minus_ev {a b : Nat} (ha : Tm a) (hb : b ≤ a) : Ev (fun k => corporaref36_Minus.f k (T a) (T b)) (T (a - b)) :=
 minus_l0 (T a) (T b) (a - b) (T_dig _) (T_dig _) (T_len_mono hb) ha (by rw [T_val, T_val]; omega) (T a).length 0 [] 0 (by omega) rfl (Dig.nil _) (by omega) (by omega) (by simp [val_nil])
end Go.Proofs.Ytccgfmjcldifcaa.P
