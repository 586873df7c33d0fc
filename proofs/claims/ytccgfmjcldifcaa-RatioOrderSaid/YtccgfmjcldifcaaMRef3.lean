/- What the reference's functions of numbers and ratios come to. -/
import Derived.Test.YtccgfmjcldifcaaMRef2
namespace Go.Proofs.Ytccgfmjcldifcaa.P
open Go.RowKit Go.Proofs.YtccgfmjcldifcaaW.PrintWords Go.Proofs.YtccgfmjcldifcaaW.PrintMore Go.Proofs.Ytccgfmjcldifcaa.Dg
set_option linter.unusedVariables false
theorem T_len_dl (n : Nat) : (T n).length ≤ dl n := T_len_le (Nat.lt_of_lt_of_le (dl_lt n) (Nat.pow_le_pow_left (by omega) _))
theorem ts_of {n : Nat} (h : dl n ≤ 1000000) : Ts n := by have := T_len_dl n; unfold Ts; omega
theorem Lm.ts {n : Nat} (h : Lm n) : Ts n := ts_of h.m
theorem rdone_ev {n : Nat} (h : Lm n) : Ev (fun k => corporaref36_done.f k (T n)) (S n, 0) := by
 unfold corporaref36_done.f
 exact Ev.bind (rtext_ev h.ts.tm) (Ev.neg (by have := S_size_le h; omega) (Ev.now _))
theorem rlowest_ev {neg : Bool} {n d : Nat} (hn : Ts n) (hd : Ts d) (h0 : 0 < d) (h1 : Lm (n / Nat.gcd n d)) (h2 : Lm (d / Nat.gcd n d)) : Ev (fun k => corporaref36_Lowest.f k neg (T n) (T d)) (low neg n d) := by
 unfold corporaref36_Lowest.f low
 by_cases h : n = 0
 ·subst h
  refine Ev.pos (T_len0.2 rfl) (Ev.some ?_)
  rw [Nat.gcd_zero_left, Nat.zero_div, Nat.div_self h0, S0_eq, S1_eq, decide_eq_false (by omega), Bool.and_false]
 ·have hg : 0 < Nat.gcd n d := Nat.gcd_pos_of_pos_right n h0
  have hgs : Ts (Nat.gcd n d) := hd.mono (Nat.gcd_le_right n h0)
  refine Ev.neg (fun e => h (T_len0.1 e)) (Ev.bind (rgcd_ev d n hn hd) (Ev.bind (divide_ev hn hgs hg) (Ev.bind (divide_ev hd hgs hg) (Ev.bind (rdone_ev h1) (Ev.bind (rdone_ev h2) (Ev.pos rfl (Ev.pos rfl (Ev.some ?_))))))))
  rw [decide_eq_true h, Bool.and_true]
theorem rof_ev {neg : Bool} {n d : Nat} (hn : Lm n) (hd : Lm d) : Ev (fun k => corporaref36_Of.f k neg (S n) (S d)) (if d = 0 then (false, ⟨#[]⟩, ⟨#[]⟩, 25) else low neg n d) := by
 unfold corporaref36_Of.f
 have h1 := S_size_le hn
 have h2 := S_size_le hd
 refine Ev.bind (Ev.to (rvalid_ev (by omega)) (vld_S hn)) (Ev.pos rfl (Ev.bind (Ev.to (rvalid_ev (by omega)) (vld_S hd)) (Ev.step (fun k => corporaref36_Of.j0.eq_2 ..) (Ev.neg (by simp) ?_))))
 by_cases h : d = 0
 ·rw [if_pos h]
  exact Ev.pos (S_0.2 h) (Ev.now _)
 ·rw [if_neg h]
  refine Ev.neg (fun g => h (S_0.1 g)) (Ev.bind (big_ev hn) (Ev.bind (big_ev hd) (Ev.bind (rlowest_ev hn.ts hd.ts (by omega) (hn.mono (Nat.div_le_self _ _)) (hd.mono (Nat.div_le_self _ _))) (Ev.some rfl))))
end Go.Proofs.Ytccgfmjcldifcaa.P
