/- Ratios as rational numbers: what IsRatio, read, plus, Add, Sub, Mul and Quo come to, and the ratios that are generated. -/
import Derived.Test.YtccgfmjcldifcaaDE
import Derived.Test.YtccgfmjcldifcaaMRef3
namespace Go.Proofs.Ytccgfmjcldifcaa.P
open Go.RowKit Go.Proofs.YtccgfmjcldifcaaW.PrintWords Go.Proofs.YtccgfmjcldifcaaW.PrintMore Go.Proofs.Ytccgfmjcldifcaa.Dg
set_option linter.unusedVariables false
def sg (neg : Bool) (n : Nat) : Int := if neg then -(n : Int) else n
theorem sg_abs (a : Bool) (n : Nat) : (sg a n).natAbs = n := by cases a <;> simp [sg]
theorem sg_of (x : Int) : sg (decide (x < 0)) x.natAbs = x := by
 unfold sg
 by_cases h : x < 0
 ·rw [decide_eq_true h, if_pos rfl]; omega
 ·rw [decide_eq_false h, if_neg (by simp)]; omega
theorem sg_neg {a : Bool} {n : Nat} : sg a n < 0 ↔ a = true ∧ n ≠ 0 := by
 cases a <;> simp [sg]; omega
theorem mk_num (a : Bool) (n : Nat) {d : Nat} (h : 0 < d) : (mkRat (sg a n) d).num = sg a (n / Nat.gcd n d) := by
 rw [Rat.num_mkRat, if_neg (by omega), sg_abs, Nat.gcd_comm]
 cases a
 ·simp [sg]
 ·simp only [sg, if_true]
  rw [Int.neg_ediv_of_dvd (Int.ofNat_dvd.2 (Nat.gcd_dvd_left n d))]; rfl
theorem mk_den (a : Bool) (n : Nat) {d : Nat} (h : 0 < d) : (mkRat (sg a n) d).den = d / Nat.gcd n d := by
 rw [Rat.den_mkRat, if_neg (by omega), sg_abs, Nat.gcd_comm]
def Q (r : Rat) : Bool × ByteArray × ByteArray := (decide (r.num < 0), S r.num.natAbs, S r.den)
def Q4 (r : Rat) : Bool × ByteArray × ByteArray × Int := (decide (r.num < 0), S r.num.natAbs, S r.den, 0)
theorem low_Q4 (a : Bool) (n : Nat) {d : Nat} (h : 0 < d) : low a n d = Q4 (mkRat (sg a n) d) := by
 have hg : 0 < Nat.gcd n d := Nat.gcd_pos_of_pos_right n h
 unfold low Q4
 rw [mk_num a n h, mk_den a n h, sg_abs]
 congr 1
 rw [eq_comm, Bool.eq_iff_iff, decide_eq_true_iff, sg_neg, Bool.and_eq_true, decide_eq_true_iff]
 refine and_congr_right fun _ => not_congr ⟨fun e => ?_, fun e => by rw [e, Nat.zero_div]⟩
 rcases Nat.eq_zero_or_pos n with g | g
 ·exact g
 ·have := Nat.div_pos (Nat.gcd_le_left d g) hg
  omega
def Rb (m : Nat) (r : Rat) : Prop := dl r.num.natAbs ≤ m ∧ dl r.den ≤ m
theorem Rb.mono {m n : Nat} {r : Rat} (h : Rb m r) (hm : m ≤ n) : Rb n r := ⟨Nat.le_trans h.1 hm, Nat.le_trans h.2 hm⟩
theorem Rb.n {m : Nat} {r : Rat} (h : Rb m r) (hm : m ≤ 20000) : Lm r.num.natAbs := Nat.le_trans h.1 hm
theorem Rb.d {m : Nat} {r : Rat} (h : Rb m r) (hm : m ≤ 20000) : Lm r.den := Nat.le_trans h.2 hm
theorem Rb_mk {a : Bool} {n d m : Nat} (h : 0 < d) (hn : dl n ≤ m) (hd : dl d ≤ m) : Rb m (mkRat (sg a n) d) := by
 refine ⟨?_, ?_⟩
 ·rw [mk_num a n h, sg_abs]; exact Nat.le_trans (dl_mono (Nat.div_le_self _ _)) hn
 ·rw [mk_den a n h]; exact Nat.le_trans (dl_mono (Nat.div_le_self _ _)) hd
theorem den_pos (r : Rat) : 0 < r.den := Nat.pos_of_ne_zero r.den_nz
theorem isratio_ev {r : Rat} {m : Nat} (hr : Rb m r) (hm : m ≤ 20000) : Ev (fun k => ratio_IsRatio.f k (decide (r.num < 0)) (S r.num.natAbs) (S r.den)) true := by
 unfold ratio_IsRatio.f
 have ln := hr.n hm
 have ld := hr.d hm
 have last : Ev (fun k => ratio_IsRatio.j0 k (W r.num.natAbs) (W r.den) false) true := by
  have eg := gcd_ev r.den r.num.natAbs ln.sm ld.sm
  rw [show Nat.gcd r.num.natAbs r.den = 1 from r.reduced] at eg
  exact Ev.step (fun k => ratio_IsRatio.j0.eq_2 ..) (Ev.neg (by simp) (Ev.bind eg (Ev.bind (of_ev (n := 1) (by omega)) (Ev.bind (cmp_ev (a := 1) (Lm_small (by omega)).sm) (Ev.some (by rw [cmp_eq rfl]; rfl))))))
 refine Ev.bind (both_ev ln ld) (Ev.pos rfl (Ev.neg (fun e => absurd (W_len0.1 e) r.den_nz) ?_))
 by_cases h : r.num < 0
 ·refine Ev.pos (decide_eq_true h) ?_
  have : (((W r.num.natAbs).length : Int) == 0) = false := beq_eq_false_iff_ne.2 (fun e => by have := W_len0.1 e; omega)
  rw [this]; exact last
 ·exact Ev.neg (by simp [h]) last
theorem same_Q {a b : ByteArray} {x : Bool} : (x == x && (a.toList == a.toList && (b.toList == b.toList))) = true := by simp
end Go.Proofs.Ytccgfmjcldifcaa.P
