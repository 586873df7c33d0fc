/- Ratios as rational numbers: what IsRatio, read, plus, Add, Sub, Mul and Quo come to, and the ratios that are generated. -/
import Derived.Test.YtccgfmjcldifcaaDE
import Derived.Test.YtccgfmjcldifcaaMRef3
namespace Go.Proofs.Ytccgfmjcldifcaa.P
open Go.RowKit Go.Proofs.YtccgfmjcldifcaaW.PrintWords Go.Proofs.YtccgfmjcldifcaaW.PrintMore Go.Proofs.Ytccgfmjcldifcaa.Dg
set_option linter.unusedVariables false
def sg (neg : Bool) (n : Nat) : Int := if neg then -(n : Int) else n
theorem sg_abs (a : Bool) (n : Nat) : (sg a n).natAbs = n := by cases a <;> simp [sg]
theorem sg_of (x : Int) : sg (decide (x < 0)) x.natAbs = x := by
 unfold sg
 by_cases h : x < 0
 ·rw [decide_eq_true h, if_pos rfl]; omega
 ·rw [decide_eq_false h, if_neg (by simp)]; omega
theorem sg_not (a : Bool) (n : Nat) : sg (!a) n = -sg a n := by cases a <;> simp [sg]
theorem sg_neg {a : Bool} {n : Nat} : sg a n < 0 ↔ a = true ∧ n ≠ 0 := by
 cases a <;> simp [sg]; omega
theorem mk_num (a : Bool) (n : Nat) {d : Nat} (h : 0 < d) : (mkRat (sg a n) d).num = sg a (n / Nat.gcd n d) := by
 rw [Rat.num_mkRat, if_neg (by omega), sg_abs, Nat.gcd_comm]
 cases a
 ·simp [sg]
 ·simp only [sg, if_true]
  rw [Int.neg_ediv_of_dvd (Int.ofNat_dvd.2 (Nat.gcd_dvd_left n d))]; rfl
theorem mk_den (a : Bool) (n : Nat) {d : Nat} (h : 0 < d) : (mkRat (sg a n) d).den = d / Nat.gcd n d := by
 rw [Rat.den_mkRat, if_neg (by omega), sg_abs, Nat.gcd_comm]
def Q (r : Rat) : Bool × ByteArray × ByteArray := (decide (r.num < 0), S r.num.natAbs, S r.den)
def Q4 (r : Rat) : Bool × ByteArray × ByteArray × Int := (decide (r.num < 0), S r.num.natAbs, S r.den, 0)
theorem low_Q4 (a : Bool) (n : Nat) {d : Nat} (h : 0 < d) : low a n d = Q4 (mkRat (sg a n) d) := by
 have hg : 0 < Nat.gcd n d := Nat.gcd_pos_of_pos_right n h
 unfold low Q4
 rw [mk_num a n h, mk_den a n h, sg_abs]
 congr 1
 rw [eq_comm, Bool.eq_iff_iff, decide_eq_true_iff, sg_neg, Bool.and_eq_true, decide_eq_true_iff]
 refine and_congr_right fun _ => not_congr ⟨fun e => ?_, fun e => by rw [e, Nat.zero_div]⟩
 rcases Nat.eq_zero_or_pos n with g | g
 ·exact g
 ·have := Nat.div_pos (Nat.gcd_le_left d g) hg
  omega
def Rb (m : Nat) (r : Rat) : Prop := dl r.num.natAbs ≤ m ∧ dl r.den ≤ m
theorem Rb.mono {m n : Nat} {r : Rat} (h : Rb m r) (hm : m ≤ n) : Rb n r := ⟨Nat.le_trans h.1 hm, Nat.le_trans h.2 hm⟩
theorem Rb.n {m : Nat} {r : Rat} (h : Rb m r) (hm : m ≤ 20000) : Lm r.num.natAbs := Nat.le_trans h.1 hm
theorem Rb.d {m : Nat} {r : Rat} (h : Rb m r) (hm : m ≤ 20000) : Lm r.den := Nat.le_trans h.2 hm
theorem Rb_mk {a : Bool} {n d m : Nat} (h : 0 < d) (hn : dl n ≤ m) (hd : dl d ≤ m) : Rb m (mkRat (sg a n) d) := by
 refine ⟨?_, ?_⟩
 ·rw [mk_num a n h, sg_abs]; exact Nat.le_trans (dl_mono (Nat.div_le_self _ _)) hn
 ·rw [mk_den a n h]; exact Nat.le_trans (dl_mono (Nat.div_le_self _ _)) hd
theorem den_pos (r : Rat) : 0 < r.den := Nat.pos_of_ne_zero r.den_nz
theorem lowQ_ev {a : Bool} {n d m : Nat} (hm : m ≤ 20000) (h : 0 < d) (hn : dl n ≤ m) (hd : dl d ≤ m) : Ev (fun k => ratio_number_lowest.f k a (W n) (W d)) (Q4 (mkRat (sg a n) d)) := by
 have ln : Lm n := Nat.le_trans hn hm
 have ld : Lm d := Nat.le_trans hd hm
 exact Ev.to (lowest_ev ln.sm ld.sm h (ln.mono (Nat.div_le_self _ _)) (ld.mono (Nat.div_le_self _ _))) (low_Q4 a n h)
theorem isratio_ev {r : Rat} {m : Nat} (hr : Rb m r) (hm : m ≤ 20000) : Ev (fun k => ratio_IsRatio.f k (decide (r.num < 0)) (S r.num.natAbs) (S r.den)) true := by
 unfold ratio_IsRatio.f
 have ln := hr.n hm
 have ld := hr.d hm
 have last : Ev (fun k => ratio_IsRatio.j0 k (W r.num.natAbs) (W r.den) false) true := by
  have eg := gcd_ev r.den r.num.natAbs ln.sm ld.sm
  rw [show Nat.gcd r.num.natAbs r.den = 1 from r.reduced] at eg
  exact Ev.step (fun k => ratio_IsRatio.j0.eq_2 ..) (Ev.neg (by simp) (Ev.bind eg (Ev.bind (of_ev (n := 1) (by omega)) (Ev.bind (cmp_ev (a := 1) (Lm_small (by omega)).sm) (Ev.some (by rw [cmp_eq rfl]; rfl))))))
 refine Ev.bind (both_ev ln ld) (Ev.pos rfl (Ev.neg (fun e => absurd (W_len0.1 e) r.den_nz) ?_))
 by_cases h : r.num < 0
 ·refine Ev.pos (decide_eq_true h) ?_
  have : (((W r.num.natAbs).length : Int) == 0) = false := beq_eq_false_iff_ne.2 (fun e => by have := W_len0.1 e; omega)
  rw [this]; exact last
 ·exact Ev.neg (by simp [h]) last
def R35 (r : Rat) : S35 := ⟨decide (r.num < 0), S r.num.natAbs, S r.den⟩
def R88 (r : Rat) : S88 := ⟨decide (r.num < 0), W r.num.natAbs, W r.den⟩
theorem read_ev {r s : Rat} {m : Nat} (hr : Rb m r) (hs : Rb m s) (hm : m ≤ 20000) : Ev (fun k => ratio_read.f k [R35 r, R35 s]) ([R88 r, R88 s], true) := by
 unfold ratio_read.f
 refine Ev.step (fun k => ratio_read.l0.eq_2 ..) (Ev.pos (by simp) (Ev.pos (by decide) (Ev.pos (by simp) (Ev.bind (isratio_ev hr hm) (Ev.pos rfl (Ev.bind (parse_ev (hr.n hm)) (Ev.bind (parse_ev (hr.d hm)) (Ev.pos (by simp) ?_))))))))
 rw [show wrap64 (0 + 1) = 1 by rw [w64 (by omega) (by omega)]; rfl]
 refine Ev.step (fun k => ratio_read.l0.eq_2 ..) (Ev.pos (by simp) (Ev.pos (by decide) (Ev.pos (by simp) (Ev.bind (isratio_ev hs hm) (Ev.pos rfl (Ev.bind (parse_ev (hs.n hm)) (Ev.bind (parse_ev (hs.d hm)) (Ev.pos (by simp) ?_))))))))
 rw [show wrap64 (1 + 1) = 2 by rw [w64 (by omega) (by omega)]; rfl]
 exact Ev.step (fun k => ratio_read.l0.eq_2 ..) (Ev.neg (by simp) (Ev.some rfl))
theorem plus_Q (a b : Bool) (n d p q : Nat) {m : Nat} (hn : dl n ≤ m) (hd : dl d ≤ m) (hp : dl p ≤ m) (hq : dl q ≤ m) (hm : m ≤ 1000) :
  ∃ c t, sg c t = sg a n * q + sg b p * d ∧ dl t ≤ 2 * m + 1 ∧ Ev (fun k => ratio_plus.f k a (W n) (W d) b (W p) (W q)) (c, W t, W (d * q)) := by
 have h1 : dl (n * q) ≤ 2 * m := by have := dl_mul n q; omega
 have h2 : dl (p * d) ≤ 2 * m := by have := dl_mul p d; omega
 have s1 : Sm (n * q) := Lm.sm (Nat.le_trans h1 (by omega))
 have s2 : Sm (p * d) := Lm.sm (Nat.le_trans h2 (by omega))
 have pre : ∀ R, Ev (fun k => if (a == b) = true then ((bignat_Nat_Add.f k (W (n * q)) (W (p * d))).bind fun t995 => (some (a, t995, W (d * q)))) else ((bignat_Nat_Cmp.f k (W (n * q)) (W (p * d))).bind fun t998 => (if t998 ≥ 0 then ((bignat_Nat_Sub.f k (W (n * q)) (W (p * d))).bind fun t999 => (some (a, t999, W (d * q)))) else ((bignat_Nat_Sub.f k (W (p * d)) (W (n * q))).bind fun t1002 => (some (b, t1002, W (d * q))))))) R →
   Ev (fun k => ratio_plus.f k a (W n) (W d) b (W p) (W q)) R := fun R h => by
  unfold ratio_plus.f
  exact Ev.bind (mul_small (by omega) (by omega)) (Ev.bind (mul_small (by omega) (by omega)) (Ev.bind (mul_small (by omega) (by omega)) h))
 by_cases hab : a = b
 ·subst hab
  refine ⟨a, n * q + p * d, ?_, ?_, pre _ (Ev.pos (by simp) (Ev.bind (add_ev s1 s2) (Ev.now _)))⟩
  ·cases a <;> simp [sg]; grind
  ·have := dl_add (n * q) (p * d); omega
 ·have hne : ¬ (a == b) = true := by simpa using hab
  by_cases hc : p * d ≤ n * q
  ·refine ⟨a, n * q - p * d, ?_, ?_, pre _ (Ev.neg hne (Ev.bind (cmp_ev s1) (Ev.pos ?_ (Ev.bind (sub_ev s1 hc) (Ev.now _)))))⟩
   ·have e : ((n * q - p * d : Nat) : Int) = (n : Int) * q - p * d := by rw [Int.ofNat_sub hc, Int.natCast_mul, Int.natCast_mul]
    cases a <;> cases b <;> simp [sg] at hab ⊢ <;> rw [e] <;> grind
   ·exact Nat.le_trans (dl_mono (Nat.sub_le _ _)) (by omega)
   ·rcases Nat.lt_or_eq_of_le hc with g | g
    ·rw [cmp_gt (by omega)]; omega
    ·rw [cmp_eq (by omega)]; omega
  ·refine ⟨b, p * d - n * q, ?_, ?_, pre _ (Ev.neg hne (Ev.bind (cmp_ev s1) (Ev.neg ?_ (Ev.bind (sub_ev s2 (by omega)) (Ev.now _)))))⟩
   ·have e : ((p * d - n * q : Nat) : Int) = (p : Int) * d - n * q := by rw [Int.ofNat_sub (by omega), Int.natCast_mul, Int.natCast_mul]
    cases a <;> cases b <;> simp [sg] at hab ⊢ <;> rw [e] <;> grind
   ·exact Nat.le_trans (dl_mono (Nat.sub_le _ _)) (by omega)
   ·rw [cmp_lt (by omega)]; omega
theorem sub_Q {r s : Rat} {m : Nat} (hr : Rb m r) (hs : Rb m s) (hm : m ≤ 1000) :
  Rb (2 * m + 1) (r - s) ∧ Ev (fun k => ratio_Sub.f k (decide (r.num < 0)) (S r.num.natAbs) (S r.den) (decide (s.num < 0)) (S s.num.natAbs) (S s.den)) (Q4 (r - s)) := by
 obtain ⟨c, t, ht, hl, ev⟩ := plus_Q (decide (r.num < 0)) (!decide (s.num < 0)) r.num.natAbs r.den s.num.natAbs s.den hr.1 hr.2 hs.1 hs.2 hm
 rw [sg_not, sg_of, sg_of] at ht
 have h2 : dl (r.den * s.den) ≤ 2 * m + 1 := by have := dl_mul r.den s.den; have := hr.2; have := hs.2; omega
 have h3 : 0 < r.den * s.den := Nat.mul_pos (den_pos r) (den_pos s)
 have e : mkRat (sg c t) (r.den * s.den) = r - s := by
  rw [ht, ← Rat.mkRat_add_mkRat _ _ r.den_nz s.den_nz, ← Rat.neg_mkRat, Rat.mkRat_self, Rat.mkRat_self, Rat.sub_eq_add_neg]
 refine ⟨by rw [← e]; exact Rb_mk h3 hl h2, ?_⟩
 unfold ratio_Sub.f
 refine Ev.bind (read_ev hr hs (by omega)) (Ev.pos rfl (Ev.pos (by simp) (Ev.bindo rfl (Ev.pos (by simp) (Ev.bind ev (Ev.bind (lowQ_ev (m := 2 * m + 1) (by omega) h3 hl h2) (Ev.some ?_)))))))
 rw [← e]
theorem some36_ev (l : List Int) : ∃ r : Rat, Rb 20 r ∧ Ev (fun k => corporalaw36_some.f k l) (Q r) := by
 obtain ⟨l', hl, hp⟩ := new_some l
 obtain ⟨c, p1, hc, _, _, hp1⟩ := next_some (n := 2) hp (by omega) (by omega)
 obtain ⟨n, p2, hn, hp2, e2⟩ := tapenat_ev (most := 20) hp1 (by omega) (by omega)
 obtain ⟨d, p3, hd, _, e3⟩ := tapenat_ev (most := 20) hp2 (by omega) (by omega)
 have ev := rof_ev (neg := (c == 1)) (n := n) (d := d) (Nat.le_trans hn (by omega)) (Nat.le_trans hd (by omega))
 by_cases h : d = 0
 ·rw [if_pos h] at ev
  refine ⟨0, ⟨by show dl 0 ≤ 20; rw [dl_zero]; omega, by show dl 1 ≤ 20; exact Nat.le_trans (dl_le (k := 1) (by omega)) (by omega)⟩, ?_⟩
  unfold corporalaw36_some.f
  refine Ev.bindo hl (Ev.bindo hc (Ev.bind e2 (Ev.bind e3 (Ev.bind ev (Ev.neg (by simp) (Ev.some ?_))))))
  show (false, _, _) = Q 0
  rw [S0_eq, S1_eq]; rfl
 ·rw [if_neg h, low_Q4 _ _ (by omega)] at ev
  refine ⟨_, Rb_mk (a := (c == 1)) (show 0 < d by omega) hn hd, ?_⟩
  unfold corporalaw36_some.f
  exact Ev.bindo hl (Ev.bindo hc (Ev.bind e2 (Ev.bind e3 (Ev.bind ev (Ev.pos rfl (Ev.some rfl))))))
theorem same_Q {a b : ByteArray} {x : Bool} : (x == x && (a.toList == a.toList && (b.toList == b.toList))) = true := by simp
end Go.Proofs.Ytccgfmjcldifcaa.P
