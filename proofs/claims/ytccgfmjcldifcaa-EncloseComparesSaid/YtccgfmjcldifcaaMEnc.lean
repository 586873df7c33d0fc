/- Intervals of ratios: what Compare of ratios, unit, Bits, Valid, Contains and Compare of intervals come to, in the program and in the reference. -/
import Derived.Test.YtccgfmjcldifcaaDF
import Derived.Test.YtccgfmjcldifcaaMLog
namespace Go.Proofs.Ytccgfmjcldifcaa.P
open Go.RowKit Go.Proofs.YtccgfmjcldifcaaW.PrintWords Go.Proofs.YtccgfmjcldifcaaW.PrintLast Go.Proofs.YtccgfmjcldifcaaW.PrintMore Go.Proofs.Ytccgfmjcldifcaa.Dg
set_option linter.unusedVariables false
def rc (r s : Rat) : Int := cmp (r.num * s.den) (s.num * r.den)
theorem rc_lt {r s : Rat} : rc r s < 0 ↔ r < s := by
 rw [Rat.lt_iff]; unfold rc cmp
 constructor
 ·intro h
  rcases Int.lt_trichotomy (r.num * s.den) (s.num * r.den) with g | g | g
  ·exact g
  ·rw [if_neg (by omega), if_pos g] at h; omega
  ·rw [if_neg (by omega), if_neg (by omega)] at h; omega
 ·intro h; rw [if_pos h]; omega
theorem rc_le {r s : Rat} : rc r s ≤ 0 ↔ r ≤ s := by
 rw [Rat.le_iff]; unfold rc cmp
 constructor
 ·intro h
  rcases Int.lt_trichotomy (r.num * s.den) (s.num * r.den) with g | g | g
  ·exact Int.le_of_lt g
  ·exact Int.le_of_eq g
  ·rw [if_neg (by omega), if_neg (by omega)] at h; omega
 ·intro h
  by_cases g : r.num * s.den < s.num * r.den
  ·rw [if_pos g]; omega
  ·rw [if_neg g, if_pos (by omega)]; omega
theorem rc_swap (r s : Rat) : rc s r = -rc r s := by
 unfold rc cmp
 rcases Int.lt_trichotomy (r.num * s.den) (s.num * r.den) with g | g | g
 ·rw [if_neg (by omega), if_neg (by omega), if_pos g]; rfl
 ·rw [if_neg (by omega), if_pos g.symm, if_neg (by omega), if_pos g]; rfl
 ·rw [if_pos g, if_neg (by omega), if_neg (by omega)]
theorem compare_Q {r s : Rat} {m : Nat} (hr : Rb m r) (hs : Rb m s) (hm : m ≤ 1000) :
  Ev (fun k => ratio_Compare.f k (decide (r.num < 0)) (S r.num.natAbs) (S r.den) (decide (s.num < 0)) (S s.num.natAbs) (S s.den)) (rc r s) := by
 obtain ⟨c, t, ht, hl, ev⟩ := plus_Q (decide (r.num < 0)) (!decide (s.num < 0)) r.num.natAbs r.den s.num.natAbs s.den hr.1 hr.2 hs.1 hs.2 hm
 rw [sg_not, sg_of, sg_of] at ht
 have hs' : -s.num * (r.den : Int) = -(s.num * r.den) := Int.neg_mul ..
 unfold ratio_Compare.f
 refine Ev.bind (read_ev hr hs (by omega)) (Ev.pos rfl (Ev.pos (by simp) (Ev.bindo rfl (Ev.pos (by simp) (Ev.bind ev ?_)))))
 unfold rc
 by_cases h : t = 0
 ·subst h
  have h0 : sg c 0 = 0 := by cases c <;> rfl
  exact Ev.pos (W_len0.2 rfl) (Ev.some (cmp_eq (by omega)).symm)
 ·refine Ev.neg (fun e => h (W_len0.1 e)) ?_
  cases c
  ·have h0 : sg false t = (t : Int) := rfl
   exact Ev.neg (by simp) (Ev.some (cmp_gt (by omega)).symm)
  ·have h0 : sg true t = -(t : Int) := rfl
   exact Ev.pos rfl (Ev.some (cmp_lt (by omega)).symm)
def hi (n : Int) (ex : Bool) : Int := if ex = true then n else n + 1
theorem valid_Q {r s : Rat} {m : Nat} (hr : Rb m r) (hs : Rb m s) (hm : m ≤ 1000) :
  Ev (fun k => enclose_Valid.f k (decide (r.num < 0)) (S r.num.natAbs) (S r.den) (decide (s.num < 0)) (S s.num.natAbs) (S s.den)) (decide (rc r s ≤ 0)) := by
 unfold enclose_Valid.f
 exact Ev.bind (isratio_ev hr (by omega)) (Ev.pos rfl (Ev.bind (isratio_ev hs (by omega)) (Ev.pos rfl (Ev.bind (compare_Q hr hs hm) (Ev.now _)))))
end Go.Proofs.Ytccgfmjcldifcaa.P
namespace Go.Proofs.Ytccgfmjcldifcaa.P
open Go.RowKit Go.Proofs.YtccgfmjcldifcaaW.PrintWords Go.Proofs.YtccgfmjcldifcaaW.PrintLast Go.Proofs.YtccgfmjcldifcaaW.PrintMore Go.Proofs.Ytccgfmjcldifcaa.Dg
set_option linter.unusedVariables false
theorem risratio_ev {r : Rat} {m : Nat} (hr : Rb m r) (hm : m ≤ 20000) : Ev (fun k => corporaref36_IsRatio.f k (decide (r.num < 0)) (S r.num.natAbs) (S r.den)) true := by
 have ln := hr.n hm
 have ld := hr.d hm
 have h1 := S_size_le ln
 have h2 := S_size_le ld
 unfold corporaref36_IsRatio.f
 refine Ev.bind (Ev.to (rvalid_ev (by omega)) (vld_S ln)) (Ev.pos rfl (Ev.bind (Ev.to (rvalid_ev (by omega)) (vld_S ld)) (Ev.pos rfl ?_)))
 rw [show ((S r.den).toList == ([48] : List UInt8)) = false from beq_eq_false_iff_ne.2 (fun h => r.den_nz (S_0.1 h))]
 refine Ev.step (fun k => corporaref36_IsRatio.j0.eq_2 ..) (Ev.neg (by simp) ?_)
 by_cases h : r.num.natAbs = 0
 ·refine Ev.pos (S_0.2 h) (Ev.neg (by rw [decide_eq_false (show ¬ r.num < 0 by omega)]; simp) (Ev.some ?_))
  have hd : r.den = 1 := by
   have := r.reduced
   rw [h] at this
   exact (Nat.gcd_zero_left r.den).symm.trans this
  exact beq_iff_eq.2 (S_1.2 hd)
 ·refine Ev.neg (fun e => h (S_0.1 e)) (Ev.bind (big_ev ln) (Ev.bind (big_ev ld) (Ev.bind (rgcd_ev _ _ ln.ts ld.ts) ?_)))
  rw [show Nat.gcd r.num.natAbs r.den = 1 from r.reduced]
  refine Ev.bind (rtext_ev (Lm_small (n := 1) (by omega)).ts.tm) (Ev.some ?_)
  exact beq_iff_eq.2 (S_1.2 rfl)
theorem rcompare_Q {r s : Rat} {m : Nat} (hr : Rb m r) (hs : Rb m s) (hm : m ≤ 1000) :
  Ev (fun k => corporaref36_Compare.f k (decide (r.num < 0)) (S r.num.natAbs) (S r.den) (decide (s.num < 0)) (S s.num.natAbs) (S s.den)) (rc r s) := by
 unfold corporaref36_Compare.f
 refine Ev.bind (risratio_ev hr (by omega)) (Ev.pos rfl (Ev.bind (risratio_ev hs (by omega)) (Ev.step (fun k => corporaref36_Compare.j0.eq_2 ..) (Ev.neg (by simp) ?_))))
 have p1 := den_pos r
 have p2 := den_pos s
 by_cases hne : (decide (r.num < 0) != decide (s.num < 0)) = true
 ·refine Ev.pos hne ?_
  by_cases h : r.num < 0
  ·have h2 : ¬ s.num < 0 := fun g => by rw [decide_eq_true h, decide_eq_true g] at hne; simp at hne
   refine Ev.pos (decide_eq_true h) (Ev.some ?_)
   have a := Int.mul_neg_of_neg_of_pos h (show (0 : Int) < s.den by omega)
   have b := Int.mul_nonneg (show 0 ≤ s.num by omega) (show (0 : Int) ≤ r.den by omega)
   exact (cmp_lt (by omega)).symm
  ·have h2 : s.num < 0 := by
    rcases Int.lt_or_le s.num 0 with g | g
    ·exact g
    ·rw [decide_eq_false h, decide_eq_false (show ¬ s.num < 0 by omega)] at hne; simp at hne
   refine Ev.neg (by simp [h]) (Ev.some ?_)
   have a := Int.mul_neg_of_neg_of_pos h2 (show (0 : Int) < r.den by omega)
   have b := Int.mul_nonneg (show 0 ≤ r.num by omega) (show (0 : Int) ≤ s.den by omega)
   exact (cmp_gt (by omega)).symm
 ·have l1 := hr.n (show m ≤ 20000 by omega)
  have l2 := hs.d (show m ≤ 20000 by omega)
  have l3 := hs.n (show m ≤ 20000 by omega)
  have l4 := hr.d (show m ≤ 20000 by omega)
  have ts : Tm (r.num.natAbs * s.den) := (ts_of (by have := dl_mul r.num.natAbs s.den; have := hr.1; have := hs.2; omega)).tm
  refine Ev.neg hne (Ev.bind (big_ev l1) (Ev.bind (big_ev l2) (Ev.bind (rtimes_small l1.m l2.m) (Ev.bind (big_ev l3) (Ev.bind (big_ev l4) (Ev.bind (rtimes_small l3.m l4.m) (Ev.bind (rless_ev ts) ?_)))))))
  unfold rc
  by_cases h : r.num < 0
  ·have h2 : s.num < 0 := by
    rcases Int.lt_or_le s.num 0 with g | g
    ·exact g
    ·rw [decide_eq_true h, decide_eq_false (show ¬ s.num < 0 by omega)] at hne; simp at hne
   refine Ev.pos (decide_eq_true h) (Ev.some ?_)
   have e1 : ((r.num.natAbs * s.den : Nat) : Int) = -(r.num * s.den) := by rw [Int.natCast_mul, show ((r.num.natAbs : Nat) : Int) = -r.num by omega, Int.neg_mul]
   have e2 : ((s.num.natAbs * r.den : Nat) : Int) = -(s.num * r.den) := by rw [Int.natCast_mul, show ((s.num.natAbs : Nat) : Int) = -s.num by omega, Int.neg_mul]
   rw [e1, e2]
   rcases Int.lt_trichotomy (r.num * s.den) (s.num * r.den) with g | g | g
   ·rw [cmp_gt (by omega), cmp_lt g]; exact w64 (by omega) (by omega)
   ·rw [cmp_eq (by omega), cmp_eq g]; exact w64 (by omega) (by omega)
   ·rw [cmp_lt (by omega), cmp_gt g]; exact w64 (by omega) (by omega)
  ·have h2 : ¬ s.num < 0 := fun g => by rw [decide_eq_false h, decide_eq_true g] at hne; simp at hne
   refine Ev.neg (by simp [h]) (Ev.some ?_)
   rw [Int.natCast_mul, Int.natCast_mul, show ((r.num.natAbs : Nat) : Int) = r.num by omega, show ((s.num.natAbs : Nat) : Int) = s.num by omega]
theorem rvalid_Q {r s : Rat} {m : Nat} (hr : Rb m r) (hs : Rb m s) (hm : m ≤ 1000) :
  Ev (fun k => corporaref37_Valid.f k (decide (r.num < 0)) (S r.num.natAbs) (S r.den) (decide (s.num < 0)) (S s.num.natAbs) (S s.den)) (decide (rc r s ≤ 0)) := by
 unfold corporaref37_Valid.f
 exact Ev.bind (risratio_ev hr (by omega)) (Ev.pos rfl (Ev.bind (risratio_ev hs (by omega)) (Ev.pos rfl (Ev.bind (rcompare_Q hr hs hm) (Ev.now _)))))
def ec (a b c d : Rat) : Int := if rc b c < 0 then -1 else if rc d a < 0 then 1 else 0
theorem ecompare_Q {a b c d : Rat} {m : Nat} (ha : Rb m a) (hb : Rb m b) (hc : Rb m c) (hd : Rb m d) (hm : m ≤ 1000) (h1 : a ≤ b) (h2 : c ≤ d) :
  Ev (fun k => enclose_Compare.f k (decide (a.num < 0)) (S a.num.natAbs) (S a.den) (decide (b.num < 0)) (S b.num.natAbs) (S b.den) (decide (c.num < 0)) (S c.num.natAbs) (S c.den) (decide (d.num < 0)) (S d.num.natAbs) (S d.den)) (ec a b c d) := by
 unfold enclose_Compare.f
 refine Ev.bind (valid_Q ha hb hm) (Ev.pos (decide_eq_true (rc_le.2 h1)) (Ev.bind (valid_Q hc hd hm) ?_))
 rw [decide_eq_true (rc_le.2 h2)]
 refine Ev.step (fun k => enclose_Compare.j0.eq_2 ..) (Ev.neg (by simp) (Ev.bind (compare_Q hb hc hm) ?_))
 unfold ec
 by_cases g : rc b c < 0
 ·rw [if_pos g]; exact Ev.pos g (Ev.now _)
 ·rw [if_neg g]
  refine Ev.neg g (Ev.bind (compare_Q hd ha hm) ?_)
  by_cases g2 : rc d a < 0
  ·exact Ev.to (Ev.pos g2 (Ev.now _)) (if_pos g2).symm
  ·exact Ev.to (Ev.neg g2 (Ev.now _)) (if_neg g2).symm
theorem recompare_Q {a b c d : Rat} {m : Nat} (ha : Rb m a) (hb : Rb m b) (hc : Rb m c) (hd : Rb m d) (hm : m ≤ 1000) (h1 : a ≤ b) (h2 : c ≤ d) :
  Ev (fun k => corporaref37_Compare.f k (decide (a.num < 0)) (S a.num.natAbs) (S a.den) (decide (b.num < 0)) (S b.num.natAbs) (S b.den) (decide (c.num < 0)) (S c.num.natAbs) (S c.den) (decide (d.num < 0)) (S d.num.natAbs) (S d.den)) (ec a b c d) := by
 unfold corporaref37_Compare.f
 refine Ev.bind (rvalid_Q ha hb hm) (Ev.pos (decide_eq_true (rc_le.2 h1)) (Ev.bind (rvalid_Q hc hd hm) ?_))
 rw [decide_eq_true (rc_le.2 h2)]
 refine Ev.step (fun k => corporaref37_Compare.j0.eq_2 ..) (Ev.neg (by simp) (Ev.bind (rcompare_Q hb hc hm) ?_))
 unfold ec
 by_cases g : rc b c < 0
 ·rw [if_pos g]; exact Ev.pos g (Ev.now _)
 ·rw [if_neg g]
  refine Ev.neg g (Ev.bind (rcompare_Q hd ha hm) ?_)
  by_cases g2 : rc d a < 0
  ·exact Ev.to (Ev.pos g2 (Ev.now _)) (if_pos g2).symm
  ·exact Ev.to (Ev.neg g2 (Ev.now _)) (if_neg g2).symm
theorem econtains_Q {a b x : Rat} {m : Nat} (ha : Rb m a) (hb : Rb m b) (hx : Rb m x) (hm : m ≤ 1000) (h : a ≤ b) (h1 : a ≤ x) (h2 : x ≤ b) :
  Ev (fun k => enclose_Contains.f k (decide (a.num < 0)) (S a.num.natAbs) (S a.den) (decide (b.num < 0)) (S b.num.natAbs) (S b.den) (decide (x.num < 0)) (S x.num.natAbs) (S x.den)) true := by
 unfold enclose_Contains.f
 exact Ev.bind (valid_Q ha hb hm) (Ev.pos (decide_eq_true (rc_le.2 h)) (Ev.bind (isratio_ev hx (by omega)) (Ev.pos rfl (Ev.bind (compare_Q ha hx hm) (Ev.pos (rc_le.2 h1) (Ev.bind (compare_Q hx hb hm) (Ev.some (decide_eq_true (rc_le.2 h2)))))))))
theorem some37n_ev {l : List Int} {p : Int} (hp : TapeOk l p) : ∃ (r : Rat) (p' : Int), Rb 6 r ∧ TapeOk l p' ∧ Ev (fun k => corporalaw37_some.f k l p false) (decide (r.num < 0), S r.num.natAbs, S r.den, p') := by
 obtain ⟨n, p1, hn, hp1, e1⟩ := tapenat_ev (most := 6) hp (by omega) (by omega)
 obtain ⟨d, p2, hd, hp2, e2⟩ := tapenat_ev (most := 6) hp1 (by omega) (by omega)
 obtain ⟨c, p3, hc, _, _, hp3⟩ := next_some (n := 2) hp2 (by omega) (by omega)
 have d1 : dl 1 ≤ 6 := Nat.le_trans (dl_le (k := 1) (by omega)) (by omega)
 have pre : ∀ R, Ev (fun k => corporalaw37_some.j1 k false (S n) (S d) l p2) R → Ev (fun k => corporalaw37_some.f k l p false) R := fun R h => by
  unfold corporalaw37_some.f
  exact Ev.bind e1 (Ev.bind e2 (Ev.neg (by simp) (Ev.step (fun k => corporalaw37_some.j0.eq_2 ..) (Ev.neg (by simp) h))))
 by_cases h : d = 0
 ·have ev := rof_ev (neg := (c == 1)) (n := n) (d := 1) (Nat.le_trans hn (by omega)) (Nat.le_trans d1 (by omega))
  rw [if_neg (by omega), low_Q4 _ _ (by omega)] at ev
  refine ⟨mkRat (sg (c == 1) n) 1, p3, Rb_mk (by omega) hn d1, hp3, pre _ (Ev.step (fun k => corporalaw37_some.j1.eq_2 ..) (Ev.pos (S_0.2 h) (Ev.neg (by simp) (Ev.bindo hc ?_))))⟩
  rw [S1_eq]
  exact Ev.bind ev (Ev.some rfl)
 ·have ev := rof_ev (neg := (c == 1)) (n := n) (d := d) (Nat.le_trans hn (by omega)) (Nat.le_trans hd (by omega))
  rw [if_neg h, low_Q4 _ _ (by omega)] at ev
  exact ⟨mkRat (sg (c == 1) n) d, p3, Rb_mk (by omega) hn hd, hp3, pre _ (Ev.step (fun k => corporalaw37_some.j1.eq_2 ..) (Ev.neg (fun g => h (S_0.1 g)) (Ev.neg (by simp) (Ev.bindo hc (Ev.bind ev (Ev.some rfl))))))⟩
theorem interval_ev {l : List Int} {p : Int} (hp : TapeOk l p) : ∃ (a b : Rat) (p' : Int), Rb 6 a ∧ Rb 6 b ∧ a ≤ b ∧ TapeOk l p' ∧ Ev (fun k => corporalaw37_interval.f k l p) (decide (a.num < 0), S a.num.natAbs, S a.den, decide (b.num < 0), S b.num.natAbs, S b.den, p') := by
 obtain ⟨a, p1, ha, hp1, e1⟩ := some37n_ev hp
 obtain ⟨b, p2, hb, hp2, e2⟩ := some37n_ev hp1
 have ec := rcompare_Q ha hb (by omega)
 by_cases h : rc a b > 0
 ·refine ⟨b, a, p2, hb, ha, rc_le.1 (by rw [rc_swap]; omega), hp2, ?_⟩
  unfold corporalaw37_interval.f
  exact Ev.bind e1 (Ev.bind e2 (Ev.bind ec (Ev.pos h (Ev.now _))))
 ·refine ⟨a, b, p2, ha, hb, rc_le.1 (by omega), hp2, ?_⟩
  unfold corporalaw37_interval.f
  exact Ev.bind e1 (Ev.bind e2 (Ev.bind ec (Ev.neg h (Ev.now _))))
end Go.Proofs.Ytccgfmjcldifcaa.P
