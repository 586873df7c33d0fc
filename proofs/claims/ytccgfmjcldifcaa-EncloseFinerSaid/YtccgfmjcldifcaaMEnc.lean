/- Intervals of ratios: what Compare of ratios, unit, Bits, Valid, Contains and Compare of intervals come to, in the program and in the reference. -/
import Derived.Test.YtccgfmjcldifcaaDF
import Derived.Test.YtccgfmjcldifcaaMLog
namespace Go.Proofs.Ytccgfmjcldifcaa.P
open Go.RowKit Go.Proofs.YtccgfmjcldifcaaW.PrintWords Go.Proofs.YtccgfmjcldifcaaW.PrintLast Go.Proofs.YtccgfmjcldifcaaW.PrintMore Go.Proofs.Ytccgfmjcldifcaa.Dg
set_option linter.unusedVariables false
def rc (r s : Rat) : Int := cmp (r.num * s.den) (s.num * r.den)
theorem rc_le {r s : Rat} : rc r s ≤ 0 ↔ r ≤ s := by
 rw [Rat.le_iff]; unfold rc cmp
 constructor
 ·intro h
  rcases Int.lt_trichotomy (r.num * s.den) (s.num * r.den) with g | g | g
  ·exact Int.le_of_lt g
  ·exact Int.le_of_eq g
  ·rw [if_neg (by omega), if_neg (by omega)] at h; omega
 ·intro h
  by_cases g : r.num * s.den < s.num * r.den
  ·rw [if_pos g]; omega
  ·rw [if_neg g, if_pos (by omega)]; omega
theorem compare_Q {r s : Rat} {m : Nat} (hr : Rb m r) (hs : Rb m s) (hm : m ≤ 1000) :
  Ev (fun k => ratio_Compare.f k (decide (r.num < 0)) (S r.num.natAbs) (S r.den) (decide (s.num < 0)) (S s.num.natAbs) (S s.den)) (rc r s) := by
 obtain ⟨c, t, ht, hl, ev⟩ := plus_Q (decide (r.num < 0)) (!decide (s.num < 0)) r.num.natAbs r.den s.num.natAbs s.den hr.1 hr.2 hs.1 hs.2 hm
 rw [sg_not, sg_of, sg_of] at ht
 have hs' : -s.num * (r.den : Int) = -(s.num * r.den) := Int.neg_mul ..
 unfold ratio_Compare.f
 refine Ev.bind (read_ev hr hs (by omega)) (Ev.pos rfl (Ev.pos (by simp) (Ev.bindo rfl (Ev.pos (by simp) (Ev.bind ev ?_)))))
 unfold rc
 by_cases h : t = 0
 ·subst h
  have h0 : sg c 0 = 0 := by cases c <;> rfl
  exact Ev.pos (W_len0.2 rfl) (Ev.some (cmp_eq (by omega)).symm)
 ·refine Ev.neg (fun e => h (W_len0.1 e)) ?_
  cases c
  ·have h0 : sg false t = (t : Int) := rfl
   exact Ev.neg (by simp) (Ev.some (cmp_gt (by omega)).symm)
  ·have h0 : sg true t = -(t : Int) := rfl
   exact Ev.pos rfl (Ev.some (cmp_lt (by omega)).symm)
theorem mk_cross (a : Int) {c : Nat} (hc : 0 < c) : (mkRat a c).num * c = a * (mkRat a c).den :=
 (Rat.mkRat_eq_iff (mkRat a c).den_nz (by omega)).1 (Rat.mkRat_self _)
theorem mk_le {a b : Int} {c d : Nat} (hc : 0 < c) (hd : 0 < d) (h : a * d ≤ b * c) : mkRat a c ≤ mkRat b d := by
 rw [Rat.le_iff]
 have h1 := mk_cross a hc
 have h2 := mk_cross b hd
 have p1 := den_pos (mkRat a c)
 have p2 := den_pos (mkRat b d)
 generalize (mkRat a c).num = x at *
 generalize (mkRat a c).den = y at *
 generalize (mkRat b d).num = u at *
 generalize (mkRat b d).den = v at *
 rcases Int.lt_or_le (u * y) (x * v) with g | g
 ·exfalso
  have hcd : (0 : Int) < (c : Int) * d := Int.mul_pos (by omega) (by omega)
  have hyv : (0 : Int) ≤ (y : Int) * v := Int.mul_nonneg (by omega) (by omega)
  have g1 := Int.mul_lt_mul_of_pos_right g hcd
  have g2 := Int.mul_le_mul_of_nonneg_right h hyv
  have e1 : x * v * ((c : Int) * d) = a * d * ((y : Int) * v) := by
   have : x * v * ((c : Int) * d) = (x * c) * (v * d) := by grind
   rw [this, h1]; grind
  have e2 : u * y * ((c : Int) * d) = b * c * ((y : Int) * v) := by
   have : u * y * ((c : Int) * d) = (u * d) * (y * c) := by grind
   rw [this, h2]; grind
  omega
 ·exact g
theorem Rb_mkRat {n : Int} {d m : Nat} (h : 0 < d) (hn : dl n.natAbs ≤ m) (hd : dl d ≤ m) : Rb m (mkRat n d) := by
 have := Rb_mk (a := decide (n < 0)) h hn hd
 rwa [sg_of] at this
theorem unit_Q {n : Int} {j : Nat} (hj : j ≤ 8) (h0 : -1000000 < n) (h1 : n < 1000000) : Rb 20 (mkRat n (2 ^ j)) ∧ Ev (fun k => enclose_unit.f k n (j : Int)) (Q (mkRat n (2 ^ j))) := by
 have p := Nat.two_pow_pos j
 have q := pow_le256 hj
 refine ⟨Rb_mkRat p (dl_le (Nat.lt_of_lt_of_le (show n.natAbs < 1000000 by omega) (by decide))) (dl_le (Nat.lt_of_le_of_lt q (by decide))), ?_⟩
 unfold enclose_unit.f
 have hm := make_ev (x := n) (y := ((2 ^ j : Nat) : Int)) (by omega) (by omega) (by omega) (by omega)
 rw [if_neg (by omega), decide_eq_false (show ¬ ((2 ^ j : Nat) : Int) < 0 by omega), Bool.bne_false, Int.natAbs_natCast, low_Q4 _ _ p, sg_of] at hm
 rw [shl_two hj]
 exact Ev.pos (by rw [wrap_u64]; omega) (Ev.bind hm (Ev.some rfl))
def hi (n : Int) (ex : Bool) : Int := if ex = true then n else n + 1
theorem bits_Q {r : Rat} {j : Nat} (hr : 0 < r.num) (hb : Rb 15 r) (hj : j ≤ 8) : ∃ n ex, -300000 < n ∧ n < 300000 ∧ Lg (r.num.natAbs ^ 2 ^ j) (r.den ^ 2 ^ j) n ex ∧ Rb 20 (mkRat n (2 ^ j)) ∧ Rb 20 (mkRat (hi n ex) (2 ^ j)) ∧
  Ev (fun k => enclose_Bits.f k (decide (r.num < 0)) (S r.num.natAbs) (S r.den) (j : Int)) ((Q (mkRat n (2 ^ j))).1, (Q (mkRat n (2 ^ j))).2.1, (Q (mkRat n (2 ^ j))).2.2, (Q (mkRat (hi n ex) (2 ^ j))).1, (Q (mkRat (hi n ex) (2 ^ j))).2.1, (Q (mkRat (hi n ex) (2 ^ j))).2.2, 0) := by
 obtain ⟨n, ex, n0, n1, ln, ev⟩ := log_ev hr hb hj
 obtain ⟨b1, e1⟩ := unit_Q (n := n) hj (by omega) (by omega)
 obtain ⟨b2, e2⟩ := unit_Q (n := n + 1) hj (by omega) (by omega)
 cases ex
 ·refine ⟨n, false, n0, n1, ln, b1, b2, ?_⟩
  unfold enclose_Bits.f
  refine Ev.bind ev (Ev.pos rfl (Ev.neg (by simp) (Ev.bind e1 ?_)))
  rw [w64 (by omega) (by omega)]
  exact Ev.bind e2 (Ev.some rfl)
 ·refine ⟨n, true, n0, n1, ln, b1, b1, ?_⟩
  unfold enclose_Bits.f
  exact Ev.bind ev (Ev.pos rfl (Ev.pos rfl (Ev.bind e1 (Ev.bind e1 (Ev.some rfl)))))
theorem valid_Q {r s : Rat} {m : Nat} (hr : Rb m r) (hs : Rb m s) (hm : m ≤ 1000) :
  Ev (fun k => enclose_Valid.f k (decide (r.num < 0)) (S r.num.natAbs) (S r.den) (decide (s.num < 0)) (S s.num.natAbs) (S s.den)) (decide (rc r s ≤ 0)) := by
 unfold enclose_Valid.f
 exact Ev.bind (isratio_ev hr (by omega)) (Ev.pos rfl (Ev.bind (isratio_ev hs (by omega)) (Ev.pos rfl (Ev.bind (compare_Q hr hs hm) (Ev.now _)))))
theorem Lg.finer {a b M : Nat} {n m : Int} {x y : Bool} (ha : 0 < a) (hb : 0 < b) (h : Lg a b n x) (k : Lg (a ^ M) (b ^ M) m y) (hM : 0 < M) : n * M ≤ m ∧ hi m y ≤ hi n x * M := by
 obtain ⟨p, q, hn, h1, h2, h3⟩ := h
 have k0 := k
 obtain ⟨r, s, hm, k1, k2, k3⟩ := k
 have pa : 0 < a ^ M := Nat.pow_pos ha
 have pb : 0 < b ^ M := Nat.pow_pos hb
 have e1 : ∀ u v : Nat, (u * 2 ^ v) ^ M = u ^ M * 2 ^ (v * M) := fun u v => by rw [Nat.mul_pow, ← Nat.pow_mul]
 have l1 : b ^ M * 2 ^ (p * M) ≤ a ^ M * 2 ^ (q * M) := by rw [← e1, ← e1]; exact Nat.pow_le_pow_left h1 M
 have u1 : a ^ M * 2 ^ (q * M) < b ^ M * 2 ^ ((p + 1) * M) := by rw [← e1, ← e1]; exact Nat.pow_lt_pow_left h2 (by omega)
 have i1 := two_bounds pa pb rfl l1 k2
 have i2 := two_bounds pa pb rfl k1 u1
 have hnM : n * M = ((p * M : Nat) : Int) - ((q * M : Nat) : Int) := by rw [hn, Int.sub_mul, Int.natCast_mul, Int.natCast_mul]
 rw [Nat.add_mul] at i2
 refine ⟨by omega, ?_⟩
 unfold hi
 cases x
 ·rw [show (if false = true then n else n + 1) = n + 1 from rfl, Int.add_mul]
  split <;> omega
 ·rw [show (if true = true then n else n + 1) = n from rfl]
  have e := h3.1 rfl
  have eM : b ^ M * 2 ^ (p * M) = a ^ M * 2 ^ (q * M) := by rw [← e1, ← e1, e]
  have L : Lg (a ^ M) (b ^ M) (n * M) true := ⟨p * M, q * M, hnM, l1, by
   rw [← eM]
   exact Nat.mul_lt_mul_of_pos_left (Nat.pow_lt_pow_right (show 1 < 2 by omega) (by omega)) pb, ⟨fun _ => eM, fun _ => rfl⟩⟩
  obtain ⟨g1, g2⟩ := Lg.unique pa pb pa pb rfl L k0
  subst g2
  rw [if_pos rfl]; omega
end Go.Proofs.Ytccgfmjcldifcaa.P
