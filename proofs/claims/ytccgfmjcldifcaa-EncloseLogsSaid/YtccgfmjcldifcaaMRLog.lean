/- What the reference's powers of two, below, Log and Bits of chapter 37 come to. -/
import Derived.Test.YtccgfmjcldifcaaMEnc
namespace Go.Proofs.Ytccgfmjcldifcaa.P
open Go.RowKit Go.Proofs.YtccgfmjcldifcaaW.PrintWords Go.Proofs.YtccgfmjcldifcaaW.PrintLast Go.Proofs.YtccgfmjcldifcaaW.PrintMore Go.Proofs.Ytccgfmjcldifcaa.Dg
set_option linter.unusedVariables false
theorem shl_u64 {j : Nat} (hj : j < 40) : shl .u64 1 (j : Int) = ((2 ^ j : Nat) : Int) := by
 have h : ∀ j : Fin 40, shl .u64 1 ((j : Nat) : Int) = ((2 ^ (j : Nat) : Nat) : Int) := by decide
 exact h ⟨j, hj⟩
theorem T_two_len {j : Nat} : (T (2 ^ j)).length ≤ j + 1 := Nat.le_trans (T_len_dl _) (by
 have h := dl_pow 2 j
 have h1 : dl 2 ≤ 1 := dl_le (k := 1) (by omega)
 have := Nat.mul_le_mul_left j h1
 omega)
theorem two_l0 (n : Nat) : ∀ m : Nat, (T m).length + 2 * n < 1000000 → Ev (fun k => corporaref37_two.l0 k (n : Int) (T m)) (T (m * 2 ^ n)) := by
 induction n using Nat.strongRecOn with
 | _ n ih =>
  intro m hm
  refine Ev.step (fun k => corporaref37_two.l0.eq_2 ..) ?_
  have h41 := T_two_len (j := 40)
  by_cases h : 40 ≤ n
  ·have hl := T_mul_len m (2 ^ 40)
   refine Ev.pos (by omega) (Ev.bind (of64_ev (n := 2 ^ 40) (by decide)) (Ev.bind (times_ev (by omega)) ?_))
   rw [w64 (by omega) (by omega), show (n : Int) - 40 = ((n - 40 : Nat) : Int) by omega]
   have := ih (n - 40) (by omega) (m * 2 ^ 40) (by omega)
   rwa [Nat.mul_assoc, ← Nat.pow_add, show 40 + (n - 40) = n by omega] at this
  ·have hw : IntKind.u64.wrap (n : Int) = (n : Int) := u64 (by omega) (by omega)
   have hp : 2 ^ n ≤ 2 ^ 40 := Nat.pow_le_pow_right (by omega) (by omega)
   have hl := T_two_len (j := n)
   refine Ev.neg (by omega) (Ev.pos (by omega) ?_)
   rw [hw, shl_u64 (by omega)]
   exact Ev.bind (of64_ev (by omega)) (Ev.bind (times_ev (by omega)) (Ev.now _))
theorem two_ev {n : Nat} (h : n < 400000) : Ev (fun k => corporaref37_two.f k (n : Int)) (T (2 ^ n)) := by
 unfold corporaref37_two.f
 have h1 : (T 1).length ≤ 1 := T_len_le (by omega)
 have := two_l0 n 1 (by omega)
 rw [Nat.one_mul] at this
 exact Ev.bind (of64_ev (n := 1) (by omega)) this
def Le2 (a b : Nat) (n : Int) : Prop := b * 2 ^ n.toNat ≤ a * 2 ^ (-n).toNat
theorem below_ev {a b : Nat} {n : Int} (ha : (T a).length < 10000) (hb : (T b).length < 10000) (h0 : -400000 < n) (h1 : n < 400000) :
  Ev (fun k => corporaref37_below.f k n (T a) (T b)) (decide (b * 2 ^ n.toNat ≤ a * 2 ^ (-n).toNat), (decide (b * 2 ^ n.toNat = a * 2 ^ (-n).toNat))) := by
 unfold corporaref37_below.f
 have fin : ∀ x y : Nat, Ev (fun _ : Nat => some (decide (cmp x y ≤ 0), (cmp x y == 0))) (decide (x ≤ y), decide (x = y)) := fun x y => Ev.some (by
  rcases Nat.lt_trichotomy x y with g | g | g
  ·rw [cmp_lt (by omega), decide_eq_true (show x ≤ y by omega), decide_eq_false (show ¬ x = y by omega)]; rfl
  ·rw [cmp_eq (by omega), decide_eq_true (show x ≤ y by omega), decide_eq_true g]; rfl
  ·rw [cmp_gt (by omega), decide_eq_false (show ¬ x ≤ y by omega), decide_eq_false (show ¬ x = y by omega)]; rfl)
 by_cases h : 0 ≤ n
 ·obtain ⟨s, rfl⟩ := Int.eq_ofNat_of_zero_le h
  have hl := T_two_len (j := s)
  have hm := T_mul_len b (2 ^ s)
  rw [Int.toNat_natCast, show (-(s : Int)).toNat = 0 by omega, Nat.pow_zero, Nat.mul_one]
  exact Ev.pos (by omega) (Ev.bind (two_ev (by omega)) (Ev.bind (times_ev (by omega)) (Ev.bind (rless_ev (by unfold Tm; omega)) (fin _ _))))
 ·obtain ⟨s, rfl⟩ : ∃ s : Nat, n = -(s : Int) := ⟨(-n).toNat, by omega⟩
  have hl := T_two_len (j := s)
  have hm := T_mul_len a (2 ^ s)
  rw [show (-(s : Int)).toNat = 0 by omega, Int.neg_neg, Int.toNat_natCast, Nat.pow_zero, Nat.mul_one]
  refine Ev.neg (by omega) ?_
  rw [w64 (by omega) (by omega)]
  exact Ev.bind (two_ev (by omega)) (Ev.bind (times_ev (by omega)) (Ev.bind (rless_ev (by unfold Tm; omega)) (fin _ _)))
theorem rlog_l1 {a b : Nat} (ha : (T a).length < 10000) (hb : (T b).length < 10000) (d : Nat) : ∀ lo hi : Int, (hi - lo).toNat = d → lo < hi → -390000 < lo → hi < 390000 → Le2 a b lo → ¬ Le2 a b hi →
  ∃ n ex, Lg a b n ex ∧ Ev (fun k => corporaref37_Log.l1 k (T a) (T b) lo hi) (n, ex, 0) := by
 induction d using Nat.strongRecOn with
 | _ d ih =>
  intro lo hi hd h1 h2 h3 hlo hhi
  by_cases hc : hi - lo > 1
  ·obtain ⟨m, hm⟩ : ∃ m : Int, (lo + hi) / 2 = m := ⟨_, rfl⟩
   have hb1 := below_ev (n := m) ha hb (by omega) (by omega)
   have pre : ∀ R, Ev (fun k => (corporaref37_below.f k m (T a) (T b)).bind fun bt => (if bt.1 = true then corporaref37_Log.l1 k (T a) (T b) m hi else corporaref37_Log.l1 k (T a) (T b) lo m)) R → Ev (fun k => corporaref37_Log.l1 k (T a) (T b) lo hi) R := fun R h => by
    refine Ev.step (fun k => corporaref37_Log.l1.eq_2 ..) ?_
    rw [w64 (x := hi - lo) (by omega) (by omega), w64 (x := lo + hi) (by omega) (by omega), hm]
    exact Ev.pos hc h
   by_cases g : Le2 a b m
   ·obtain ⟨n, ex, l, e⟩ := ih (hi - m).toNat (by omega) m hi rfl (by omega) (by omega) h3 g hhi
    exact ⟨n, ex, l, pre _ (Ev.bind hb1 (Ev.pos (decide_eq_true g) e))⟩
   ·obtain ⟨n, ex, l, e⟩ := ih (m - lo).toNat (by omega) lo m rfl (by omega) h2 (by omega) hlo g
    exact ⟨n, ex, l, pre _ (Ev.bind hb1 (Ev.neg (by rw [decide_eq_false (show ¬ (b * 2 ^ m.toNat ≤ a * 2 ^ (-m).toNat) from g)]; simp) e))⟩
  ·obtain rfl : hi = lo + 1 := by omega
   refine ⟨lo, decide (b * 2 ^ lo.toNat = a * 2 ^ (-lo).toNat), ⟨lo.toNat, (-lo).toNat, by omega, hlo, ?_, decide_eq_true_iff⟩, ?_⟩
   ·unfold Le2 at hhi
    by_cases g : 0 ≤ lo
    ·rw [show (lo + 1).toNat = lo.toNat + 1 by omega, show (-(lo + 1)).toNat = 0 by omega] at hhi
     rw [show (-lo).toNat = 0 by omega]; omega
    ·rw [show (lo + 1).toNat = 0 by omega] at hhi
     rw [show lo.toNat = 0 by omega, show (-lo).toNat = (-(lo + 1)).toNat + 1 by omega, Nat.pow_succ 2 (-(lo + 1)).toNat, ← Nat.mul_assoc, Nat.zero_add, Nat.pow_one]
     rw [Nat.pow_zero, Nat.mul_one] at hhi
     omega
   ·refine Ev.step (fun k => corporaref37_Log.l1.eq_2 ..) ?_
    rw [w64 (x := lo + 1 - lo) (by omega) (by omega)]
    exact Ev.neg (by omega) (Ev.bind (below_ev ha hb (by omega) (by omega)) (Ev.now _))
theorem lt_two14 (n : Nat) : n < 2 ^ (14 * (T n).length) := by
 have h := T_lt n
 have h2 : 10000 ^ (T n).length ≤ (2 ^ 14) ^ (T n).length := Nat.pow_le_pow_left (by omega) _
 rw [← Nat.pow_mul] at h2
 omega
theorem rlog_l0 (x y : Nat) (hx : 0 < x) (hy : 0 < y) (dx : dl x ≤ 15) (dy : dl y ≤ 15) (j : Nat) (hj : j ≤ 8) (d : Nat) : ∀ i : Nat, i + d = j →
  ∃ n ex, Lg (x ^ 2 ^ j) (y ^ 2 ^ j) n ex ∧ Ev (fun k => corporaref37_Log.l0 k (j : Int) (T (x ^ 2 ^ i)) (T (y ^ 2 ^ i)) (i : Int)) (n, ex, 0) := by
 have len : ∀ t : Nat, dl t ≤ 15 → ∀ i, i ≤ 8 → (T (t ^ 2 ^ i)).length ≤ 3841 := fun t ht i hi => Nat.le_trans (T_len_dl _) (dl_pow2 ht hi)
 induction d with
 | zero =>
  intro i hi
  obtain rfl : i = j := by omega
  have l1 := len x dx i hj
  have l2 := len y dy i hj
  have m1 : Lm (x ^ 2 ^ i) := Nat.le_trans (dl_pow2 dx hj) (by omega)
  have m2 : Lm (y ^ 2 ^ i) := Nat.le_trans (dl_pow2 dy hj) (by omega)
  have s1 := S_size_le m1
  have s2 := S_size_le m2
  have px : 0 < x ^ 2 ^ i := Nat.pow_pos hx
  have py : 0 < y ^ 2 ^ i := Nat.pow_pos hy
  generalize x ^ 2 ^ i = a at *
  generalize y ^ 2 ^ i = b at *
  have la := lt_two14 a
  have lb := lt_two14 b
  obtain ⟨n, ex, l, e⟩ := rlog_l1 (a := a) (b := b) (by omega) (by omega) _ (-14 * ((T b).length : Int) - 14) (14 * ((T a).length : Int) + 14) rfl (by omega) (by omega) (by omega) (by
   unfold Le2
   rw [show (-14 * ((T b).length : Int) - 14).toNat = 0 by omega, show (-(-14 * ((T b).length : Int) - 14)).toNat = 14 * (T b).length + 14 by omega, Nat.pow_zero, Nat.mul_one, Nat.pow_add]
   have h1 := Nat.le_mul_of_pos_left (2 ^ (14 * (T b).length) * 2 ^ 14) px
   have h2 := Nat.le_mul_of_pos_right (2 ^ (14 * (T b).length)) (show 0 < 2 ^ 14 by omega)
   omega) (by
   unfold Le2
   rw [show (14 * ((T a).length : Int) + 14).toNat = 14 * (T a).length + 14 by omega, show (-(14 * ((T a).length : Int) + 14)).toNat = 0 by omega, Nat.pow_zero, Nat.mul_one, Nat.pow_add]
   have h1 := Nat.le_mul_of_pos_left (2 ^ (14 * (T a).length) * 2 ^ 14) py
   have h2 := Nat.le_mul_of_pos_right (2 ^ (14 * (T a).length)) (show 0 < 2 ^ 14 by omega)
   omega)
  refine ⟨n, ex, l, Ev.step (fun k => corporaref37_Log.l0.eq_2 ..) (Ev.neg (by omega) (Ev.bind (rtext_ev m1.ts.tm) (Ev.neg (by omega) (Ev.bind (rtext_ev m2.ts.tm) ?_))))⟩
  rw [decide_eq_false (show ¬ ((S b).size : Int) > 20000 by omega)]
  refine Ev.step (fun k => corporaref37_Log.j2.eq_2 ..) (Ev.neg (by simp) ?_)
  rw [w64 (x := -14 * ((T b).length : Int)) (by omega) (by omega), w64 (x := -14 * ((T b).length : Int) - 14) (by omega) (by omega), w64 (x := 14 * ((T a).length : Int)) (by omega) (by omega), w64 (x := 14 * ((T a).length : Int) + 14) (by omega) (by omega)]
  exact e
 | succ d ih =>
  intro i hi
  obtain ⟨n, ex, l, e⟩ := ih (i + 1) (by omega)
  have l1 := len x dx i (by omega)
  have l2 := len y dy i (by omega)
  have k1 := len x dx (i + 1) (by omega)
  have k2 := len y dy (i + 1) (by omega)
  have sq : ∀ t : Nat, t ^ 2 ^ (i + 1) = t ^ 2 ^ i * t ^ 2 ^ i := fun t => by rw [Nat.pow_succ 2 i, Nat.mul_two, Nat.pow_add]
  rw [sq] at k1 k2
  rw [sq x, sq y] at e
  refine ⟨n, ex, l, Ev.step (fun k => corporaref37_Log.l0.eq_2 ..) (Ev.pos (by omega) (Ev.bind (times_ev (by omega)) (Ev.bind (times_ev (by omega)) (Ev.neg (by omega) (Ev.neg (by omega) ?_)))))⟩
  rw [w64i (by omega)]
  exact e
end Go.Proofs.Ytccgfmjcldifcaa.P
