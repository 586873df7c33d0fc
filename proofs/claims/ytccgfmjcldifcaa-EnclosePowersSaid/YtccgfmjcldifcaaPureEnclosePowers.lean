/- For the n of Log, 2^n is not greater than the power of the ratio, and 2^(n + 1) is greater; equality is reported: the plain statement; no condition. -/
import Derived.Test.YtccgfmjcldifcaaDLEnclosePowers
import Derived.Test.YtccgfmjcldifcaaMPow
namespace Go.Proofs.Ytccgfmjcldifcaa.Pure
open Go.RowKit Go.Proofs.Ytccgfmjcldifcaa.P Go.Proofs.YtccgfmjcldifcaaW.PrintWords Go.Proofs.YtccgfmjcldifcaaW.PrintLast
theorem powers_j4 {p y next : Rat} {ex : Bool} (hp : Rb 500 p) (hy : Rb 500 y) (hn : p * up2 1 = next) (h1 : p ≤ y) (h2 : ex = true ↔ y ≤ p) (h3 : y < next) :
  Ev (fun k => corporalaw37_EnclosePowers.j4 k ex (decide (y.num < 0)) (S y.num.natAbs) (S y.den) (decide ((up2 1).num < 0)) (S (up2 1).num.natAbs) (S (up2 1).den) (decide (p.num < 0)) (S p.num.natAbs) (S p.den)) true := by
 obtain ⟨bn, en⟩ := mul_Q hp (up2_Rb (k := 1) (m := 500) (by omega)) (by omega)
 rw [hn] at bn en
 have hb := compare_Q hp hy (by omega)
 refine Ev.step (fun k => corporalaw37_EnclosePowers.j4.eq_2 ..) (Ev.bind en (Ev.pos rfl (Ev.bind hb (Ev.pos (rc_le.2 h1) (Ev.bind hb (Ev.pos ?_ (Ev.bind (compare_Q (hy.mono (n := 1000) (by omega)) bn (by omega)) (Ev.pos (rc_lt.2 h3) (Ev.bind known37_ev (Ev.now _))))))))))
 have q1 := rc_le.2 h1
 have e : (rc p y == 0) = ex := by
  have q2 := rc_swap p y
  rw [Bool.eq_iff_iff, beq_iff_eq, h2, ← rc_le]
  constructor <;> intro g <;> omega
 rw [e]; simp
theorem powers_l0 (x : Rat) (n : Int) (ex : Bool) (j : Nat) (hj : j ≤ 4)
  (next : ∀ y : Rat, y = mkRat (x.num ^ 2 ^ j) (x.den ^ 2 ^ j) → Rb 96 y → Ev (fun k => corporalaw37_EnclosePowers.l1 k n ex 0 (decide (y.num < 0)) (S y.num.natAbs) (S y.den) false (S 2) (S 1) false (S 1) (S 1)) true) (d : Nat) :
  ∀ i : Nat, i + d = j → ∀ y : Rat, y = mkRat (x.num ^ 2 ^ i) (x.den ^ 2 ^ i) → Rb (6 * 2 ^ i) y → Ev (fun k => corporalaw37_EnclosePowers.l0 k (j : Int) n ex (i : Int) (decide (y.num < 0)) (S y.num.natAbs) (S y.den)) true := by
 have le16 : ∀ i : Nat, i ≤ 4 → 2 ^ i ≤ 16 := fun i h => Nat.pow_le_pow_right (n := 2) (by omega) h
 induction d with
 | zero =>
  intro i hi y hy by'
  obtain rfl : i = j := by omega
  have := le16 i hj
  refine Ev.step (fun k => corporalaw37_EnclosePowers.l0.eq_2 ..) (Ev.neg (by omega) ?_)
  rw [S2_eq, S1_eq]
  exact next y hy (by'.mono (by omega))
 | succ d ih =>
  intro i hi y hy by'
  have := le16 i (by omega)
  obtain ⟨b, e⟩ := mul_Q by' by' (by omega)
  refine Ev.step (fun k => corporalaw37_EnclosePowers.l0.eq_2 ..) (Ev.pos (by omega) (Ev.bind e (Ev.pos rfl ?_)))
  rw [w64i (by omega)]
  refine ih (i + 1) (by omega) (y * y) ?_ (by rw [Nat.pow_succ]; exact b.mono (by omega))
  rw [hy, Rat.mkRat_mul_mkRat, ← Int.pow_add, ← Nat.pow_add, Nat.pow_succ, Nat.mul_two]
theorem EnclosePowers : corporalaw37_EnclosePowers.Pure := by
 intro l0 a1 _ _ _ _
 obtain ⟨l', hl, hp⟩ := new_some l0
 obtain ⟨x, p1, hx, bx, _, ex⟩ := some37_ev hp
 obtain ⟨c, hc, c0, c1⟩ := mod_some (x := a1) (n := 5) (by omega) (by omega)
 obtain ⟨j, rfl⟩ := Int.eq_ofNat_of_zero_le c0
 have hj : j ≤ 4 := by omega
 obtain ⟨n, xe, n0, n1, ln, e1⟩ := log_ev hx (bx.mono (n := 15) (by omega)) (j := j) (by omega)
 have pa : 0 < x.num.natAbs ^ 2 ^ j := Nat.pow_pos (by omega)
 have pb : 0 < x.den ^ 2 ^ j := Nat.pow_pos (den_pos x)
 have dlp : ∀ t : Nat, dl t ≤ 6 → dl (t ^ 2 ^ j) ≤ 97 := fun t ht => by
  have h1 := dl_pow t (2 ^ j)
  have h2 : 2 ^ j * dl t ≤ 16 * 6 := Nat.mul_le_mul (Nat.pow_le_pow_right (n := 2) (by omega) hj) ht
  omega
 have hA : (x.num ^ 2 ^ j) = ((x.num.natAbs ^ 2 ^ j : Nat) : Int) := by rw [Int.natCast_pow, show ((x.num.natAbs : Nat) : Int) = x.num by omega]
 refine Ev.rounds (g := fun k => corporalaw37_EnclosePowers.f k l0 a1) ?_
 unfold corporalaw37_EnclosePowers.f
 refine Ev.bindo hl (Ev.bind ex (Ev.bindo hc (Ev.bind e1 (Ev.pos rfl ?_))))
 refine powers_l0 x n xe j hj (fun y hy by' => ?_) j 0 (by omega) x (by rw [Nat.pow_zero, Int.pow_one, Nat.pow_one, Rat.mkRat_self]) (bx.mono (by omega))
 rw [hA] at hy
 have dA := dlp _ bx.1
 have dB := dlp _ bx.2
 generalize x.num.natAbs ^ 2 ^ j = A at *
 generalize x.den ^ 2 ^ j = B at *
 have by5 := by'.mono (n := 500) (by omega)
 by_cases hn : 0 ≤ n
 ·obtain ⟨m, rfl⟩ := Int.eq_ofNat_of_zero_le hn
  obtain ⟨u1, u2, u3⟩ := ln.up rfl
  have hm : m + 1 ≤ 4 * 97 + 1 := bit_lim (x := A) (y := m + 1) dA (by
   have := Nat.le_mul_of_pos_left (2 ^ m) pb
   exact Nat.le_trans (by rw [Nat.add_sub_cancel]; exact this) u1)
  have loop : ∀ d i : Nat, i + d = m → Ev (fun k => corporalaw37_EnclosePowers.l1 k (m : Int) xe (i : Int) (decide (y.num < 0)) (S y.num.natAbs) (S y.den) (decide ((up2 1).num < 0)) (S (up2 1).num.natAbs) (S (up2 1).den) (decide ((up2 i).num < 0)) (S (up2 i).num.natAbs) (S (up2 i).den)) true := by
   intro d
   induction d with
   | zero =>
    intro i hi
    obtain rfl : i = m := by omega
    refine Ev.step (fun k => corporalaw37_EnclosePowers.l1.eq_2 ..) (Ev.neg (by omega) (Ev.step (fun k => corporalaw37_EnclosePowers.j2.eq_2 ..) (Ev.step (fun k => corporalaw37_EnclosePowers.l2.eq_2 ..) (Ev.neg (by omega) ?_))))
    refine powers_j4 (up2_Rb (by omega)) by5 (up2_mul i) ?_ ?_ ?_
    ·rw [hy]; exact mk_le (by omega) pb (nat_le (a := 2 ^ i) (b := B) (c := A) (d := 1) (by rw [Nat.mul_comm, Nat.mul_one]; exact u1))
    ·rw [u3]
     constructor
     ·intro g; rw [hy]; exact mk_le pb (by omega) (nat_le (a := A) (b := 1) (c := 2 ^ i) (d := B) (by rw [Nat.mul_one, Nat.mul_comm]; omega))
     ·intro g
      rcases Nat.lt_or_eq_of_le u1 with l | l
      ·exfalso
       have : up2 i < y := by rw [hy]; exact mk_lt (by omega) pb (nat_lt (a := 2 ^ i) (b := B) (c := A) (d := 1) (by rw [Nat.mul_comm, Nat.mul_one]; exact l))
       exact Rat.not_le.2 this g
      ·exact l
    ·rw [hy]; exact mk_lt pb (by omega) (nat_lt (a := A) (b := 1) (c := 2 ^ (i + 1)) (d := B) (by rw [Nat.mul_one, Nat.mul_comm]; exact u2))
   | succ d ih =>
    intro i hi
    obtain ⟨_, e⟩ := mul_Q (up2_Rb (k := i) (m := 500) (by omega)) (up2_Rb (k := 1) (m := 500) (by omega)) (by omega)
    rw [up2_mul] at e
    refine Ev.step (fun k => corporalaw37_EnclosePowers.l1.eq_2 ..) (Ev.pos (by omega) (Ev.pos (by omega) (Ev.bind e ?_)))
    rw [w64i (by omega)]
    exact ih (i + 1) (by omega)
  exact loop m 0 (by omega)
 ·obtain ⟨m, hm⟩ : ∃ m : Nat, n = -(m : Int) := ⟨(-n).toNat, by omega⟩
  subst hm
  obtain ⟨u1, u2, u3⟩ := ln.down rfl
  have hm : m ≤ 4 * 97 + 1 := bit_lim (x := B) (y := m) dB (by
   obtain ⟨t, rfl⟩ : ∃ t, m = t + 1 := ⟨m - 1, by omega⟩
   have := Nat.le_mul_of_pos_left (2 ^ (t + 1)) pa
   rw [Nat.pow_succ] at this u2
   rw [Nat.add_sub_cancel]; omega)
  have loop : ∀ d i : Nat, i + d = m → Ev (fun k => corporalaw37_EnclosePowers.l2 k (-(m : Int)) xe (-(i : Int)) (decide (y.num < 0)) (S y.num.natAbs) (S y.den) (decide ((up2 1).num < 0)) (S (up2 1).num.natAbs) (S (up2 1).den) (decide ((dn2 i).num < 0)) (S (dn2 i).num.natAbs) (S (dn2 i).den)) true := by
   intro d
   induction d with
   | zero =>
    intro i hi
    obtain rfl : i = m := by omega
    refine Ev.step (fun k => corporalaw37_EnclosePowers.l2.eq_2 ..) (Ev.neg (by omega) ?_)
    have p := Nat.two_pow_pos i
    refine powers_j4 (next := dn2 i * up2 1) (dn2_Rb (by omega)) by5 rfl ?_ ?_ ?_
    ·rw [hy]; exact mk_le p pb (nat_le (a := 1) (b := B) (c := A) (d := 2 ^ i) (by rw [Nat.one_mul]; exact u1))
    ·rw [u3]
     constructor
     ·intro g; rw [hy]; exact mk_le pb p (nat_le (a := A) (b := 2 ^ i) (c := 1) (d := B) (by rw [Nat.one_mul]; omega))
     ·intro g
      rcases Nat.lt_or_eq_of_le u1 with l | l
      ·exfalso
       have : dn2 i < y := by rw [hy]; exact mk_lt p pb (nat_lt (a := 1) (b := B) (c := A) (d := 2 ^ i) (by rw [Nat.one_mul]; exact l))
       exact Rat.not_le.2 this g
      ·exact l
    ·have e : dn2 i * up2 1 = mkRat 2 (2 ^ i) := by
      unfold dn2 up2
      rw [Rat.mkRat_mul_mkRat, Nat.mul_one]; rfl
     rw [hy, e]; exact mk_lt pb p (nat_lt (a := A) (b := 2 ^ i) (c := 2) (d := B) (by rw [Nat.mul_comm 2]; exact u2))
   | succ d ih =>
    intro i hi
    have hq := quo_Q (dn2_Rb (k := i) (m := 500) (by omega)) (up2_Rb (k := 1) (m := 500) (by omega)) (by omega)
    rw [if_neg up2_ne] at hq
    obtain ⟨q, hq1, _, e⟩ := hq
    have hqq : q = dn2 (i + 1) := rat_cancel up2_ne (hq1.trans (dn2_mul i).symm)
    rw [hqq] at e
    refine Ev.step (fun k => corporalaw37_EnclosePowers.l2.eq_2 ..) (Ev.pos (by omega) (Ev.pos (by omega) (Ev.bind e ?_)))
    rw [w64 (by omega) (by omega), show -(i : Int) - 1 = -((i + 1 : Nat) : Int) by omega]
    exact ih (i + 1) (by omega)
  refine Ev.step (fun k => corporalaw37_EnclosePowers.l1.eq_2 ..) (Ev.neg (by omega) (Ev.step (fun k => corporalaw37_EnclosePowers.j2.eq_2 ..) ?_))
  exact loop m 0 (by omega)
end Go.Proofs.Ytccgfmjcldifcaa.Pure
