/- What Shift and low come to: a product by a power of two, a quotient by one. -/
import Derived.Test.YtccgfmjcldifcaaMNat
namespace Go.Proofs.Ytccgfmjcldifcaa.P
open Go.RowKit Go.Proofs.YtccgfmjcldifcaaW.PrintWords Go.Proofs.YtccgfmjcldifcaaW.PrintMore Go.Proofs.Ytccgfmjcldifcaa.Dg
set_option linter.unusedVariables false
theorem or_comm_u32 {x y : Int} (h0 : 0 ≤ x) (h1 : x < 4294967296) (h2 : 0 ≤ y) (h3 : y < 4294967296) : Go.bits .or .u32 x y = Go.bits .or .u32 y x := by
 obtain ⟨a, rfl⟩ := Int.eq_ofNat_of_zero_le h0
 obtain ⟨b, rfl⟩ := Int.eq_ofNat_of_zero_le h2
 have hk : ∀ n : Int, 0 ≤ n → n < 2 ^ 32 → IntKind.u32.wrap n = n := fun n p q => by rw [IntKind.wrap_u32]; have q' : n < 4294967296 := q; omega
 rw [(bits_nat .u32 32 (by decide) hk _ _ (by omega) (by omega)).2, (bits_nat .u32 32 (by decide) hk _ _ (by omega) (by omega)).2, Nat.or_comm]
theorem pow_lt32 {s : Nat} (hs : s < 32) : (2 : Int) ^ s < 4294967296 := by
 have h : (2 : Nat) ^ s < 2 ^ 32 := Nat.pow_lt_pow_right (by omega) hs
 have h2 := Int.ofNat_lt.2 h
 rw [Int.natCast_pow, Int.natCast_pow] at h2
 exact h2
theorem or_u32 {x y : Int} {s : Nat} (hs : s < 32) (h0 : 0 ≤ x) (h1 : x < 2 ^ s) (h2 : 0 ≤ y) (h3 : y < 4294967296) (h4 : y % 2 ^ s = 0) : Go.bits .or .u32 x y = x + y := by
 have hp := pow_lt32 hs
 have hk : ∀ n : Int, 0 ≤ n → n < 2 ^ 32 → IntKind.u32.wrap n = n := fun n p q => by rw [IntKind.wrap_u32]; have q' : n < 4294967296 := q; omega
 rw [or_comm_u32 h0 (by omega) h2 h3, bits_join .u32 32 (by decide) hk s y x h2 h4 (by show y < 4294967296; exact h3) h0 h1 (by show x < 4294967296; omega), Int.add_comm]
theorem pow_split {s : Nat} (hs : s ≤ 32) : (2 : Int) ^ s * 2 ^ (32 - s) = 4294967296 := by
 rw [← Int.pow_add, show s + (32 - s) = 32 by omega]; rfl
theorem pow_pos' (s : Nat) : (0 : Int) < 2 ^ s := Int.pow_pos (by omega)
theorem shl_eq {x : Int} {s : Nat} (hs : s < 32) (h0 : 0 ≤ x) (h1 : x < 4294967296) : shl .u64 x (s : Int) = x * 2 ^ s := by
 unfold shl
 rw [Int.toNat_natCast, Nat.min_eq_left (by show s ≤ 64; omega)]
 refine u64 (Int.mul_nonneg h0 (Int.le_of_lt (pow_pos' s))) ?_
 have hp := pow_lt32 hs
 have := mul_lt_sq h0 (show x ≤ 4294967295 by omega) (Int.le_of_lt (pow_pos' s)) (show (2 : Int) ^ s ≤ 4294967295 by omega)
 omega
theorem shr_eq {x : Int} {s : Nat} (hs : s < 32) : shr .u64 x (s : Int) = x / 2 ^ s := by
 unfold shr
 rw [Int.toNat_natCast, Nat.min_eq_left (by show s ≤ 64; omega)]
theorem moved {x : Int} {s : Nat} (hs : s < 32) (h0 : 0 ≤ x) (h1 : x < 4294967296) :
  0 ≤ x * 2 ^ s / 4294967296 ∧ x * 2 ^ s / 4294967296 < 2 ^ s ∧ (x * 2 ^ s % 4294967296) % 2 ^ s = 0 ∧ x * 2 ^ s % 4294967296 + 4294967296 * (x * 2 ^ s / 4294967296) = x * 2 ^ s ∧ 0 ≤ x * 2 ^ s % 4294967296 ∧ x * 2 ^ s % 4294967296 + 2 ^ s ≤ 4294967296 := by
 have hp := pow_pos' s
 have hq := pow_pos' (32 - s)
 have he := pow_split (s := s) (by omega)
 have hx : 0 ≤ x * 2 ^ s := Int.mul_nonneg h0 (Int.le_of_lt hp)
 have hd := Int.emod_add_mul_ediv (x * 2 ^ s) 4294967296
 have e1 : x * 2 ^ s / 4294967296 = x / 2 ^ (32 - s) := by
  rw [← he, Int.mul_comm x]; exact Int.mul_ediv_mul_of_pos _ _ hp
 have e2 : x * 2 ^ s % 4294967296 = 2 ^ s * (x % 2 ^ (32 - s)) := by
  rw [← he, Int.mul_comm x]; exact Int.mul_emod_mul_of_pos _ _ hp
 refine ⟨Int.ediv_nonneg hx (by omega), ?_, ?_, hd, Int.emod_nonneg _ (by omega), ?_⟩
 ·rw [Int.ediv_lt_iff_lt_mul (by omega), Int.mul_comm (2 ^ s)]
  exact Int.mul_lt_mul_of_pos_right h1 hp
 ·rw [e2]; exact Int.mul_emod_right _ _
 ·rw [e2, ← he]
  have h3 := Int.emod_lt_of_pos x hq
  have := Int.mul_le_mul_of_nonneg_left (show x % 2 ^ (32 - s) + 1 ≤ 2 ^ (32 - s) by omega) (Int.le_of_lt hp)
  rw [Int.mul_add, Int.mul_one] at this
  exact this
theorem shift_l0 (x0 : List Int) (w s : Nat) (n : Nat) (h0 : Dig 4294967296 x0) (hs : s < 32) (hm : w + x0.length < 1099511627776) (hn : val 4294967296 x0 * 2 ^ s * 4294967296 ^ w = n) (d : Nat) :
  ∀ (i : Nat) (x7 : List Int), i + d = x0.length → x7.length = w + x0.length + 1 → Dig 4294967296 x7 → (∀ j, w + i < j → at_ x7 j = 0) → at_ x7 (w + i) < 2 ^ s → val 4294967296 x7 = val 4294967296 (x0.take i) * 2 ^ s * 4294967296 ^ w →
  Ev (fun k => bignat_Nat_Shift.l0 k (w : Int) (s : Int) x7 x0 (x0.length : Int) (i : Int)) (W n) := by
 induction d with
 | zero =>
  intro i x7 hi h7 hd hz ht hv
  obtain rfl : i = x0.length := by omega
  rw [val_full (Nat.le_refl _), hn] at hv
  exact Ev.step (fun k => bignat_Nat_Shift.l0.eq_2 ..) (Ev.neg (by omega) (Ev.bind (norm_ev hd hv (by omega)) (Ev.now _)))
 | succ d ih =>
  intro i x7 hi h7 hd hz ht hv
  have a0 := h0.at (by omega) i
  have a7 := hd.at (by omega) (w + i)
  obtain ⟨m0, m1, m2, m3, m4, m5⟩ := moved hs a0.1 a0.2
  have hp := pow_lt32 hs
  refine Ev.step (fun k => bignat_Nat_Shift.l0.eq_2 ..) ?_
  refine Ev.pos (by omega) (Ev.pos (by omega) (Ev.pos (by omega) (Ev.pos (by omega) ?_)))
  rw [w64a (by omega), w64i (by omega), w64i (by omega)]
  refine Ev.pos (by omega) (Ev.pos (by omega) (Ev.pos (by omega) (Ev.pos (by omega) ?_)))
  rw [rd_nat, rd_nat, Int.toNat_natCast, Int.toNat_natCast, u64 (x := at_ x0 i) (by omega) (by omega), shl_eq hs a0.1 a0.2, or_u32 hs a7.1 ht m4 (by omega) m2, Int.emod_eq_of_lt (a := at_ x0 i * 2 ^ s / 4294967296) m0 (by omega)]
  have hl1 : w + i < x7.length := by omega
  refine ih (i + 1) _ (by omega) (by simpa using h7) ((hd.set _ (by omega) (by omega)).set _ m0 (by omega)) (fun j hj => ?_) ?_ ?_
  ·rw [at_set_ne (by omega), at_set_ne (by omega)]; exact hz j (by omega)
  ·rw [← Nat.add_assoc, at_set_eq (by simp; omega)]; exact m1
  ·rw [val_set _ _ _ _ (by simp; omega), val_set _ _ _ _ hl1, at_set_ne (by omega), hz (w + i + 1) (by omega), val_take_succ, hv, Int.pow_succ, Int.pow_add]
   generalize at_ x0 i * 2 ^ s % 4294967296 = m at *
   generalize at_ x0 i * 2 ^ s / 4294967296 = q at *
   generalize (4294967296 : Int) ^ i = P at *
   generalize (4294967296 : Int) ^ w = Q at *
   generalize (2 : Int) ^ s = R at *
   clear ih hz
   grind
theorem shift_ev {a s : Nat} (hm : s / 32 + (W a).length < 1099511627776) : Ev (fun k => bignat_Nat_Shift.f k (W a) (s : Int)) (W (a * 2 ^ s)) := by
 unfold bignat_Nat_Shift.f
 by_cases h0 : a = 0
 ·subst h0
  exact Ev.pos (W_len0.2 rfl) (Ev.some (by rw [Nat.zero_mul, W_zero]))
 ·refine Ev.neg (fun h => h0 (W_len0.1 h)) ?_
  have e1 : wrap64 (Int.tdiv (s : Int) 32) = ((s / 32 : Nat) : Int) := by rw [tdiv_pos (by omega), w64 (by omega) (by omega)]; omega
  have e2 : IntKind.u64.wrap (Int.tmod (s : Int) 32) = ((s % 32 : Nat) : Int) := by rw [tmod_pos (by omega), u64 (by omega) (by omega)]; omega
  rw [e1, e2, w64a (by omega), w64i (by omega)]
  refine Ev.pos (by omega) (Ev.pos (by rw [Int.toNat_natCast]; omega) ?_)
  rw [Int.toNat_natCast]
  refine shift_l0 (W a) (s / 32) (s % 32) (a * 2 ^ s) (W_dig _) (by omega) (by omega) ?_ (W a).length 0 _ (by omega) (by simp) (Dig.replicate (by omega) _) (fun j _ => at_replicate _ j) (by rw [at_replicate]; exact pow_pos' _) (by rw [val_replicate]; simp [val_nil])
  rw [W_val]
  have e3 : (4294967296 : Int) ^ (s / 32) = 2 ^ (32 * (s / 32)) := by rw [Int.pow_mul]; rfl
  rw [e3, Int.mul_assoc, ← Int.pow_add, show s % 32 + 32 * (s / 32) = s by omega]
  simp
theorem low_l0 (x0 : List Int) (s : Nat) (n : Nat) (h0 : Dig 4294967296 x0) (hs : s < 32) (hm : x0.length < 1099511627776) (hn : val 4294967296 x0 = n) (d : Nat) :
  ∀ (i : Nat) (x5 : List Int), i + d = x0.length → x5.length = x0.length → Dig 4294967296 x5 → (∀ j, i ≤ j → at_ x5 j = 0) → val 4294967296 x5 * 2 ^ s + at_ x0 0 % 2 ^ s = val 4294967296 (x0.take i) + at_ x0 i % 2 ^ s * 4294967296 ^ i →
  Ev (fun k => bignat_Nat_low.l0 k x0 (s : Int) x5 (x0.length : Int) (i : Int)) (W (n / 2 ^ s)) := by
 have hp := pow_pos' s
 have hq := pow_pos' (32 - s)
 have he := pow_split (s := s) (by omega)
 induction d with
 | zero =>
  intro i x5 hi h5 hd hz hv
  obtain rfl : i = x0.length := by omega
  rw [val_full (Nat.le_refl _), hn, at_ge (l := x0) (i := x0.length) (Nat.le_refl _), Int.zero_emod, Int.zero_mul, Int.add_zero] at hv
  have hr := Int.emod_lt_of_pos (at_ x0 0) hp
  have hr0 := Int.emod_nonneg (at_ x0 0) (show (2 : Int) ^ s ≠ 0 by omega)
  have hx : val 4294967296 x5 = ((n / 2 ^ s : Nat) : Int) := by
   rw [Int.natCast_ediv, ← hv, Int.natCast_pow, Int.mul_comm]
   have : ((2 : Nat) : Int) = 2 := rfl
   rw [this, Int.mul_add_ediv_left _ _ (by omega), Int.ediv_eq_zero_of_lt hr0 hr, Int.add_zero]
  exact Ev.step (fun k => bignat_Nat_low.l0.eq_2 ..) (Ev.neg (by omega) (Ev.bind (norm_ev hd hx (by omega)) (Ev.now _)))
 | succ d ih =>
  intro i x5 hi h5 hd hz hv
  have a0 := h0.at (by omega) i
  have a1 := h0.at (by omega) (i + 1)
  have k1 : (at_ x0 i + at_ x0 (i + 1) * 4294967296) / 2 ^ s = at_ x0 i / 2 ^ s + at_ x0 (i + 1) * 2 ^ (32 - s) := by
   rw [← he, show at_ x0 i + at_ x0 (i + 1) * (2 ^ s * 2 ^ (32 - s)) = at_ x0 i + 2 ^ s * (at_ x0 (i + 1) * 2 ^ (32 - s)) by grind, Int.add_mul_ediv_left _ _ (by omega)]
  have k2 : 0 ≤ at_ x0 i / 2 ^ s ∧ at_ x0 i / 2 ^ s < 2 ^ (32 - s) := by
   refine ⟨Int.ediv_nonneg a0.1 (by omega), ?_⟩
   rw [Int.ediv_lt_iff_lt_mul hp, Int.mul_comm, he]; exact a0.2
  have k3 : (at_ x0 i / 2 ^ s + at_ x0 (i + 1) * 2 ^ (32 - s)) % 4294967296 = at_ x0 i / 2 ^ s + at_ x0 (i + 1) % 2 ^ s * 2 ^ (32 - s) := by
   have g1 := Int.emod_add_mul_ediv (at_ x0 (i + 1)) (2 ^ s)
   have g2 := Int.emod_lt_of_pos (at_ x0 (i + 1)) hp
   have g3 := Int.emod_nonneg (at_ x0 (i + 1)) (show (2 : Int) ^ s ≠ 0 by omega)
   have g4 : at_ x0 i / 2 ^ s + at_ x0 (i + 1) * 2 ^ (32 - s) = (at_ x0 i / 2 ^ s + at_ x0 (i + 1) % 2 ^ s * 2 ^ (32 - s)) + 4294967296 * (at_ x0 (i + 1) / 2 ^ s) := by
    rw [← he]
    generalize at_ x0 (i + 1) % 2 ^ s = m at *
    generalize at_ x0 (i + 1) / 2 ^ s = q at *
    grind
   rw [g4, Int.add_mul_emod_self_left]
   refine Int.emod_eq_of_lt ?_ ?_
   ·have := Int.mul_nonneg g3 (Int.le_of_lt hq); omega
   ·have := Int.mul_le_mul_of_nonneg_right (show at_ x0 (i + 1) % 2 ^ s + 1 ≤ 2 ^ s by omega) (Int.le_of_lt hq)
    rw [he, Int.add_mul, Int.one_mul] at this
    omega
  have k4 : 0 ≤ at_ x0 i / 2 ^ s + at_ x0 (i + 1) % 2 ^ s * 2 ^ (32 - s) ∧ at_ x0 i / 2 ^ s + at_ x0 (i + 1) % 2 ^ s * 2 ^ (32 - s) < 4294967296 := by
   rw [← k3]; exact ⟨Int.emod_nonneg _ (by omega), Int.emod_lt_of_pos _ (by omega)⟩
  have fin : val 4294967296 (x5.set i (at_ x0 i / 2 ^ s + at_ x0 (i + 1) % 2 ^ s * 2 ^ (32 - s))) * 2 ^ s + at_ x0 0 % 2 ^ s = val 4294967296 (x0.take (i + 1)) + at_ x0 (i + 1) % 2 ^ s * 4294967296 ^ (i + 1) := by
   rw [val_set _ _ _ _ (by omega), hz i (Nat.le_refl _), val_take_succ, Int.pow_succ]
   have g5 := Int.emod_add_mul_ediv (at_ x0 i) (2 ^ s)
   generalize at_ x0 (i + 1) % 2 ^ s = m at *
   generalize at_ x0 i / 2 ^ s = q at *
   generalize at_ x0 i % 2 ^ s = r at *
   generalize (4294967296 : Int) ^ i = P at *
   rw [← he]
   generalize (2 : Int) ^ s = R at *
   generalize (2 : Int) ^ (32 - s) = R' at *
   clear ih hz k1 k3
   grind
  refine Ev.step (fun k => bignat_Nat_low.l0.eq_2 ..) ?_
  refine Ev.pos (by omega) (Ev.pos (by omega) (Ev.pos (by omega) ?_))
  rw [w64i (by omega)]
  by_cases hx : i + 1 < x0.length
  ·refine Ev.pos (by omega) (Ev.pos (by omega) (Ev.pos (by omega) (Ev.pos (by omega) ?_)))
   rw [rd_nat, rd_nat, Int.toNat_natCast, u64 (x := at_ x0 i) (by omega) (by omega), u64 (x := at_ x0 (i + 1)) (by omega) (by omega), u64 (x := at_ x0 (i + 1) * 4294967296) (by omega) (by omega), or32' a1.1 a1.2 a0.1 a0.2, shr_eq hs, Int.add_comm (at_ x0 (i + 1) * 4294967296), k1, k3]
   exact ih (i + 1) _ (by omega) (by simpa using h5) (hd.set _ k4.1 k4.2) (zero_set hz) fin
  ·refine Ev.neg (by omega) (Ev.pos (by omega) (Ev.pos (by omega) ?_))
   have e1 : at_ x0 (i + 1) = 0 := at_ge (by omega)
   rw [rd_nat, Int.toNat_natCast, u64 (x := at_ x0 i) (by omega) (by omega), shr_eq hs]
   rw [e1, Int.zero_mul, Int.add_zero] at k1 k3
   rw [e1, Int.zero_emod, Int.zero_mul, Int.add_zero] at k4 fin
   rw [Int.emod_eq_of_lt (b := 4294967296) k4.1 k4.2]
   refine ih (i + 1) _ (by omega) (by simpa using h5) (hd.set _ k4.1 k4.2) (zero_set hz) ?_
   rw [fin, e1, Int.zero_emod]
theorem low_ev {a s : Nat} (ha : (W a).length < 1099511627776) (hs : s < 32) : Ev (fun k => bignat_Nat_low.f k (W a) (s : Int)) (W (a / 2 ^ s)) := by
 unfold bignat_Nat_low.f
 refine Ev.pos (by omega) (Ev.pos (by rw [Int.toNat_natCast]; omega) ?_)
 rw [Int.toNat_natCast]
 exact low_l0 (W a) s a (W_dig _) hs (by omega) (W_val a) (W a).length 0 _ (by omega) (by simp) (Dig.replicate (by omega) _) (fun j _ => at_replicate _ j) (by rw [val_replicate]; simp [val_nil])
end Go.Proofs.Ytccgfmjcldifcaa.P
