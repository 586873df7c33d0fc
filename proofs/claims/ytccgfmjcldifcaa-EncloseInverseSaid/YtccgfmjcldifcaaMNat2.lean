/- What the big numbers' functions come to, the second part: Mul, Small, Shift, low. -/
import Derived.Test.YtccgfmjcldifcaaMNat
namespace Go.Proofs.Ytccgfmjcldifcaa.P
open Go.RowKit Go.Proofs.YtccgfmjcldifcaaW.PrintWords Go.Proofs.YtccgfmjcldifcaaW.PrintMore Go.Proofs.Ytccgfmjcldifcaa.Dg
set_option linter.unusedVariables false
theorem w64a {i j : Nat} (h : i + j < 9223372036854775807) : wrap64 ((i : Int) + (j : Int)) = ((i + j : Nat) : Int) := by rw [w64 (by omega) (by omega)]; rfl
theorem mul_l1 (x1 x17 : List Int) (n : Nat) (h1 : Dig 4294967296 x1) (hm : x1.length + x17.length < 1099511627776) (i : Nat) (t A : Int) (hi : i < x17.length) (t0 : 0 ≤ t) (t1 : t < 4294967296)
  (next : ∀ x5 : List Int, x5.length = x1.length + x17.length → Dig 4294967296 x5 → (∀ j, i + 1 + x1.length ≤ j → at_ x5 j = 0) → val 4294967296 x5 = A + t * val 4294967296 x1 * 4294967296 ^ i →
   Ev (fun k => bignat_Nat_Mul.l0 k x1 x5 x17 (x17.length : Int) ((i + 1 : Nat) : Int)) (W n)) (d : Nat) :
  ∀ (k0 : Nat) (x5 : List Int) (c : Int), k0 + d = x1.length → x5.length = x1.length + x17.length → Dig 4294967296 x5 → (∀ j, i + x1.length ≤ j → at_ x5 j = 0) → 0 ≤ c → c < 4294967296 →
  val 4294967296 x5 + c * 4294967296 ^ (i + k0) = A + t * val 4294967296 (x1.take k0) * 4294967296 ^ i →
  Ev (fun k => bignat_Nat_Mul.l1 k x1 x5 (i : Int) t c x17 (x17.length : Int) (i : Int) x1 (x1.length : Int) (k0 : Int)) (W n) := by
 induction d with
 | zero =>
  intro k0 x5 c hk h5 hd hz c0 c1 hv
  obtain rfl : k0 = x1.length := by omega
  refine Ev.step (fun k => bignat_Nat_Mul.l1.eq_2 ..) ?_
  refine Ev.neg (by omega) ?_
  rw [w64a (by omega)]
  refine Ev.pos (by omega) (Ev.pos (by omega) ?_)
  rw [Int.toNat_natCast, w64i (by omega), Int.emod_eq_of_lt c0 c1]
  refine next _ (by simpa using h5) (hd.set _ c0 c1) (fun j hj => ?_) ?_
  ·rw [at_set_ne (by omega)]; exact hz j (by omega)
  ·rw [val_set _ _ _ _ (by omega), hz _ (Nat.le_refl _), Int.sub_zero, hv, val_full (Nat.le_refl _)]
 | succ d ih =>
  intro k0 x5 c hk h5 hd hz c0 c1 hv
  have a1 := h1.at (by omega) k0
  have a5 := hd.at (by omega) (i + k0)
  have hm1 : t * at_ x1 k0 ≤ 4294967295 * 4294967295 := mul_lt_sq t0 (by omega) a1.1 (by omega)
  have hm0 : 0 ≤ t * at_ x1 k0 := Int.mul_nonneg t0 a1.1
  refine Ev.step (fun k => bignat_Nat_Mul.l1.eq_2 ..) ?_
  refine Ev.pos (by omega) (Ev.pos (by omega) (Ev.pos (by omega) ?_))
  rw [w64a (by omega)]
  refine Ev.pos (by omega) (Ev.pos (by omega) ?_)
  rw [rd_nat, rd_nat, Int.toNat_natCast, u64 (x := t) (by omega) (by omega), u64 (x := at_ x1 k0) (by omega) (by omega), u64 (x := at_ x5 (i + k0)) (by omega) (by omega), u64 (x := t * at_ x1 k0) (by omega) (by omega), u64 (x := t * at_ x1 k0 + at_ x5 (i + k0)) (by omega) (by omega), u64 (x := c + (t * at_ x1 k0 + at_ x5 (i + k0))) (by omega) (by omega), w64i (by omega)]
  refine ih (k0 + 1) _ _ (by omega) (by simpa using h5) (hd.set _ (by omega) (by omega)) (fun j hj => ?_) (by omega) (by omega) ?_
  ·rw [at_set_ne (by omega)]; exact hz j hj
  ·rw [val_set _ _ _ _ (by omega), val_take_succ, ← Nat.add_assoc, Int.pow_succ]
   have e1 := Int.emod_add_mul_ediv (c + (t * at_ x1 k0 + at_ x5 (i + k0))) 4294967296
   have e2 : (4294967296 : Int) ^ (i + k0) = 4294967296 ^ i * 4294967296 ^ k0 := Int.pow_add ..
   generalize (c + (t * at_ x1 k0 + at_ x5 (i + k0))) % 4294967296 = m1 at *
   generalize (c + (t * at_ x1 k0 + at_ x5 (i + k0))) / 4294967296 = q1 at *
   rw [e2] at hv ⊢
   generalize (4294967296 : Int) ^ i = P at *
   generalize (4294967296 : Int) ^ k0 = Q at *
   generalize at_ x5 (i + k0) = z at *
   generalize at_ x1 k0 = y at *
   generalize val 4294967296 (x1.take k0) = V at *
   clear ih next hz
   grind
theorem mul_l0 (x1 x17 : List Int) (n : Nat) (h1 : Dig 4294967296 x1) (h17 : Dig 4294967296 x17) (hm : x1.length + x17.length < 1099511627776) (hn : val 4294967296 x17 * val 4294967296 x1 = n) (d : Nat) :
  ∀ (i : Nat) (x5 : List Int), i + d = x17.length → x5.length = x1.length + x17.length → Dig 4294967296 x5 → (∀ j, i + x1.length ≤ j → at_ x5 j = 0) → val 4294967296 x5 = val 4294967296 (x17.take i) * val 4294967296 x1 →
  Ev (fun k => bignat_Nat_Mul.l0 k x1 x5 x17 (x17.length : Int) (i : Int)) (W n) := by
 induction d with
 | zero =>
  intro i x5 hi h5 hd hz hv
  obtain rfl : i = x17.length := by omega
  refine Ev.step (fun k => bignat_Nat_Mul.l0.eq_2 ..) (Ev.neg (by omega) ?_)
  rw [val_full (Nat.le_refl _), hn] at hv
  exact Ev.bind (norm_ev hd hv (by omega)) (Ev.now _)
 | succ d ih =>
  intro i x5 hi h5 hd hz hv
  have a17 := h17.at (by omega) i
  refine Ev.step (fun k => bignat_Nat_Mul.l0.eq_2 ..) (Ev.pos (by omega) (Ev.pos (by omega) (Ev.pos (by omega) ?_)))
  rw [rd_nat]
  refine mul_l1 x1 x17 n h1 hm i (at_ x17 i) (val 4294967296 x5) (by omega) a17.1 a17.2 (fun y5 g5 gd gz gv => ?_) x1.length 0 x5 0 (by omega) h5 hd hz (by omega) (by omega) (by simp [val_nil])
  refine ih (i + 1) y5 (by omega) g5 gd gz ?_
  rw [gv, hv, val_take_succ]; grind
theorem mul_ev {a b : Nat} (hm : (W a).length + (W b).length < 1099511627776) : Ev (fun k => bignat_Nat_Mul.f k (W a) (W b)) (W (a * b)) := by
 unfold bignat_Nat_Mul.f
 rw [w64a (by omega)]
 refine Ev.pos (by omega) (Ev.pos (by rw [Int.toNat_natCast]; omega) ?_)
 rw [Int.toNat_natCast]
 exact mul_l0 (W b) (W a) (a * b) (W_dig _) (W_dig _) (by omega) (by rw [W_val, W_val]; exact (Int.natCast_mul a b).symm) (W a).length 0 _ (by omega) (by simp; omega) (Dig.replicate (by omega) _) (fun j _ => at_replicate _ j) (by rw [val_replicate]; simp [val_nil])
theorem small_l0 (x0 : List Int) (dv : Nat) (h0 : Dig 4294967296 x0) (d0 : 0 < dv) (d1 : dv < 4294967296) (hm : x0.length < 1099511627776) (i : Nat) :
  ∀ (x6 : List Int) (r : Int), i ≤ x0.length → x6.length = x0.length → Dig 4294967296 x6 → 0 ≤ r → r < dv → (∀ j, j < i → at_ x6 j = 0) → val 4294967296 (x6.drop i) * dv + r = val 4294967296 (x0.drop i) →
  Ev (fun k => bignat_Nat_Small.l0 k x0 (dv : Int) x6 r ((i : Int) - 1)) (W ((val 4294967296 x0).toNat / dv), (((val 4294967296 x0).toNat % dv : Nat) : Int)) := by
 induction i with
 | zero =>
  intro x6 r hi h6 hd r0 r1 hz hv
  rw [List.drop_zero, List.drop_zero] at hv
  refine Ev.step (fun k => bignat_Nat_Small.l0.eq_2 ..) (Ev.neg (by omega) ?_)
  obtain ⟨q, hq⟩ : ∃ q : Nat, val 4294967296 x6 = q := ⟨(val 4294967296 x6).toNat, by have := val_nonneg (B := 4294967296) (by omega) hd; omega⟩
  obtain ⟨a, ha⟩ : ∃ a : Nat, val 4294967296 x0 = a := ⟨(val 4294967296 x0).toNat, by have := val_nonneg (B := 4294967296) (by omega) h0; omega⟩
  obtain ⟨s, rfl⟩ : ∃ s : Nat, r = s := ⟨r.toNat, by omega⟩
  rw [hq, ha] at hv
  have hv' : q * dv + s = a := by exact_mod_cast hv
  have h1 : a / dv = q := by
   rw [← hv', Nat.mul_comm, Nat.add_comm, Nat.add_mul_div_left _ _ d0, Nat.div_eq_of_lt (by omega), Nat.zero_add]
  have h2 : a % dv = s := by rw [← hv', Nat.mul_comm, Nat.add_comm, Nat.add_mul_mod_self_left, Nat.mod_eq_of_lt (by omega)]
  rw [ha, Int.toNat_natCast, h1, h2]
  exact Ev.bind (norm_ev hd hq (by omega)) (Ev.some (by rw [Int.emod_eq_of_lt (by omega) (by omega)]))
 | succ i ih =>
  intro x6 r hi h6 hd r0 r1 hz hv
  have a0 := h0.at (by omega) i
  refine Ev.step (fun k => bignat_Nat_Small.l0.eq_2 ..) ?_
  rw [show ((i + 1 : Nat) : Int) - 1 = (i : Int) by omega, rd_nat, Int.toNat_natCast, u64 (x := (dv : Int)) (by omega) (by omega), u64 (x := at_ x0 i) (by omega) (by omega), u64 (x := r * 4294967296) (by omega) (by omega), or32 r0 (by omega) a0.1 a0.2, tdiv_pos (by omega), tmod_pos (by omega)]
  have hq0 : 0 ≤ (r * 4294967296 + at_ x0 i) / dv := Int.ediv_nonneg (by omega) (by omega)
  have hq1 : (r * 4294967296 + at_ x0 i) / dv < 4294967296 := by
   rw [Int.ediv_lt_iff_lt_mul (by omega)]
   have := Int.mul_le_mul_of_nonneg_right (show r + 1 ≤ (dv : Int) by omega) (show (0 : Int) ≤ 4294967296 by omega)
   rw [Int.mul_comm]; omega
  have hr0 := Int.emod_nonneg (r * 4294967296 + at_ x0 i) (show (dv : Int) ≠ 0 by omega)
  have hr1 := Int.emod_lt_of_pos (r * 4294967296 + at_ x0 i) (show (0 : Int) < dv by omega)
  have he := Int.emod_add_mul_ediv (r * 4294967296 + at_ x0 i) dv
  refine Ev.pos (by omega) (Ev.pos (by omega) (Ev.pos (by omega) (Ev.neg (by omega) (Ev.pos (by omega) ?_))))
  rw [u64 hq0 (by omega), Int.emod_eq_of_lt hq0 hq1, w64 (by omega) (by omega)]
  refine ih _ _ (by omega) (by simpa using h6) (hd.set _ hq0 hq1) hr0 hr1 (fun j hj => ?_) ?_
  ·rw [at_set_ne (by omega)]; exact hz j (by omega)
  ·rw [val_drop _ _ _ (by simp; omega), val_drop _ _ _ (show i < x0.length by omega), at_set_eq (by omega), List.drop_set_of_lt (by omega), ← hv]
   generalize (r * 4294967296 + at_ x0 i) / dv = q at *
   generalize (r * 4294967296 + at_ x0 i) % dv = s at *
   clear ih hz
   grind
theorem small_ev {a dv : Nat} (ha : Sm a) (d0 : 0 < dv) (d1 : dv < 4294967296) : Ev (fun k => bignat_Nat_Small.f k (W a) (dv : Int)) (W (a / dv), ((a % dv : Nat) : Int)) := by
 unfold bignat_Nat_Small.f
 unfold Sm at ha
 refine Ev.pos (by omega) (Ev.pos (by rw [Int.toNat_natCast]; omega) ?_)
 rw [Int.toNat_natCast, w64 (by omega) (by omega)]
 have := small_l0 (W a) dv (W_dig _) d0 d1 (by omega) (W a).length (List.replicate (W a).length 0) 0 (Nat.le_refl _) (by simp) (Dig.replicate (by omega) _) (by omega) (by omega) (fun j _ => at_replicate _ j) (by rw [List.drop_eq_nil_of_le (by simp), List.drop_eq_nil_of_le (Nat.le_refl _)]; simp [val_nil])
 rwa [W_val, Int.toNat_natCast] at this
end Go.Proofs.Ytccgfmjcldifcaa.P
