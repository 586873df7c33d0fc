/- What the big numbers' functions come to on the digits of natural numbers: norm, Of, Cmp, Add, Sub, Mul, Small, Shift, low; lengths below 2^40 or so. -/
import Derived.Test.YtccgfmjcldifcaaMEv
namespace Go.Proofs.Ytccgfmjcldifcaa.P
open Go.RowKit Go.Proofs.YtccgfmjcldifcaaW.PrintWords Go.Proofs.YtccgfmjcldifcaaW.PrintMore Go.Proofs.Ytccgfmjcldifcaa.Dg
set_option linter.unusedVariables false
theorem at_snoc (l : List Int) (x : Int) : at_ (l ++ [x]) l.length = x := by
 unfold at_; rw [List.getD_eq_getElem?_getD, List.getElem?_append_right (Nat.le_refl _), Nat.sub_self]; rfl
theorem norm_l0 (n : Nat) : ∀ l : List Int, l.length = n → n < 4611686018427387904 → Ev (fun k => bignat_norm.l0 k l) (cut l) := by
 induction n with
 | zero =>
  intro l hl _
  obtain rfl := List.length_eq_zero_iff.1 hl
  exact Ev.step (fun k => bignat_norm.l0.eq_2 ..) (Ev.neg (by simp) (Ev.now _))
 | succ n ih =>
  intro l hl hn
  rcases List.eq_nil_or_concat l with rfl | ⟨p, x, hp⟩
  ·simp at hl
  ·simp only [List.concat_eq_append] at hp
   subst hp
   have hpl : p.length = n := by simpa using hl
   have e : wrap64 (((p ++ [x]).length : Int) - 1) = (p.length : Int) := by
    rw [w64 (by simp) (by simp; omega)]; simp
   refine Ev.step (fun k => bignat_norm.l0.eq_2 ..) ?_
   refine Ev.pos (by simp) ?_
   rw [e]
   refine Ev.pos (by omega) (Ev.pos (by simp; omega) ?_)
   have hx : rd (p ++ [x]) (p.length : Int) = x := at_snoc p x
   rw [hx]
   by_cases h0 : x = 0
   ·subst h0
    refine Ev.pos rfl (Ev.pos (by simp; omega) ?_)
    rw [Int.toNat_natCast, List.take_left, cut_snoc_zero]
    exact ih p hpl (by omega)
   ·refine Ev.neg h0 ?_
    rw [cut_snoc h0]
    exact Ev.now _
theorem norm_ev {l : List Int} {n : Nat} (hd : Dig 4294967296 l) (hv : val 4294967296 l = n) (hl : l.length < 4611686018427387904) : Ev (fun k => bignat_norm.f k l) (W n) :=
 Ev.to (norm_l0 _ l rfl hl) (cut_eq (B := 4294967296) (by omega) hd hv)
theorem of_ev {n : Nat} (hn : n < 18446744073709551616) : Ev (fun k => bignat_Of.f k (n : Int)) (W n) := by
 unfold bignat_Of.f
 refine Ev.bind (norm_ev (n := n) ?_ ?_ (by simp)) (Ev.now _)
 ·exact Dig.cons (by omega) (by omega) (Dig.cons (by omega) (by omega) (Dig.nil _))
 ·simp only [val_cons, val_nil]; omega
theorem set_step {B : Int} {x : List Int} {i : Nat} {v c c' s A : Int} (hi : i < x.length) (hz : at_ x i = 0) (hs : v + B * c' = s) (h : val B x + c * B ^ i = A) :
  val B (x.set i v) + c' * B ^ (i + 1) = A + (s - c) * B ^ i := by
 rw [val_set B x i v hi, hz, Int.pow_succ]; grind
theorem zero_set {x : List Int} {i : Nat} {v : Int} (hz : ∀ j, i ≤ j → at_ x j = 0) : ∀ j, i + 1 ≤ j → at_ (x.set i v) j = 0 := fun j hj => by
 rw [at_set_ne (by omega)]; exact hz j (by omega)
theorem w64i {i : Nat} (h : i < 9223372036854775807) : wrap64 ((i : Int) + 1) = ((i + 1 : Nat) : Int) := by rw [w64 (by omega) (by omega)]; rfl
theorem val_full {B : Int} {x : List Int} {i : Nat} (h : x.length ≤ i) : val B (x.take i) = val B x := by rw [List.take_of_length_le h]
theorem add_l0 (x0 x1 : List Int) (n : Nat) (h0 : Dig 4294967296 x0) (h1 : Dig 4294967296 x1) (hl : x1.length ≤ x0.length) (hm : x0.length < 1099511627776) (hn : val 4294967296 x0 + val 4294967296 x1 = n) (d : Nat) :
  ∀ (i : Nat) (x5 : List Int) (c : Int), i + d = x0.length → x5.length = x0.length + 1 → Dig 4294967296 x5 → (∀ j, i ≤ j → at_ x5 j = 0) → 0 ≤ c → c ≤ 1 →
  val 4294967296 x5 + c * 4294967296 ^ i = val 4294967296 (x0.take i) + val 4294967296 (x1.take i) →
  Ev (fun k => bignat_Nat_Add.l0 k x0 x1 x5 c (x0.length : Int) (i : Int)) (W n) := by
 induction d with
 | zero =>
  intro i x5 c hi h5 hd hz c0 c1 hv
  obtain rfl : i = x0.length := by omega
  refine Ev.step (fun k => bignat_Nat_Add.l0.eq_2 ..) ?_
  refine Ev.neg (by omega) (Ev.pos (by omega) (Ev.pos (by omega) ?_))
  rw [Int.toNat_natCast]
  refine Ev.bind (norm_ev (n := n) (hd.set _ (by omega) (by omega)) ?_ (by simp; omega)) (Ev.now _)
  rw [val_set _ _ _ _ (by omega), hz _ (Nat.le_refl _), Int.emod_eq_of_lt c0 (by omega), ← hn]
  rw [val_full (Nat.le_refl _), val_full hl] at hv
  rw [Int.sub_zero]
  omega
 | succ d ih =>
  intro i x5 c hi h5 hd hz c0 c1 hv
  have a0 := h0.at (by omega) i
  have a1 := h1.at (by omega) i
  refine Ev.step (fun k => bignat_Nat_Add.l0.eq_2 ..) ?_
  refine Ev.pos (by omega) (Ev.pos (by omega) (Ev.pos (by omega) ?_))
  by_cases hx : i < x1.length
  ·refine Ev.pos (by omega) (Ev.pos (by omega) ?_)
   rw [rd_nat, rd_nat, Int.toNat_natCast, u64 (x := at_ x0 i) (by omega) (by omega), u64 (x := at_ x1 i) (by omega) (by omega), u64 (x := c + at_ x0 i) (by omega) (by omega), u64 (x := c + at_ x0 i + at_ x1 i) (by omega) (by omega), w64i (by omega)]
   refine ih (i + 1) _ _ (by omega) (by simpa using h5) (hd.set _ (by omega) (by omega)) (zero_set hz) (by omega) (by omega) ?_
   rw [set_step (c := c) (s := c + at_ x0 i + at_ x1 i) (by omega) (hz i (Nat.le_refl _)) (by omega) hv, val_take_succ, val_take_succ]
   grind
  ·refine Ev.neg (by omega) (Ev.pos (by omega) ?_)
   have e1 : at_ x1 i = 0 := at_ge (by omega)
   rw [rd_nat, Int.toNat_natCast, u64 (x := at_ x0 i) (by omega) (by omega), u64 (x := c + at_ x0 i) (by omega) (by omega), w64i (by omega)]
   refine ih (i + 1) _ _ (by omega) (by simpa using h5) (hd.set _ (by omega) (by omega)) (zero_set hz) (by omega) (by omega) ?_
   rw [set_step (c := c) (s := c + at_ x0 i) (by omega) (hz i (Nat.le_refl _)) (by omega) hv, val_take_succ, val_take_succ, e1]
   grind
theorem add_g {x0 x1 : List Int} {n : Nat} (h0 : Dig 4294967296 x0) (h1 : Dig 4294967296 x1) (hl : x1.length ≤ x0.length) (hm : x0.length < 1099511627776) (hn : val 4294967296 x0 + val 4294967296 x1 = n) :
  Ev (fun k => bignat_Nat_Add.g k x0 x1) (W n) := by
 unfold bignat_Nat_Add.g
 have e : wrap64 ((x0.length : Int) + 1) = ((x0.length + 1 : Nat) : Int) := w64i (by omega)
 refine Ev.pos (by rw [e]; omega) (Ev.pos (by rw [e, Int.toNat_natCast]; omega) ?_)
 rw [e, Int.toNat_natCast]
 exact add_l0 x0 x1 n h0 h1 hl hm hn x0.length 0 _ 0 (by omega) (by simp) (Dig.replicate (by omega) _) (fun j _ => at_replicate _ j) (by omega) (by omega) (by rw [val_replicate]; simp [val_nil])
def Sm (a : Nat) : Prop := (W a).length < 1099511620000
theorem Sm.lt {a : Nat} (h : Sm a) : (W a).length < 1099511627776 := Nat.lt_trans h (by omega)
theorem Sm.mono {a b : Nat} (h : Sm b) (hab : a ≤ b) : Sm a := Nat.lt_of_le_of_lt (len_dg_mono (by omega) hab) h
theorem add_ev {a b : Nat} (ha : Sm a) (hb : Sm b) : Ev (fun k => bignat_Nat_Add.f k (W a) (W b)) (W (a + b)) := by
 unfold bignat_Nat_Add.f
 by_cases h : (W a).length < (W b).length
 ·refine Ev.pos (by omega) (add_g (W_dig _) (W_dig _) (by omega) hb.lt ?_)
  rw [W_val, W_val]; omega
 ·refine Ev.neg (by omega) (add_g (W_dig _) (W_dig _) (by omega) ha.lt ?_)
  rw [W_val, W_val]; omega
theorem sub_l0 (x0 x1 : List Int) (n : Nat) (h0 : Dig 4294967296 x0) (h1 : Dig 4294967296 x1) (hl : x1.length ≤ x0.length) (hm : x0.length < 1099511627776) (hn : val 4294967296 x0 - val 4294967296 x1 = n) (d : Nat) :
  ∀ (i : Nat) (x5 : List Int) (c : Int), i + d = x0.length → x5.length = x0.length → Dig 4294967296 x5 → (∀ j, i ≤ j → at_ x5 j = 0) → -1 ≤ c → c ≤ 0 →
  val 4294967296 x5 + c * 4294967296 ^ i = val 4294967296 (x0.take i) - val 4294967296 (x1.take i) →
  Ev (fun k => bignat_Nat_Sub.l0 k x0 x1 x5 c (x0.length : Int) (i : Int)) (W n) := by
 induction d with
 | zero =>
  intro i x5 c hi h5 hd hz c0 c1 hv
  obtain rfl : i = x0.length := by omega
  refine Ev.step (fun k => bignat_Nat_Sub.l0.eq_2 ..) ?_
  refine Ev.neg (by omega) ?_
  rw [val_full (Nat.le_refl _), val_full hl] at hv
  have hb := val_lt (by omega) hd
  rw [h5] at hb
  have hc : c = 0 := by
   rcases (show c = 0 ∨ c = -1 by omega) with h | h
   ·exact h
   ·subst h; omega
  subst hc
  exact Ev.bind (norm_ev (n := n) hd (by omega) (by omega)) (Ev.now _)
 | succ d ih =>
  intro i x5 c hi h5 hd hz c0 c1 hv
  have a0 := h0.at (by omega) i
  have a1 := h1.at (by omega) i
  refine Ev.step (fun k => bignat_Nat_Sub.l0.eq_2 ..) ?_
  refine Ev.pos (by omega) (Ev.pos (by omega) (Ev.pos (by omega) ?_))
  by_cases hx : i < x1.length
  ·refine Ev.pos (by omega) (Ev.pos (by omega) ?_)
   rw [rd_nat, rd_nat, Int.toNat_natCast, w64 (x := at_ x0 i) (by omega) (by omega), w64 (x := at_ x1 i) (by omega) (by omega), w64 (x := c + at_ x0 i) (by omega) (by omega), w64 (x := c + at_ x0 i - at_ x1 i) (by omega) (by omega), w64i (by omega)]
   refine ih (i + 1) _ _ (by omega) (by simpa using h5) (hd.set _ (by omega) (by omega)) (zero_set hz) (by omega) (by omega) ?_
   rw [set_step (c := c) (s := c + at_ x0 i - at_ x1 i) (by omega) (hz i (Nat.le_refl _)) (by omega) hv, val_take_succ, val_take_succ]
   grind
  ·refine Ev.neg (by omega) (Ev.pos (by omega) ?_)
   have e1 : at_ x1 i = 0 := at_ge (by omega)
   rw [rd_nat, Int.toNat_natCast, w64 (x := at_ x0 i) (by omega) (by omega), w64 (x := c + at_ x0 i) (by omega) (by omega), w64i (by omega)]
   refine ih (i + 1) _ _ (by omega) (by simpa using h5) (hd.set _ (by omega) (by omega)) (zero_set hz) (by omega) (by omega) ?_
   rw [set_step (c := c) (s := c + at_ x0 i) (by omega) (hz i (Nat.le_refl _)) (by omega) hv, val_take_succ, val_take_succ, e1]
   grind
theorem sub_ev {a b : Nat} (ha : Sm a) (hb : b ≤ a) : Ev (fun k => bignat_Nat_Sub.f k (W a) (W b)) (W (a - b)) := by
 unfold bignat_Nat_Sub.f
 refine Ev.pos (by omega) (Ev.pos (by rw [Int.toNat_natCast]; unfold Sm at ha; omega) ?_)
 rw [Int.toNat_natCast]
 refine sub_l0 (W a) (W b) (a - b) (W_dig _) (W_dig _) (len_dg_mono (B := 4294967296) (by omega) hb) ha.lt (by rw [W_val, W_val]; omega) (W a).length 0 _ 0 (by omega) (by simp) (Dig.replicate (by omega) _) (fun j _ => at_replicate _ j) (by omega) (by omega) (by rw [val_replicate]; simp [val_nil])
theorem val_lt_of {B : Int} (hB : 0 < B) {l r : List Int} {i : Nat} (hl : i < l.length) (hr : i < r.length) (dl : Dig B l) (dr : Dig B r) (e : l.drop (i + 1) = r.drop (i + 1)) (h : at_ l i < at_ r i) : val B l < val B r := by
 rw [val_split B l (i + 1) (by omega), val_split B r (i + 1) (by omega), e, val_take_succ, val_take_succ]
 have h1 := val_lt hB (dl.take i)
 rw [List.length_take, Nat.min_eq_left (by omega)] at h1
 have h2 := val_nonneg (by omega) (dr.take i)
 have h3 : at_ l i * B ^ i + B ^ i ≤ at_ r i * B ^ i := by
  have := Int.mul_le_mul_of_nonneg_right (show at_ l i + 1 ≤ at_ r i by omega) (show 0 ≤ B ^ i from Int.pow_nonneg (by omega))
  rw [Int.add_mul, Int.one_mul] at this
  exact this
 omega
theorem drop_eq_of {l r : List Int} {i : Nat} (hl : i < l.length) (hr : i < r.length) (e : l.drop (i + 1) = r.drop (i + 1)) (h : at_ l i = at_ r i) : l.drop i = r.drop i := by
 rw [List.drop_eq_getElem_cons hl, List.drop_eq_getElem_cons hr, e]
 unfold at_ at h
 rw [List.getD_eq_getElem?_getD, List.getD_eq_getElem?_getD, List.getElem?_eq_getElem hl, List.getElem?_eq_getElem hr] at h
 rw [show l[i] = r[i] from h]
def cmp (a b : Int) : Int := if a < b then -1 else if a = b then 0 else 1
theorem cmp_lt {a b : Int} (h : a < b) : cmp a b = -1 := if_pos h
theorem cmp_gt {a b : Int} (h : b < a) : cmp a b = 1 := by unfold cmp; rw [if_neg (by omega), if_neg (by omega)]
theorem cmp_eq {a b : Int} (h : a = b) : cmp a b = 0 := by unfold cmp; rw [if_neg (by omega), if_pos h]
theorem cmp_l0 (x0 x1 : List Int) (h0 : Dig 4294967296 x0) (h1 : Dig 4294967296 x1) (hl : x0.length = x1.length) (hm : x0.length < 1099511627776) (i : Nat) :
  i ≤ x0.length → x0.drop i = x1.drop i → Ev (fun k => bignat_Nat_Cmp.l0 k x0 x1 ((i : Int) - 1)) (cmp (val 4294967296 x0) (val 4294967296 x1)) := by
 induction i with
 | zero =>
  intro _ e
  rw [List.drop_zero, List.drop_zero] at e
  refine Ev.step (fun k => bignat_Nat_Cmp.l0.eq_2 ..) ?_
  exact Ev.neg (by omega) (Ev.some (cmp_eq (by rw [e])).symm)
 | succ i ih =>
  intro hi e
  refine Ev.step (fun k => bignat_Nat_Cmp.l0.eq_2 ..) ?_
  rw [show ((i + 1 : Nat) : Int) - 1 = (i : Int) by omega]
  refine Ev.pos (by omega) (Ev.pos (by omega) (Ev.pos (by omega) (Ev.pos (by omega) ?_)))
  rw [rd_nat, rd_nat]
  by_cases h : at_ x0 i = at_ x1 i
  ·refine Ev.pos h ?_
   rw [w64 (by omega) (by omega)]
   exact ih (by omega) (drop_eq_of (by omega) (by omega) e h)
  ·refine Ev.neg h ?_
   by_cases g : at_ x0 i < at_ x1 i
   ·exact Ev.pos g (Ev.some (cmp_lt (val_lt_of (by omega) (by omega) (by omega) h0 h1 e g)).symm)
   ·exact Ev.neg g (Ev.some (cmp_gt (val_lt_of (by omega) (by omega) (by omega) h1 h0 e.symm (by omega))).symm)
theorem lt_of_len {B : Nat} (hB : 2 ≤ B) {a b : Nat} (h : (dg B a).length < (dg B b).length) : a < b := by
 rcases Nat.lt_or_ge a b with g | g
 ·exact g
 ·have := len_dg_mono hB g; omega
theorem cmp_ev {a b : Nat} (ha : Sm a) : Ev (fun k => bignat_Nat_Cmp.f k (W a) (W b)) (cmp a b) := by
 unfold bignat_Nat_Cmp.f
 unfold Sm at ha
 by_cases h : (W a).length = (W b).length
 ·refine Ev.pos (by omega) ?_
  rw [w64 (by omega) (by omega)]
  have := cmp_l0 (W a) (W b) (W_dig _) (W_dig _) h (by omega) (W a).length (Nat.le_refl _) (by rw [List.drop_eq_nil_of_le (Nat.le_refl _), List.drop_eq_nil_of_le (by omega)])
  rwa [W_val, W_val] at this
 ·refine Ev.neg (by omega) ?_
  by_cases g : (W a).length < (W b).length
  ·have := lt_of_len (B := 4294967296) (by omega) g
   exact Ev.pos (by omega) (Ev.some (cmp_lt (by omega)).symm)
  ·have := lt_of_len (B := 4294967296) (by omega) (show (dg 4294967296 b).length < (dg 4294967296 a).length by unfold W at h g; omega)
   exact Ev.neg (by omega) (Ev.some (cmp_gt (by omega)).symm)
theorem more_l0 (x1 : List Int) (n : Nat) (A : Int) (h1 : Dig 4294967296 x1) (hl : x1.length ≤ n) (hm : n < 1099511627776) (d : Nat) :
  ∀ (i : Nat) (x0 : List Int) (c : Int), i + d = n → x0.length = n → Dig 4294967296 x0 → 0 ≤ c → c ≤ 1 → val 4294967296 x0 + c * 4294967296 ^ i = A + val 4294967296 (x1.take i) →
  ∃ r c', Ev (fun k => bignat_more.l0 k x0 x1 c (n : Int) (i : Int)) r ∧ r.length = n ∧ Dig 4294967296 r ∧ 0 ≤ c' ∧ c' ≤ 1 ∧ val 4294967296 r + c' * 4294967296 ^ n = A + val 4294967296 x1 := by
 induction d with
 | zero =>
  intro i x0 c hi h0 hd c0 c1 hv
  obtain rfl : i = n := by omega
  refine ⟨x0, c, Ev.step (fun k => bignat_more.l0.eq_2 ..) (Ev.neg (by omega) (Ev.now _)), h0, hd, c0, c1, ?_⟩
  rw [val_full hl] at hv
  exact hv
 | succ d ih =>
  intro i x0 c hi h0 hd c0 c1 hv
  have a0 := hd.at (by omega) i
  have a1 := h1.at (by omega) i
  by_cases hx : i < x1.length
  ·obtain ⟨r, c', h, q⟩ := ih (i + 1) (x0.set i ((c + at_ x0 i + at_ x1 i) % 4294967296)) ((c + at_ x0 i + at_ x1 i) / 4294967296) (by omega) (by simpa using h0) (hd.set _ (by omega) (by omega)) (by omega) (by omega) (by
    rw [val_set _ _ _ _ (by omega), val_take_succ, Int.pow_succ]
    have := Int.emod_add_mul_ediv (c + at_ x0 i + at_ x1 i) 4294967296
    grind)
   refine ⟨r, c', Ev.step (fun k => bignat_more.l0.eq_2 ..) (Ev.pos (by omega) (Ev.pos (by omega) (Ev.pos (by omega) (Ev.pos (by omega) ?_)))), q⟩
   rw [rd_nat, rd_nat, Int.toNat_natCast, u64 (x := at_ x0 i) (by omega) (by omega), u64 (x := at_ x1 i) (by omega) (by omega), u64 (x := c + at_ x0 i) (by omega) (by omega), u64 (x := c + at_ x0 i + at_ x1 i) (by omega) (by omega), w64i (by omega)]
   exact h
  ·have e1 : at_ x1 i = 0 := at_ge (by omega)
   obtain ⟨r, c', h, q⟩ := ih (i + 1) (x0.set i ((c + at_ x0 i) % 4294967296)) ((c + at_ x0 i) / 4294967296) (by omega) (by simpa using h0) (hd.set _ (by omega) (by omega)) (by omega) (by omega) (by
    rw [val_set _ _ _ _ (by omega), val_take_succ, Int.pow_succ, e1]
    have := Int.emod_add_mul_ediv (c + at_ x0 i) 4294967296
    grind)
   refine ⟨r, c', Ev.step (fun k => bignat_more.l0.eq_2 ..) (Ev.pos (by omega) (Ev.pos (by omega) (Ev.pos (by omega) (Ev.neg (by omega) ?_)))), q⟩
   rw [rd_nat, Int.toNat_natCast, u64 (x := at_ x0 i) (by omega) (by omega), u64 (x := c + at_ x0 i) (by omega) (by omega), w64i (by omega)]
   exact h
theorem more_ev {x0 x1 : List Int} (h0 : Dig 4294967296 x0) (h1 : Dig 4294967296 x1) (hl : x1.length ≤ x0.length) (hm : x0.length < 1099511627776) :
  ∃ r c', Ev (fun k => bignat_more.f k x0 x1) r ∧ r.length = x0.length ∧ Dig 4294967296 r ∧ 0 ≤ c' ∧ c' ≤ 1 ∧ val 4294967296 r + c' * 4294967296 ^ x0.length = val 4294967296 x0 + val 4294967296 x1 :=
 more_l0 x1 x0.length (val 4294967296 x0) h1 hl hm x0.length 0 x0 0 (by omega) rfl h0 (by omega) (by omega) (by simp [val_nil])
theorem less_l0 (x1 : List Int) (t : Int) (n : Nat) (A : Int) (h1 : Dig 4294967296 x1) (t0 : 0 ≤ t) (t1 : t < 4294967296) (hl : x1.length < n) (hm : n < 1099511627776) (d : Nat) :
  ∀ (i : Nat) (x0 : List Int) (b c : Int), i + d = n → x0.length = n → Dig 4294967296 x0 → 0 ≤ c → c < 4294967296 → (x1.length < i → c = 0) → -1 ≤ b → b ≤ 0 → val 4294967296 x0 + (b - c) * 4294967296 ^ i = A - t * val 4294967296 (x1.take i) →
  ∃ r b', Ev (fun k => bignat_less.l0 k x0 x1 t b c (n : Int) (i : Int)) (decide (b' < 0), r) ∧ r.length = n ∧ Dig 4294967296 r ∧ -1 ≤ b' ∧ b' ≤ 0 ∧ val 4294967296 r + b' * 4294967296 ^ n = A - t * val 4294967296 x1 := by
 induction d with
 | zero =>
  intro i x0 b c hi h0 hd c0 c1 cz b0 b1 hv
  obtain rfl : i = n := by omega
  refine ⟨x0, b, Ev.step (fun k => bignat_less.l0.eq_2 ..) (Ev.neg (by omega) (Ev.now _)), h0, hd, b0, b1, ?_⟩
  rw [val_full (by omega), cz hl, Int.sub_zero] at hv
  exact hv
 | succ d ih =>
  intro i x0 b c hi h0 hd c0 c1 cz b0 b1 hv
  have a0 := hd.at (by omega) i
  have a1 := h1.at (by omega) i
  by_cases hx : i < x1.length
  ·have hm1 : t * at_ x1 i ≤ 4294967295 * 4294967295 := mul_lt_sq t0 (by omega) a1.1 (by omega)
   have hm0 : 0 ≤ t * at_ x1 i := Int.mul_nonneg t0 a1.1
   have hc1 : (c + t * at_ x1 i) / 4294967296 < 4294967296 := by omega
   obtain ⟨r, b', h, q⟩ := ih (i + 1) (x0.set i ((b + (at_ x0 i - (c + t * at_ x1 i) % 4294967296)) % 4294967296)) ((b + (at_ x0 i - (c + t * at_ x1 i) % 4294967296)) / 4294967296) ((c + t * at_ x1 i) / 4294967296) (by omega) (by simpa using h0) (hd.set _ (by omega) (by omega)) (by omega) (by omega) (by omega) (by omega) (by omega) (by
    rw [val_set _ _ _ _ (by omega), val_take_succ, Int.pow_succ]
    have e1 := Int.emod_add_mul_ediv (c + t * at_ x1 i) 4294967296
    have e2 := Int.emod_add_mul_ediv (b + (at_ x0 i - (c + t * at_ x1 i) % 4294967296)) 4294967296
    generalize (c + t * at_ x1 i) % 4294967296 = m1 at *
    generalize (c + t * at_ x1 i) / 4294967296 = q1 at *
    generalize (b + (at_ x0 i - m1)) % 4294967296 = m2 at *
    generalize (b + (at_ x0 i - m1)) / 4294967296 = q2 at *
    grind)
   refine ⟨r, b', Ev.step (fun k => bignat_less.l0.eq_2 ..) (Ev.pos (by omega) (Ev.pos (by omega) (Ev.pos (by omega) (Ev.pos (by omega) ?_)))), q⟩
   rw [rd_nat, rd_nat, Int.toNat_natCast, u64 (x := at_ x1 i) (by omega) (by omega), u64 (x := t * at_ x1 i) (by omega) (by omega), u64 (x := c + t * at_ x1 i) (by omega) (by omega), w64 (x := at_ x0 i) (by omega) (by omega), w64 (x := at_ x0 i - (c + t * at_ x1 i) % 4294967296) (by omega) (by omega), w64 (x := b + (at_ x0 i - (c + t * at_ x1 i) % 4294967296)) (by omega) (by omega), w64i (by omega)]
   exact h
  ·have e1 : at_ x1 i = 0 := at_ge (by omega)
   obtain ⟨r, b', h, q⟩ := ih (i + 1) (x0.set i ((b + (at_ x0 i - c % 4294967296)) % 4294967296)) ((b + (at_ x0 i - c % 4294967296)) / 4294967296) (c / 4294967296) (by omega) (by simpa using h0) (hd.set _ (by omega) (by omega)) (by omega) (by omega) (by omega) (by omega) (by omega) (by
    rw [val_set _ _ _ _ (by omega), val_take_succ, Int.pow_succ, e1]
    have e3 : c % 4294967296 = c := by omega
    have e4 : c / 4294967296 = 0 := by omega
    rw [e3, e4]
    have e2 := Int.emod_add_mul_ediv (b + (at_ x0 i - c)) 4294967296
    generalize (b + (at_ x0 i - c)) % 4294967296 = m2 at *
    generalize (b + (at_ x0 i - c)) / 4294967296 = q2 at *
    grind)
   refine ⟨r, b', Ev.step (fun k => bignat_less.l0.eq_2 ..) (Ev.pos (by omega) (Ev.neg (by omega) (Ev.pos (by omega) (Ev.pos (by omega) ?_)))), q⟩
   rw [rd_nat, Int.toNat_natCast, w64 (x := at_ x0 i) (by omega) (by omega), w64 (x := at_ x0 i - c % 4294967296) (by omega) (by omega), w64 (x := b + (at_ x0 i - c % 4294967296)) (by omega) (by omega), w64i (by omega)]
   exact h
theorem less_ev {x0 x1 : List Int} {t : Int} (h0 : Dig 4294967296 x0) (h1 : Dig 4294967296 x1) (t0 : 0 ≤ t) (t1 : t < 4294967296) (hl : x1.length < x0.length) (hm : x0.length < 1099511627776) :
  ∃ r b', Ev (fun k => bignat_less.f k x0 x1 t) (decide (b' < 0), r) ∧ r.length = x0.length ∧ Dig 4294967296 r ∧ -1 ≤ b' ∧ b' ≤ 0 ∧ val 4294967296 r + b' * 4294967296 ^ x0.length = val 4294967296 x0 - t * val 4294967296 x1 :=
 less_l0 x1 t x0.length (val 4294967296 x0) h1 t0 t1 hl hm x0.length 0 x0 0 0 (by omega) rfl h0 (by omega) (by omega) (by omega) (by omega) (by omega) (by simp [val_nil])
end Go.Proofs.Ytccgfmjcldifcaa.P
namespace Go.Proofs.Ytccgfmjcldifcaa.P
open Go.RowKit Go.Proofs.YtccgfmjcldifcaaW.PrintWords Go.Proofs.YtccgfmjcldifcaaW.PrintMore Go.Proofs.Ytccgfmjcldifcaa.Dg
set_option linter.unusedVariables false
theorem w64a {i j : Nat} (h : i + j < 9223372036854775807) : wrap64 ((i : Int) + (j : Int)) = ((i + j : Nat) : Int) := by rw [w64 (by omega) (by omega)]; rfl
theorem mul_l1 (x1 x17 : List Int) (n : Nat) (h1 : Dig 4294967296 x1) (hm : x1.length + x17.length < 1099511627776) (i : Nat) (t A : Int) (hi : i < x17.length) (t0 : 0 ≤ t) (t1 : t < 4294967296)
  (next : ∀ x5 : List Int, x5.length = x1.length + x17.length → Dig 4294967296 x5 → (∀ j, i + 1 + x1.length ≤ j → at_ x5 j = 0) → val 4294967296 x5 = A + t * val 4294967296 x1 * 4294967296 ^ i →
   Ev (fun k => bignat_Nat_Mul.l0 k x1 x5 x17 (x17.length : Int) ((i + 1 : Nat) : Int)) (W n)) (d : Nat) :
  ∀ (k0 : Nat) (x5 : List Int) (c : Int), k0 + d = x1.length → x5.length = x1.length + x17.length → Dig 4294967296 x5 → (∀ j, i + x1.length ≤ j → at_ x5 j = 0) → 0 ≤ c → c < 4294967296 →
  val 4294967296 x5 + c * 4294967296 ^ (i + k0) = A + t * val 4294967296 (x1.take k0) * 4294967296 ^ i →
  Ev (fun k => bignat_Nat_Mul.l1 k x1 x5 (i : Int) t c x17 (x17.length : Int) (i : Int) x1 (x1.length : Int) (k0 : Int)) (W n) := by
 induction d with
 | zero =>
  intro k0 x5 c hk h5 hd hz c0 c1 hv
  obtain rfl : k0 = x1.length := by omega
  refine Ev.step (fun k => bignat_Nat_Mul.l1.eq_2 ..) ?_
  refine Ev.neg (by omega) ?_
  rw [w64a (by omega)]
  refine Ev.pos (by omega) (Ev.pos (by omega) ?_)
  rw [Int.toNat_natCast, w64i (by omega), Int.emod_eq_of_lt c0 c1]
  refine next _ (by simpa using h5) (hd.set _ c0 c1) (fun j hj => ?_) ?_
  ·rw [at_set_ne (by omega)]; exact hz j (by omega)
  ·rw [val_set _ _ _ _ (by omega), hz _ (Nat.le_refl _), Int.sub_zero, hv, val_full (Nat.le_refl _)]
 | succ d ih =>
  intro k0 x5 c hk h5 hd hz c0 c1 hv
  have a1 := h1.at (by omega) k0
  have a5 := hd.at (by omega) (i + k0)
  have hm1 : t * at_ x1 k0 ≤ 4294967295 * 4294967295 := mul_lt_sq t0 (by omega) a1.1 (by omega)
  have hm0 : 0 ≤ t * at_ x1 k0 := Int.mul_nonneg t0 a1.1
  refine Ev.step (fun k => bignat_Nat_Mul.l1.eq_2 ..) ?_
  refine Ev.pos (by omega) (Ev.pos (by omega) (Ev.pos (by omega) ?_))
  rw [w64a (by omega)]
  refine Ev.pos (by omega) (Ev.pos (by omega) ?_)
  rw [rd_nat, rd_nat, Int.toNat_natCast, u64 (x := t) (by omega) (by omega), u64 (x := at_ x1 k0) (by omega) (by omega), u64 (x := at_ x5 (i + k0)) (by omega) (by omega), u64 (x := t * at_ x1 k0) (by omega) (by omega), u64 (x := t * at_ x1 k0 + at_ x5 (i + k0)) (by omega) (by omega), u64 (x := c + (t * at_ x1 k0 + at_ x5 (i + k0))) (by omega) (by omega), w64i (by omega)]
  refine ih (k0 + 1) _ _ (by omega) (by simpa using h5) (hd.set _ (by omega) (by omega)) (fun j hj => ?_) (by omega) (by omega) ?_
  ·rw [at_set_ne (by omega)]; exact hz j hj
  ·rw [val_set _ _ _ _ (by omega), val_take_succ, ← Nat.add_assoc, Int.pow_succ]
   have e1 := Int.emod_add_mul_ediv (c + (t * at_ x1 k0 + at_ x5 (i + k0))) 4294967296
   have e2 : (4294967296 : Int) ^ (i + k0) = 4294967296 ^ i * 4294967296 ^ k0 := Int.pow_add ..
   generalize (c + (t * at_ x1 k0 + at_ x5 (i + k0))) % 4294967296 = m1 at *
   generalize (c + (t * at_ x1 k0 + at_ x5 (i + k0))) / 4294967296 = q1 at *
   rw [e2] at hv ⊢
   generalize (4294967296 : Int) ^ i = P at *
   generalize (4294967296 : Int) ^ k0 = Q at *
   generalize at_ x5 (i + k0) = z at *
   generalize at_ x1 k0 = y at *
   generalize val 4294967296 (x1.take k0) = V at *
   clear ih next hz
   grind
theorem mul_l0 (x1 x17 : List Int) (n : Nat) (h1 : Dig 4294967296 x1) (h17 : Dig 4294967296 x17) (hm : x1.length + x17.length < 1099511627776) (hn : val 4294967296 x17 * val 4294967296 x1 = n) (d : Nat) :
  ∀ (i : Nat) (x5 : List Int), i + d = x17.length → x5.length = x1.length + x17.length → Dig 4294967296 x5 → (∀ j, i + x1.length ≤ j → at_ x5 j = 0) → val 4294967296 x5 = val 4294967296 (x17.take i) * val 4294967296 x1 →
  Ev (fun k => bignat_Nat_Mul.l0 k x1 x5 x17 (x17.length : Int) (i : Int)) (W n) := by
 induction d with
 | zero =>
  intro i x5 hi h5 hd hz hv
  obtain rfl : i = x17.length := by omega
  refine Ev.step (fun k => bignat_Nat_Mul.l0.eq_2 ..) (Ev.neg (by omega) ?_)
  rw [val_full (Nat.le_refl _), hn] at hv
  exact Ev.bind (norm_ev hd hv (by omega)) (Ev.now _)
 | succ d ih =>
  intro i x5 hi h5 hd hz hv
  have a17 := h17.at (by omega) i
  refine Ev.step (fun k => bignat_Nat_Mul.l0.eq_2 ..) (Ev.pos (by omega) (Ev.pos (by omega) (Ev.pos (by omega) ?_)))
  rw [rd_nat]
  refine mul_l1 x1 x17 n h1 hm i (at_ x17 i) (val 4294967296 x5) (by omega) a17.1 a17.2 (fun y5 g5 gd gz gv => ?_) x1.length 0 x5 0 (by omega) h5 hd hz (by omega) (by omega) (by simp [val_nil])
  refine ih (i + 1) y5 (by omega) g5 gd gz ?_
  rw [gv, hv, val_take_succ]; grind
theorem mul_ev {a b : Nat} (hm : (W a).length + (W b).length < 1099511627776) : Ev (fun k => bignat_Nat_Mul.f k (W a) (W b)) (W (a * b)) := by
 unfold bignat_Nat_Mul.f
 rw [w64a (by omega)]
 refine Ev.pos (by omega) (Ev.pos (by rw [Int.toNat_natCast]; omega) ?_)
 rw [Int.toNat_natCast]
 exact mul_l0 (W b) (W a) (a * b) (W_dig _) (W_dig _) (by omega) (by rw [W_val, W_val]; exact (Int.natCast_mul a b).symm) (W a).length 0 _ (by omega) (by simp; omega) (Dig.replicate (by omega) _) (fun j _ => at_replicate _ j) (by rw [val_replicate]; simp [val_nil])
theorem small_l0 (x0 : List Int) (dv : Nat) (h0 : Dig 4294967296 x0) (d0 : 0 < dv) (d1 : dv < 4294967296) (hm : x0.length < 1099511627776) (i : Nat) :
  ∀ (x6 : List Int) (r : Int), i ≤ x0.length → x6.length = x0.length → Dig 4294967296 x6 → 0 ≤ r → r < dv → (∀ j, j < i → at_ x6 j = 0) → val 4294967296 (x6.drop i) * dv + r = val 4294967296 (x0.drop i) →
  Ev (fun k => bignat_Nat_Small.l0 k x0 (dv : Int) x6 r ((i : Int) - 1)) (W ((val 4294967296 x0).toNat / dv), (((val 4294967296 x0).toNat % dv : Nat) : Int)) := by
 induction i with
 | zero =>
  intro x6 r hi h6 hd r0 r1 hz hv
  rw [List.drop_zero, List.drop_zero] at hv
  refine Ev.step (fun k => bignat_Nat_Small.l0.eq_2 ..) (Ev.neg (by omega) ?_)
  obtain ⟨q, hq⟩ : ∃ q : Nat, val 4294967296 x6 = q := ⟨(val 4294967296 x6).toNat, by have := val_nonneg (B := 4294967296) (by omega) hd; omega⟩
  obtain ⟨a, ha⟩ : ∃ a : Nat, val 4294967296 x0 = a := ⟨(val 4294967296 x0).toNat, by have := val_nonneg (B := 4294967296) (by omega) h0; omega⟩
  obtain ⟨s, rfl⟩ : ∃ s : Nat, r = s := ⟨r.toNat, by omega⟩
  rw [hq, ha] at hv
  have hv' : q * dv + s = a := by exact_mod_cast hv
  have h1 : a / dv = q := by
   rw [← hv', Nat.mul_comm, Nat.add_comm, Nat.add_mul_div_left _ _ d0, Nat.div_eq_of_lt (by omega), Nat.zero_add]
  have h2 : a % dv = s := by rw [← hv', Nat.mul_comm, Nat.add_comm, Nat.add_mul_mod_self_left, Nat.mod_eq_of_lt (by omega)]
  rw [ha, Int.toNat_natCast, h1, h2]
  exact Ev.bind (norm_ev hd hq (by omega)) (Ev.some (by rw [Int.emod_eq_of_lt (by omega) (by omega)]))
 | succ i ih =>
  intro x6 r hi h6 hd r0 r1 hz hv
  have a0 := h0.at (by omega) i
  refine Ev.step (fun k => bignat_Nat_Small.l0.eq_2 ..) ?_
  rw [show ((i + 1 : Nat) : Int) - 1 = (i : Int) by omega, rd_nat, Int.toNat_natCast, u64 (x := (dv : Int)) (by omega) (by omega), u64 (x := at_ x0 i) (by omega) (by omega), u64 (x := r * 4294967296) (by omega) (by omega), or32 r0 (by omega) a0.1 a0.2, tdiv_pos (by omega), tmod_pos (by omega)]
  have hq0 : 0 ≤ (r * 4294967296 + at_ x0 i) / dv := Int.ediv_nonneg (by omega) (by omega)
  have hq1 : (r * 4294967296 + at_ x0 i) / dv < 4294967296 := by
   rw [Int.ediv_lt_iff_lt_mul (by omega)]
   have := Int.mul_le_mul_of_nonneg_right (show r + 1 ≤ (dv : Int) by omega) (show (0 : Int) ≤ 4294967296 by omega)
   rw [Int.mul_comm]; omega
  have hr0 := Int.emod_nonneg (r * 4294967296 + at_ x0 i) (show (dv : Int) ≠ 0 by omega)
  have hr1 := Int.emod_lt_of_pos (r * 4294967296 + at_ x0 i) (show (0 : Int) < dv by omega)
  have he := Int.emod_add_mul_ediv (r * 4294967296 + at_ x0 i) dv
  refine Ev.pos (by omega) (Ev.pos (by omega) (Ev.pos (by omega) (Ev.neg (by omega) (Ev.pos (by omega) ?_))))
  rw [u64 hq0 (by omega), Int.emod_eq_of_lt hq0 hq1, w64 (by omega) (by omega)]
  refine ih _ _ (by omega) (by simpa using h6) (hd.set _ hq0 hq1) hr0 hr1 (fun j hj => ?_) ?_
  ·rw [at_set_ne (by omega)]; exact hz j (by omega)
  ·rw [val_drop _ _ _ (by simp; omega), val_drop _ _ _ (show i < x0.length by omega), at_set_eq (by omega), List.drop_set_of_lt (by omega), ← hv]
   generalize (r * 4294967296 + at_ x0 i) / dv = q at *
   generalize (r * 4294967296 + at_ x0 i) % dv = s at *
   clear ih hz
   grind
theorem small_ev {a dv : Nat} (ha : Sm a) (d0 : 0 < dv) (d1 : dv < 4294967296) : Ev (fun k => bignat_Nat_Small.f k (W a) (dv : Int)) (W (a / dv), ((a % dv : Nat) : Int)) := by
 unfold bignat_Nat_Small.f
 unfold Sm at ha
 refine Ev.pos (by omega) (Ev.pos (by rw [Int.toNat_natCast]; omega) ?_)
 rw [Int.toNat_natCast, w64 (by omega) (by omega)]
 have := small_l0 (W a) dv (W_dig _) d0 d1 (by omega) (W a).length (List.replicate (W a).length 0) 0 (Nat.le_refl _) (by simp) (Dig.replicate (by omega) _) (by omega) (by omega) (fun j _ => at_replicate _ j) (by rw [List.drop_eq_nil_of_le (by simp), List.drop_eq_nil_of_le (Nat.le_refl _)]; simp [val_nil])
 rwa [W_val, Int.toNat_natCast] at this
end Go.Proofs.Ytccgfmjcldifcaa.P
