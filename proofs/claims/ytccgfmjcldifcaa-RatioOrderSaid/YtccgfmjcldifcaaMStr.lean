/- What String, text, Bits and both come to. -/
import Derived.Test.YtccgfmjcldifcaaMParse
namespace Go.Proofs.Ytccgfmjcldifcaa.P
open Go.RowKit Go.Proofs.YtccgfmjcldifcaaW.PrintWords Go.Proofs.YtccgfmjcldifcaaW.PrintMore Go.Proofs.Ytccgfmjcldifcaa.Dg
set_option linter.unusedVariables false
theorem list_ext_at {l r : List Int} (hl : l.length = r.length) (h : ∀ i, i < l.length → at_ l i = at_ r i) : l = r := by
 refine List.ext_getElem hl (fun i h1 h2 => ?_)
 have := h i h1
 unfold at_ at this
 rw [List.getD_eq_getElem?_getD, List.getD_eq_getElem?_getD, List.getElem?_eq_getElem h1, List.getElem?_eq_getElem h2] at this
 exact this
theorem at_reverse {l : List Int} {i : Nat} (h : i < l.length) : at_ l.reverse i = at_ l (l.length - 1 - i) := by
 unfold at_
 rw [List.getD_eq_getElem?_getD, List.getD_eq_getElem?_getD, List.getElem?_reverse h]
theorem str_l2 (L : List Int) (hL : L.length < 1099511627776) (d : Nat) :
  ∀ (i : Nat) (x : List Int), L.length - 2 * i = d → 2 * i ≤ L.length + 1 → x.length = L.length → (∀ j, j < L.length → at_ x j = if j < i ∨ L.length - i ≤ j then at_ L (L.length - 1 - j) else at_ L j) →
  Ev (fun k => bignat_Nat_String.l2 k x (i : Int) ((L.length : Int) - 1 - i)) (strOfNums L.reverse) := by
 induction d using Nat.strongRecOn with
 | _ d ih =>
  intro i x hd hi hx h
  refine Ev.step (fun k => bignat_Nat_String.l2.eq_2 ..) ?_
  by_cases hc : 2 * i + 1 < L.length
  ·obtain ⟨q, hq⟩ : ∃ q : Nat, (L.length : Int) - 1 - i = (q : Int) ∧ q = L.length - 1 - i := ⟨L.length - 1 - i, by omega, rfl⟩
   rw [hq.1]
   refine Ev.pos (by omega) (Ev.pos (by omega) (Ev.pos (by omega) (Ev.pos (by omega) (Ev.pos (by omega) ?_))))
   rw [rd_nat, rd_nat, Int.toNat_natCast, Int.toNat_natCast, w64i (by omega), w64 (by omega) (by omega), show (q : Int) - 1 = (L.length : Int) - 1 - ((i + 1 : Nat) : Int) by omega]
   refine ih (L.length - 2 * (i + 1)) (by omega) (i + 1) _ rfl (by omega) (by simp [hx]) (fun j hj => ?_)
   by_cases h1 : j = q
   ·subst h1
    rw [at_set_eq (by simp [hx]; omega), h i (by omega), if_neg (by omega), if_pos (by omega)]
    congr 1; omega
   ·rw [at_set_ne (by omega)]
    by_cases h2 : j = i
    ·subst h2
     rw [at_set_eq (by omega), h q (by omega), if_neg (by omega), if_pos (by omega)]
     congr 1; omega
    ·rw [at_set_ne (by omega), h j hj]
     by_cases h3 : j < i ∨ L.length - i ≤ j
     ·rw [if_pos h3, if_pos (by omega)]
     ·rw [if_neg h3, if_neg (by omega)]
  ·refine Ev.neg (by omega) (Ev.some ?_)
   congr 1
   refine list_ext_at (by simp [hx]) (fun j hj => ?_)
   rw [hx] at hj
   rw [at_reverse hj, h j hj]
   by_cases h3 : j < i ∨ L.length - i ≤ j
   ·rw [if_pos h3]
   ·rw [if_neg h3]; congr 1; omega
theorem str_rev (L : List Int) (hL : L.length < 1099511627776) : Ev (fun k => bignat_Nat_String.l2 k L 0 (wrap64 ((L.length : Int) - 1))) (strOfNums L.reverse) := by
 rw [w64 (by omega) (by omega)]
 have := str_l2 L hL L.length 0 L (by omega) (by omega) rfl (fun j hj => by rw [if_neg (by omega)])
 rwa [show (L.length : Int) - 1 - ((0 : Nat) : Int) = (L.length : Int) - 1 by omega] at this
theorem str_end (n : Nat) (hn : n ≠ 0) (l : List Int) (hd : Dig 10 l) (hnr : Nrm l) (hv : val 10 l = n) (hl : l.length < 1099511627776) :
  Ev (fun k => bignat_Nat_String.l0 k (W 0) (l.map (48 + ·))) (S n) := by
 have h1 := dg_unique (B := 10) (by omega) n hd hnr hv
 refine Ev.step (fun k => bignat_Nat_String.l0.eq_2 ..) (Ev.neg (by rw [W_zero]; simp) ?_)
 have := str_rev (l.map (48 + ·)) (by simpa using hl)
 unfold S
 rw [D10_pos hn, ← h1, List.map_reverse]
 exact this
theorem emit_digit {n R : Nat} {l : List Int} (hR : 0 < R) (hd : Dig 10 l) (hv : val 10 l + 10 ^ l.length * R = n) :
  Dig 10 (l ++ [((R % 10 : Nat) : Int)]) ∧ val 10 (l ++ [((R % 10 : Nat) : Int)]) + 10 ^ (l ++ [((R % 10 : Nat) : Int)]).length * ((R / 10 : Nat) : Int) = n ∧ (R / 10 = 0 → Nrm (l ++ [((R % 10 : Nat) : Int)])) ∧ (l ++ [((R % 10 : Nat) : Int)]).length ≤ dl n := by
 refine ⟨hd.append (Dig.cons (by omega) (by omega) (Dig.nil _)), ?_, fun h0 h => ?_, ?_⟩
 ·rw [val_append, List.length_append, List.length_singleton, Int.pow_succ, val_cons, val_nil, ← hv]
  have : (R : Int) = ((R % 10 : Nat) : Int) + 10 * ((R / 10 : Nat) : Int) := by omega
  rw [this]; grind
 ·first | (rw [List.getLast_concat]; omega) | (simp; omega)
 ·rw [List.length_append, List.length_singleton]
  rcases Nat.lt_or_ge l.length (dl n) with g | g
  ·omega
  ·exfalso
   have h1 : n < 10 ^ dl n := lt_pow_len (B := 10) (by omega) n
   have h2 : 10 ^ dl n ≤ 10 ^ l.length := Nat.pow_le_pow_right (by omega) g
   have h3 := val_nonneg (B := 10) (by omega) hd
   have h4 : (10 : Int) ^ l.length = ((10 ^ l.length : Nat) : Int) := by rw [Int.natCast_pow]; rfl
   have h5 := Nat.le_mul_of_pos_right (10 ^ l.length) hR
   rw [h4, ← Int.natCast_mul] at hv
   omega
theorem str_l1 (n : Nat) (hn : n ≠ 0) (hs : dl n < 1099511000000) (R : Nat) :
  ∀ (m r e : Nat) (l : List Int), e ≤ 9 → r < 10 ^ (9 - e) → R = r + 10 ^ (9 - e) * m → Dig 10 l → (R = 0 → Nrm l) → val 10 l + 10 ^ l.length * R = n → l.length ≤ dl n → m ≤ n →
  Ev (fun k => bignat_Nat_String.l1 k (W m) (l.map (48 + ·)) (r : Int) (e : Int)) (S n) := by
 have hWs : ∀ m, m ≤ n → Sm m := fun m hm => by
  unfold Sm; have := len_dg_mono (B := 4294967296) (by omega) hm; have := W_len_dl n; unfold W at *; omega
 have hr9 : ∀ e r, e ≤ 9 → r < 10 ^ (9 - e) → r < 1000000000 := fun e r _ h => by
  have : (10 : Nat) ^ (9 - e) ≤ 10 ^ 9 := Nat.pow_le_pow_right (by omega) (by omega)
  have e9 : (10 : Nat) ^ 9 = 1000000000 := by decide
  omega
 induction R using Nat.strongRecOn with
 | _ R ih =>
  -- a round that writes a digit
  have main : ∀ (m r e : Nat) (l : List Int), e < 9 → 0 < R → r < 10 ^ (9 - e) → R = r + 10 ^ (9 - e) * m → Dig 10 l → val 10 l + 10 ^ l.length * R = n → l.length ≤ dl n → m ≤ n →
    Ev (fun k => bignat_Nat_String.l1 k (W m) (l.map (48 + ·)) (r : Int) (e : Int)) (S n) := by
   intro m r e l he hR hr hRe hd hv hll hmn
   have hr9' := hr9 e r (by omega) hr
   obtain ⟨f, hf⟩ : ∃ f, 9 - e = f + 1 := ⟨8 - e, by omega⟩
   have hf2 : 9 - (e + 1) = f := by omega
   rw [hf, Nat.pow_succ] at hr hRe
   have hmod : R % 10 = r % 10 := by rw [hRe, show r + 10 ^ f * 10 * m = r + 10 * (10 ^ f * m) by grind, Nat.add_mul_mod_self_left]
   have hdiv : R / 10 = r / 10 + 10 ^ f * m := by rw [hRe, show r + 10 ^ f * 10 * m = r + 10 * (10 ^ f * m) by grind, Nat.add_mul_div_left _ _ (by omega)]
   obtain ⟨g1, g2, g3, g4⟩ := emit_digit hR hd hv
   have go := ih (R / 10) (by omega) m (r / 10) (e + 1) _ (by omega) (by rw [hf2]; omega) (by rw [hf2]; exact hdiv) g1 g3 g2 g4 hmn
   have hx : (l.map (48 + ·)) ++ [(48 + (Int.tmod (r : Int) 10)) % 256] = (l ++ [((R % 10 : Nat) : Int)]).map (48 + ·) := by
    rw [List.map_append, List.map_singleton, tmod_pos (by omega), hmod]
    congr 2; omega
   have hy : (Int.tdiv (r : Int) 10) % 4294967296 = ((r / 10 : Nat) : Int) := by rw [tdiv_pos (by omega)]; omega
   have hl2 : (l.map (48 + ·)).length < 140737488355328 := by rw [List.length_map]; omega
   refine Ev.step (fun k => bignat_Nat_String.l1.eq_2 ..) (Ev.pos (by omega) ?_)
   rw [hx, hy, w64i (by omega)]
   by_cases hm0 : m = 0
   ·refine Ev.neg (by subst hm0; rw [W_zero]; simp) (Ev.pos ?_ (Ev.pos hl2 go))
    subst hm0
    omega
   ·refine Ev.pos (by have := W_len_pos (n := m) (by omega); omega) (Ev.pos hl2 go)
  intro m r e l he hr hRe hd hnr hv hll hmn
  by_cases hR : R = 0
  ·have hm0 : m = 0 := by
    rcases Nat.eq_zero_or_pos m with g | g
    ·exact g
    ·have := Nat.mul_pos (Nat.pow_pos (n := 9 - e) (show 0 < 10 by omega)) g; omega
   have hr0 : r = 0 := by omega
   subst hm0; subst hr0
   have fin := str_end n hn l hd (hnr hR) (by rw [← hv, hR]; simp) (by omega)
   refine Ev.step (fun k => bignat_Nat_String.l1.eq_2 ..) ?_
   by_cases he9 : e = 9
   ·exact Ev.neg (by omega) fin
   ·exact Ev.pos (by omega) (Ev.neg (by rw [W_zero]; simp) (Ev.neg (by omega) fin))
  ·by_cases he9 : e = 9
   ·subst he9
    have hr0 : r = 0 := by simpa using hr
    subst hr0
    have hm : R = m := by simpa using hRe
    refine Ev.step (fun k => bignat_Nat_String.l1.eq_2 ..) (Ev.neg (by omega) ?_)
    refine Ev.step (fun k => bignat_Nat_String.l0.eq_2 ..) (Ev.pos (by have := W_len_pos (n := m) (by omega); omega) ?_)
    refine Ev.bind (small_ev (dv := 1000000000) (hWs m hmn) (by omega) (by omega)) ?_
    exact main (m / 1000000000) (m % 1000000000) 0 l (by omega) (by omega) (by rw [show 9 - 0 = 9 by omega, show (10 : Nat) ^ 9 = 1000000000 by decide]; omega) (by rw [show 9 - 0 = 9 by omega, show (10 : Nat) ^ 9 = 1000000000 by decide]; omega) hd hv hll (by omega)
   ·exact main m r e l (by omega) (by omega) hr hRe hd hv hll hmn
theorem string_ev {n : Nat} (hs : dl n < 1099511000000) : Ev (fun k => bignat_Nat_String.f k (W n)) (S n) := by
 unfold bignat_Nat_String.f
 by_cases hn : n = 0
 ·subst hn
  exact Ev.pos (W_len0.2 rfl) (Ev.some (by decide))
 ·refine Ev.neg (fun h => hn (W_len0.1 h)) ?_
  have h1 := str_l1 n hn hs n n 0 9 [] (by omega) (by simp) (by simp) (Dig.nil _) (fun h => absurd h hn) (by simp [val_nil]) (by simp) (Nat.le_refl _)
  -- the loop's own begin
  refine Ev.step (fun k => bignat_Nat_String.l0.eq_2 ..) (Ev.pos (by have := W_len_pos (n := n) (by omega); omega) ?_)
  refine Ev.bind (small_ev (dv := 1000000000) (by unfold Sm; have := W_len_dl n; omega) (by omega) (by omega)) ?_
  exact str_l1 n hn hs n (n / 1000000000) (n % 1000000000) 0 [] (by omega) (by rw [show 9 - 0 = 9 by omega, show (10 : Nat) ^ 9 = 1000000000 by decide]; omega) (by rw [show 9 - 0 = 9 by omega, show (10 : Nat) ^ 9 = 1000000000 by decide]; omega) (Dig.nil _) (fun h => absurd h hn) (by simp [val_nil]) (by simp) (by omega)
theorem bits_ev {n : Nat} (h : Sm n) : ∃ b : Nat, bignat_Nat_Bits.f (W n) = some (b : Int) ∧ (n = 0 → b = 0) ∧ (0 < n → 0 < b ∧ 2 ^ (b - 1) ≤ n ∧ n < 2 ^ b) := by
 unfold bignat_Nat_Bits.f
 unfold Sm at h
 by_cases hn : n = 0
 ·exact ⟨0, by rw [if_pos (W_len0.2 hn)]; rfl, fun _ => rfl, fun h => by omega⟩
 ·have hl := W_len_pos (n := n) (by omega)
  obtain ⟨t, ht, t0, t1, tl, tu⟩ := W_top (n := n) (by omega)
  obtain ⟨l1, l2, l3, l4⟩ := bitLen_spec t0 t1
  refine ⟨32 * ((W n).length - 1) + Lib.bitLen t, ?_, fun h => absurd h hn, fun _ => ⟨by omega, ?_, ?_⟩⟩
  ·rw [if_neg (fun h => hn (W_len0.1 h)), w64s1 (by omega) (by omega), if_pos (by omega), if_pos (by omega), rd_nat, ht]
   unfold bits_Len32.f
   rw [if_pos ⟨by omega, by omega⟩, Int.toNat_natCast, Option.bind_some, w64 (x := 32 * (((W n).length - 1 : Nat) : Int)) (by omega) (by omega), w64 (by omega) (by omega)]
   simp
  ·have e : 32 * ((W n).length - 1) + Lib.bitLen t - 1 = 32 * ((W n).length - 1) + (Lib.bitLen t - 1) := by omega
   rw [e, Nat.pow_add, Nat.pow_mul, Nat.mul_comm]
   exact Nat.le_trans (Nat.mul_le_mul_right _ l2) tl
  ·rw [Nat.pow_add, Nat.pow_mul, Nat.mul_comm]
   exact Nat.lt_of_lt_of_le tu (Nat.mul_le_mul_right _ (by omega))
theorem Lm.dlb {n : Nat} (h : Lm n) : dl n < 1099511000000 := by unfold Lm at h; omega
theorem text_ev {n : Nat} (h : Lm n) : Ev (fun k => ratio_text.f k (W n)) (S n, 0) := by
 unfold ratio_text.f
 obtain ⟨b, hb, hb0, hb1⟩ := bits_ev h.sm
 refine Ev.bindo hb (Ev.neg ?_ (Ev.bind (string_ev h.dlb) (Ev.neg (by have := S_size_le h; omega) (Ev.now _))))
 by_cases hn : n = 0
 ·have := hb0 hn; omega
 ·obtain ⟨g1, g2, g3⟩ := hb1 (by omega)
  rcases Nat.lt_or_ge 80000 b with g | g
  ·exfalso
   have e1 : n < 10 ^ dl n := lt_pow_len (B := 10) (by omega) n
   have e2 : (10 : Nat) ^ dl n ≤ 16 ^ dl n := Nat.pow_le_pow_left (by omega) _
   have e3 : (16 : Nat) ^ dl n = 2 ^ (4 * dl n) := by rw [Nat.pow_mul]
   have e4 : (2 : Nat) ^ (4 * dl n) ≤ 2 ^ (b - 1) := Nat.pow_le_pow_right (by omega) (by unfold Lm at h; omega)
   omega
  ·omega
theorem both_ev {a b : Nat} (ha : Lm a) (hb : Lm b) : Ev (fun k => ratio_both.f k (S a) (S b)) (W a, W b, true) := by
 unfold ratio_both.f
 have h1 := S_size_le ha
 have h2 := S_size_le hb
 refine Ev.bind (Ev.to (valid_ev (by omega)) (vld_S ha)) (Ev.pos rfl (Ev.bind (Ev.to (valid_ev (by omega)) (vld_S hb)) ?_))
 exact Ev.step (fun k => ratio_both.j0.eq_2 ..) (Ev.neg (by simp) (Ev.bind (parse_ev ha) (Ev.bind (parse_ev hb) (Ev.now _))))
end Go.Proofs.Ytccgfmjcldifcaa.P
