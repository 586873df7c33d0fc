/- Digits of a natural number to a base, the least first: their value, a store, a part; a number has one list of digits without a zero at its end (the base is 2 or more). -/
namespace Go.Proofs.Ytccgfmjcldifcaa.Dg
set_option linter.unusedVariables false
def val (B : Int) : List Int → Int
 | [] => 0
 | x :: xs => x + B * val B xs
def dg (B : Nat) (n : Nat) : List Int :=
 if h : n = 0 ∨ B ≤ 1 then [] else ((n % B : Nat) : Int) :: dg B (n / B)
termination_by n
decreasing_by
 have h1 : n ≠ 0 := fun e => h (.inl e)
 have h2 : 1 < B := by
  rcases Nat.lt_or_ge 1 B with g | g
  ·exact g
  ·exact absurd (.inr g) h
 exact Nat.div_lt_self (by omega) h2
def Dig (B : Int) (l : List Int) : Prop := ∀ x ∈ l, 0 ≤ x ∧ x < B
theorem dg_zero (B : Nat) : dg B 0 = [] := by rw [dg]; simp
theorem dg_pos {B n : Nat} (hB : 2 ≤ B) (hn : 0 < n) : dg B n = ((n % B : Nat) : Int) :: dg B (n / B) := by
 rw [dg, dif_neg (by omega)]
theorem val_nil (B : Int) : val B [] = 0 := rfl
theorem val_cons (B : Int) (x : Int) (xs : List Int) : val B (x :: xs) = x + B * val B xs := rfl
theorem Dig.nil (B : Int) : Dig B [] := fun _ h => by cases h
theorem Dig.cons {B x : Int} {xs : List Int} (h0 : 0 ≤ x) (h1 : x < B) (h : Dig B xs) : Dig B (x :: xs) := by
 intro y hy
 rcases List.mem_cons.1 hy with rfl | hy
 ·exact ⟨h0, h1⟩
 ·exact h y hy
theorem Dig.head {B x : Int} {xs : List Int} (h : Dig B (x :: xs)) : 0 ≤ x ∧ x < B := h x List.mem_cons_self
theorem Dig.tail {B x : Int} {xs : List Int} (h : Dig B (x :: xs)) : Dig B xs := fun y hy => h y (List.mem_cons_of_mem _ hy)
theorem val_nonneg {B : Int} (hB : 0 ≤ B) : ∀ {l : List Int}, Dig B l → 0 ≤ val B l
 | [], _ => Int.le_refl _
 | x :: xs, h => by
  have h1 := h.head
  have h2 := val_nonneg hB h.tail
  have h3 := Int.mul_nonneg hB h2
  rw [val_cons]; omega
theorem dig_dg {B : Nat} (hB : 2 ≤ B) (n : Nat) : Dig B (dg B n) := by
 induction n using Nat.strongRecOn with
 | _ n ih =>
  rcases Nat.eq_zero_or_pos n with rfl | hn
  ·rw [dg_zero]; exact Dig.nil _
  ·rw [dg_pos hB hn]
   refine Dig.cons (by omega) ?_ (ih _ (Nat.div_lt_self hn (by omega)))
   have := Nat.mod_lt n (show 0 < B by omega)
   omega
theorem val_dg {B : Nat} (hB : 2 ≤ B) (n : Nat) : val B (dg B n) = n := by
 induction n using Nat.strongRecOn with
 | _ n ih =>
  rcases Nat.eq_zero_or_pos n with rfl | hn
  ·rw [dg_zero]; rfl
  ·rw [dg_pos hB hn, val_cons, ih _ (Nat.div_lt_self hn (by omega))]
   have := Nat.mod_add_div n B
   exact_mod_cast this
def Nrm (l : List Int) : Prop := ∀ h : l ≠ [], l.getLast h ≠ 0
theorem Nrm.tail {x : Int} {xs : List Int} (h : Nrm (x :: xs)) : Nrm xs := fun hne => by
 have := h (by simp)
 rwa [List.getLast_cons hne] at this
theorem dg_unique {B : Nat} (hB : 2 ≤ B) : ∀ {l : List Int} (n : Nat), Dig B l → Nrm l → val B l = n → l = dg B n
 | [], n, _, _, h => by
  rw [val_nil] at h
  have : n = 0 := by omega
  rw [this, dg_zero]
 | x :: xs, n, hd, hn, h => by
  have h1 := hd.head
  have h2 := val_nonneg (by omega) hd.tail
  rw [val_cons] at h
  obtain ⟨m, hm⟩ : ∃ m : Nat, val B xs = m := ⟨(val B xs).toNat, by omega⟩
  have ih := dg_unique hB m hd.tail hn.tail hm
  obtain ⟨y, rfl⟩ : ∃ y : Nat, x = y := ⟨x.toNat, by omega⟩
  rw [hm] at h
  have h' : y + B * m = n := by exact_mod_cast h
  have hy : y < B := by omega
  have hpos : 0 < n := by
   rcases Nat.eq_zero_or_pos n with h0 | h0
   ·exfalso
    have hy0 : y = 0 := by omega
    have hm0 : m = 0 := by
     rcases Nat.eq_zero_or_pos m with g | g
     ·exact g
     ·have := Nat.mul_pos (show 0 < B by omega) g
      omega
    subst hm0
    rw [dg_zero] at ih
    subst ih
    exact hn (by simp) (by simp [hy0])
   ·exact h0
  rw [dg_pos hB hpos]
  have hq : n / B = m := by rw [← h', Nat.add_mul_div_left _ _ (by omega), Nat.div_eq_of_lt hy, Nat.zero_add]
  have hr : n % B = y := by rw [← h', Nat.add_mul_mod_self_left, Nat.mod_eq_of_lt hy]
  rw [hq, hr, ← ih]
theorem nrm_dg {B : Nat} (hB : 2 ≤ B) (n : Nat) : Nrm (dg B n) := by
 induction n using Nat.strongRecOn with
 | _ n ih =>
  rcases Nat.eq_zero_or_pos n with rfl | hn
  ·rw [dg_zero]; intro h; exact absurd rfl h
  ·intro h
   have hlt := Nat.div_lt_self hn (show 1 < B by omega)
   have := ih _ hlt
   simp only [dg_pos hB hn]
   rcases Nat.eq_zero_or_pos (n / B) with h0 | h0
   ·simp only [h0, dg_zero, List.getLast_singleton]
    have : n < B := by
     rcases Nat.lt_or_ge n B with g | g
     ·exact g
     ·have := Nat.div_pos g (by omega); omega
    rw [Nat.mod_eq_of_lt this]; omega
   ·have hne : dg B (n / B) ≠ [] := by rw [dg_pos hB h0]; simp
    rw [List.getLast_cons hne]
    exact this hne
theorem dg_eq_nil {B : Nat} (hB : 2 ≤ B) {n : Nat} : dg B n = [] ↔ n = 0 := by
 constructor
 ·intro h
  rcases Nat.eq_zero_or_pos n with h0 | h0
  ·exact h0
  ·rw [dg_pos hB h0] at h; cases h
 ·rintro rfl; exact dg_zero B
theorem len_dg_le {B : Nat} (hB : 2 ≤ B) : ∀ (k n : Nat), n < B ^ k → (dg B n).length ≤ k
 | 0, n, h => by
  have : n = 0 := by simpa using h
  rw [this, dg_zero]; simp
 | k + 1, n, h => by
  rcases Nat.eq_zero_or_pos n with rfl | hn
  ·rw [dg_zero]; simp
  ·rw [dg_pos hB hn, List.length_cons]
   have : n / B < B ^ k := by
    rw [Nat.div_lt_iff_lt_mul (show 0 < B by omega)]; rw [Nat.pow_succ] at h; exact h
   have := len_dg_le hB k _ this
   omega
theorem lt_pow_len {B : Nat} (hB : 2 ≤ B) (n : Nat) : n < B ^ (dg B n).length := by
 induction n using Nat.strongRecOn with
 | _ n ih =>
  rcases Nat.eq_zero_or_pos n with rfl | hn
  ·rw [dg_zero]; simp
  ·rw [dg_pos hB hn, List.length_cons, Nat.pow_succ]
   have := ih (n / B) (Nat.div_lt_self hn (by omega))
   rw [Nat.div_lt_iff_lt_mul (show 0 < B by omega)] at this
   exact this
theorem pow_len_le {B : Nat} (hB : 2 ≤ B) {n : Nat} (hn : 0 < n) : B ^ ((dg B n).length - 1) ≤ n := by
 induction n using Nat.strongRecOn with
 | _ n ih =>
  rw [dg_pos hB hn, List.length_cons, Nat.add_sub_cancel]
  rcases Nat.eq_zero_or_pos (n / B) with h0 | h0
  ·rw [h0, dg_zero, List.length_nil, Nat.pow_zero]; exact hn
  ·have := ih (n / B) (Nat.div_lt_self hn (by omega)) h0
   have hl : 0 < (dg B (n / B)).length := by rw [dg_pos hB h0]; simp
   obtain ⟨q, hq⟩ : ∃ q, (dg B (n / B)).length = q + 1 := ⟨_, (Nat.succ_pred_eq_of_pos hl).symm⟩
   rw [hq] at this ⊢
   rw [Nat.add_sub_cancel] at this
   rw [Nat.pow_succ]
   rw [Nat.le_div_iff_mul_le (show 0 < B by omega)] at this
   exact this
theorem len_dg_mono {B : Nat} (hB : 2 ≤ B) {n m : Nat} (h : n ≤ m) : (dg B n).length ≤ (dg B m).length :=
 len_dg_le hB _ _ (Nat.lt_of_le_of_lt h (lt_pow_len hB m))
def at_ (l : List Int) (i : Nat) : Int := l.getD i 0
theorem at_zero (x : Int) (xs : List Int) : at_ (x :: xs) 0 = x := rfl
theorem at_succ (x : Int) (xs : List Int) (i : Nat) : at_ (x :: xs) (i + 1) = at_ xs i := rfl
theorem at_ge {l : List Int} {i : Nat} (h : l.length ≤ i) : at_ l i = 0 := by
 unfold at_; rw [List.getD_eq_getElem?_getD, List.getElem?_eq_none h]; rfl
theorem at_mem {l : List Int} {i : Nat} (h : i < l.length) : at_ l i ∈ l := by
 unfold at_; rw [List.getD_eq_getElem?_getD, List.getElem?_eq_getElem h]; exact List.getElem_mem h
theorem Dig.at {B : Int} {l : List Int} (h : Dig B l) (hB : 0 < B) (i : Nat) : 0 ≤ at_ l i ∧ at_ l i < B := by
 rcases Nat.lt_or_ge i l.length with g | g
 ·exact h _ (at_mem g)
 ·rw [at_ge g]; omega
theorem at_set_eq {l : List Int} {i : Nat} (h : i < l.length) (v : Int) : at_ (l.set i v) i = v := by
 unfold at_; rw [List.getD_eq_getElem?_getD, List.getElem?_set_self h]; rfl
theorem at_set_ne {l : List Int} {i j : Nat} (h : i ≠ j) (v : Int) : at_ (l.set i v) j = at_ l j := by
 unfold at_; rw [List.getD_eq_getElem?_getD, List.getD_eq_getElem?_getD, List.getElem?_set_ne h]
theorem val_set (B : Int) : ∀ (l : List Int) (i : Nat) (v : Int), i < l.length → val B (l.set i v) = val B l + (v - at_ l i) * B ^ i
 | [], i, v, h => by simp at h
 | x :: xs, 0, v, _ => by
  rw [List.set_cons_zero, val_cons, val_cons, at_zero]; grind
 | x :: xs, i + 1, v, h => by
  rw [List.set_cons_succ, val_cons, val_cons, at_succ, val_set B xs i v (by simpa using h), Int.pow_succ]; grind
theorem Dig.set {B : Int} {l : List Int} (h : Dig B l) (i : Nat) {v : Int} (h0 : 0 ≤ v) (h1 : v < B) : Dig B (l.set i v) := by
 intro x hx
 rcases List.mem_or_eq_of_mem_set hx with g | g
 ·exact h x g
 ·subst g; exact ⟨h0, h1⟩
theorem val_replicate (B : Int) : ∀ n : Nat, val B (List.replicate n 0) = 0
 | 0 => rfl
 | n + 1 => by rw [List.replicate_succ, val_cons, val_replicate B n]; simp
theorem Dig.replicate {B : Int} (hB : 0 < B) (n : Nat) : Dig B (List.replicate n 0) := by
 intro x hx
 rw [List.mem_replicate] at hx
 obtain ⟨_, rfl⟩ := hx
 omega
theorem at_replicate (n i : Nat) : at_ (List.replicate n 0) i = 0 := by
 rcases Nat.lt_or_ge i n with g | g
 ·have : at_ (List.replicate n 0) i ∈ List.replicate n (0 : Int) := at_mem (by simpa using g)
  rw [List.mem_replicate] at this; exact this.2
 ·exact at_ge (by simpa using g)
theorem val_append (B : Int) : ∀ (l r : List Int), val B (l ++ r) = val B l + B ^ l.length * val B r
 | [], r => by simp [val_nil]
 | x :: xs, r => by
  rw [List.cons_append, val_cons, val_cons, val_append B xs r, List.length_cons, Int.pow_succ]; grind
theorem Dig.append {B : Int} {l r : List Int} (h : Dig B l) (k : Dig B r) : Dig B (l ++ r) := by
 intro x hx
 rcases List.mem_append.1 hx with g | g
 ·exact h x g
 ·exact k x g
theorem Dig.take {B : Int} {l : List Int} (h : Dig B l) (n : Nat) : Dig B (l.take n) := fun x hx => h x (List.mem_of_mem_take hx)
theorem Dig.drop {B : Int} {l : List Int} (h : Dig B l) (n : Nat) : Dig B (l.drop n) := fun x hx => h x (List.mem_of_mem_drop hx)
theorem val_lt {B : Int} (hB : 0 < B) : ∀ {l : List Int}, Dig B l → val B l < B ^ l.length
 | [], _ => by simp [val_nil]
 | x :: xs, h => by
  have h1 := h.head
  have h2 := val_lt hB h.tail
  rw [val_cons, List.length_cons, Int.pow_succ]
  have h3 : B * (val B xs + 1) ≤ B * B ^ xs.length := Int.mul_le_mul_of_nonneg_left (by omega) (by omega)
  rw [Int.mul_add, Int.mul_one] at h3
  have h4 : B * B ^ xs.length = B ^ xs.length * B := Int.mul_comm _ _
  omega
theorem val_take_succ (B : Int) (l : List Int) (i : Nat) : val B (l.take (i + 1)) = val B (l.take i) + at_ l i * B ^ i := by
 rcases Nat.lt_or_ge i l.length with g | g
 ·rw [List.take_succ_eq_append_getElem g, val_append, List.length_take, Nat.min_eq_left (by omega)]
  have : at_ l i = l[i] := by unfold at_; rw [List.getD_eq_getElem?_getD, List.getElem?_eq_getElem g]; rfl
  rw [this, val_cons, val_nil]; grind
 ·rw [List.take_of_length_le (by omega), List.take_of_length_le (by omega), at_ge g]; simp
theorem val_drop (B : Int) (l : List Int) (i : Nat) (h : i < l.length) : val B (l.drop i) = at_ l i + B * val B (l.drop (i + 1)) := by
 rw [List.drop_eq_getElem_cons h, val_cons]
 have : at_ l i = l[i] := by unfold at_; rw [List.getD_eq_getElem?_getD, List.getElem?_eq_getElem h]; rfl
 rw [this]
theorem val_split (B : Int) (l : List Int) (i : Nat) (h : i ≤ l.length) : val B l = val B (l.take i) + B ^ i * val B (l.drop i) := by
 have := val_append B (l.take i) (l.drop i)
 rw [List.take_append_drop, List.length_take, Nat.min_eq_left h] at this
 exact this
def cut : List Int → List Int
 | [] => []
 | x :: xs => match cut xs with
  | [] => if x = 0 then [] else [x]
  | y :: ys => x :: y :: ys
theorem val_cut (B : Int) : ∀ l : List Int, val B (cut l) = val B l
 | [] => rfl
 | x :: xs => by
  have ih := val_cut B xs
  rw [cut]
  rcases hc : cut xs with _ | ⟨y, ys⟩
  ·rw [hc] at ih
   rw [val_nil] at ih
   simp only
   split
   ·rename_i hx; rw [val_cons, ← ih, hx]; simp [val_nil]
   ·rw [val_cons, val_cons, ← ih, val_nil]
  ·rw [hc] at ih
   rw [val_cons, ih, val_cons]
theorem nrm_cut : ∀ l : List Int, Nrm (cut l)
 | [] => fun h => absurd rfl h
 | x :: xs => by
  have ih := nrm_cut xs
  rw [cut]
  rcases hc : cut xs with _ | ⟨y, ys⟩
  ·simp only
   split
   ·intro h; exact absurd rfl h
   ·rename_i hx; intro _; simpa using hx
  ·rw [hc] at ih
   intro _
   rw [List.getLast_cons (by simp)]
   exact ih (by simp)
theorem dig_cut {B : Int} : ∀ {l : List Int}, Dig B l → Dig B (cut l)
 | [], h => h
 | x :: xs, h => by
  have ih := dig_cut h.tail
  rw [cut]
  rcases hc : cut xs with _ | ⟨y, ys⟩
  ·simp only
   split
   ·exact Dig.nil _
   ·exact Dig.cons h.head.1 h.head.2 (Dig.nil _)
  ·rw [hc] at ih
   exact Dig.cons h.head.1 h.head.2 ih
theorem cut_snoc_zero : ∀ l : List Int, cut (l ++ [0]) = cut l
 | [] => rfl
 | x :: xs => by rw [List.cons_append]; simp only [cut, cut_snoc_zero xs]
theorem cut_snoc {x : Int} (hx : x ≠ 0) : ∀ l : List Int, cut (l ++ [x]) = l ++ [x]
 | [] => by simp [cut, hx]
 | y :: ys => by
  rw [List.cons_append, cut, cut_snoc hx ys]
  cases ys <;> rfl
theorem cut_eq {B : Nat} (hB : 2 ≤ B) {l : List Int} {n : Nat} (h : Dig B l) (hv : val B l = n) : cut l = dg B n :=
 dg_unique hB n (dig_cut h) (nrm_cut l) (by rw [val_cut, hv])
end Go.Proofs.Ytccgfmjcldifcaa.Dg
