/- What the reference's big numbers come to, the second part: Valid, Big, Text, Times, Divide, Gcd. -/
import Derived.Test.YtccgfmjcldifcaaMRef
import Derived.Test.YtccgfmjcldifcaaMTape
namespace Go.Proofs.Ytccgfmjcldifcaa.P
open Go.RowKit Go.Proofs.YtccgfmjcldifcaaW.PrintWords Go.Proofs.YtccgfmjcldifcaaW.PrintMore Go.Proofs.Ytccgfmjcldifcaa.Dg
set_option linter.unusedVariables false
theorem rvalid_l0 (s : ByteArray) (hs : s.size < 1099511627776) (d : Nat) : ∀ i : Nat, i + d = s.size → Ev (fun k => corporaref36_Valid.l0 k s (i : Int)) (digs ((bytesOf s).drop i)) := by
 have hl := size_eq s
 induction d with
 | zero =>
  intro i hi
  refine Ev.step (fun k => corporaref36_Valid.l0.eq_2 ..) (Ev.neg (by omega) (Ev.some ?_))
  rw [List.drop_eq_nil_of_le (by omega)]; rfl
 | succ d ih =>
  intro i hi
  refine Ev.step (fun k => corporaref36_Valid.l0.eq_2 ..) (Ev.pos (by omega) (Ev.pos (by omega) ?_))
  rw [bt_eq, Int.toNat_natCast, at_drop (show i < (bytesOf s).length by omega)]
  have e : digs (at_ (bytesOf s) i :: (bytesOf s).drop (i + 1)) = (decide (48 ≤ at_ (bytesOf s) i) && decide (at_ (bytesOf s) i ≤ 57) && digs ((bytesOf s).drop (i + 1))) := by unfold digs; rw [List.all_cons]
  rw [e]
  by_cases h1 : at_ (bytesOf s) i < 48
  ·refine Ev.pos h1 (Ev.some ?_)
   rw [decide_eq_false (show ¬ 48 ≤ at_ (bytesOf s) i by omega)]; rfl
  ·refine Ev.neg h1 ?_
   by_cases h2 : at_ (bytesOf s) i > 57
   ·refine Ev.pos h2 (Ev.some ?_)
    rw [decide_eq_false (show ¬ at_ (bytesOf s) i ≤ 57 by omega)]; simp
   ·refine Ev.neg h2 ?_
    rw [decide_eq_true (show 48 ≤ at_ (bytesOf s) i by omega), decide_eq_true (show at_ (bytesOf s) i ≤ 57 by omega), w64i (by omega)]
    exact ih (i + 1) (by omega)
theorem rvalid_ev {s : ByteArray} (hs : s.size < 1099511627776) : Ev (fun k => corporaref36_Valid.f k s) (vld s) := by
 unfold corporaref36_Valid.f vld
 have last : Ev (fun k => corporaref36_Valid.j0 k s false) (digs (bytesOf s)) :=
  Ev.step (fun k => corporaref36_Valid.j0.eq_2 ..) (Ev.neg (by simp) (rvalid_l0 s hs s.size 0 (by omega)))
 have no : Ev (fun k => corporaref36_Valid.j0 k s true) false := Ev.step (fun k => corporaref36_Valid.j0.eq_2 ..) (Ev.pos rfl (Ev.now _))
 by_cases h0 : s.size = 0
 ·rw [decide_eq_false (p := 0 < s.size) (by omega)]; exact Ev.pos (by omega) no
 ·refine Ev.neg (by omega) ?_
  rw [decide_eq_true (p := 0 < s.size) (by omega)]
  by_cases h1 : s.size > 20000
  ·rw [decide_eq_false (p := s.size ≤ 20000) (by omega)]; exact Ev.pos (by omega) no
  ·refine Ev.neg (by omega) (Ev.pos (by omega) ?_)
   rw [decide_eq_true (p := s.size ≤ 20000) (by omega)]
   by_cases hb : bt s 0 = 48
   ·refine Ev.pos hb ?_
    by_cases h2 : s.size = 1
    ·rw [decide_eq_true h2, decide_eq_false (p := (s.size : Int) > 1) (by omega)]; simpa using last
    ·rw [decide_eq_false h2, decide_eq_true (p := (s.size : Int) > 1) (by omega), hb]; exact no
   ·refine Ev.neg hb ?_
    rw [show (bt s 0 == 48) = false from beq_eq_false_iff_ne.2 hb]
    simpa using last
theorem dv_append (a b : List Int) : dv (a ++ b) = dv a * 10 ^ b.length + dv b := by
 unfold dv; rw [List.reverse_append, val_append, List.length_reverse]; grind
theorem at_drop_at (l : List Int) (s j : Nat) : at_ (l.drop s) j = at_ l (s + j) := by
 unfold at_; rw [List.getD_eq_getElem?_getD, List.getD_eq_getElem?_getD, List.getElem?_drop]
theorem bt_S {n i : Nat} (h : i < (D10 n).length) : bt (S n) (i : Int) = 48 + at_ (D10 n) i := by
 rw [bt_eq, S_bytes, Int.toNat_natCast]
 unfold at_; rw [List.getD_eq_getElem?_getD, List.getD_eq_getElem?_getD, List.getElem?_map, List.getElem?_eq_getElem h]; rfl
theorem pow3 {m : Nat} (h : m ≤ 3) : (10 : Int) ^ m ≤ 1000 := by
 rcases (show m = 0 ∨ m = 1 ∨ m = 2 ∨ m = 3 by omega) with g | g | g | g <;> rw [g] <;> decide
theorem pow4 {m : Nat} (h : m ≤ 4) : (10 : Int) ^ m ≤ 10000 := by
 rcases (show m = 0 ∨ m = 1 ∨ m = 2 ∨ m = 3 ∨ m = 4 by omega) with g | g | g | g | g <;> rw [g] <;> decide
theorem big_l1 (n : Nat) (hn : (D10 n).length < 1099511627776) (x3 : List Int) (h3 : x3.length < 1099511627776) (s e : Nat) (he : e ≤ (D10 n).length) (h4 : e ≤ s + 4) (R : List Int)
  (next : Ev (fun k => corporaref36_Big.l0 k (S n) (x3 ++ [dv (((D10 n).drop s).take (e - s))]) (wrap64 ((e : Int) - 4))) R) (d : Nat) :
  ∀ i : Nat, i + d = e → s ≤ i → Ev (fun k => corporaref36_Big.l1 k (S n) x3 (e : Int) (dv (((D10 n).drop s).take (i - s))) (i : Int)) R := by
 have hsz := S_size n
 induction d with
 | zero =>
  intro i hi hs
  obtain rfl : i = e := by omega
  exact Ev.step (fun k => corporaref36_Big.l1.eq_2 ..) (Ev.neg (by omega) (Ev.pos (by omega) next))
 | succ d ih =>
  intro i hi hs
  have hD := (D10_dig n).at (by omega) i
  have hb := dv_bound (l := ((D10 n).drop s).take (i - s)) (((D10_dig n).drop s).take (i - s))
  have hp : (10 : Int) ^ (((D10 n).drop s).take (i - s)).length ≤ 1000 := pow3 (by rw [List.length_take]; omega)
  have hl : i - s < ((D10 n).drop s).length := by rw [List.length_drop]; omega
  have := ih (i + 1) (by omega) (by omega)
  rw [show i + 1 - s = (i - s) + 1 by omega, dv_take_succ hl, at_drop_at, show s + (i - s) = i by omega] at this
  refine Ev.step (fun k => corporaref36_Big.l1.eq_2 ..) (Ev.pos (by omega) (Ev.pos (by omega) (Ev.pos (by omega) ?_)))
  rw [bt_S (by omega), show (48 + at_ (D10 n) i - 48) % 256 = at_ (D10 n) i by omega, w64 (x := 10 * _) (by omega) (by omega), w64 (x := 10 * _ + _) (by omega) (by omega), w64i (by omega)]
  exact this
theorem big_fin (n : Nat) (x : List Int) (z : Int) (hz : z ≤ 0) (hd : Dig 10000 x) (hl : x.length < 4611686018427387904) (hv : val 10000 x = n) : Ev (fun k => corporaref36_Big.l0 k (S n) x z) (T n) :=
 Ev.step (fun k => corporaref36_Big.l0.eq_2 ..) (Ev.neg (by omega) (Ev.bind (trim_ev hd hv hl) (Ev.now _)))
theorem big_l0 (n : Nat) (hn : (D10 n).length < 1099511620) (e : Nat) : ∀ x3 : List Int, e + 4 * x3.length = (D10 n).length → Dig 10000 x3 → val 10000 x3 = dv ((D10 n).drop e) → Ev (fun k => corporaref36_Big.l0 k (S n) x3 (e : Int)) (T n) := by
 induction e using Nat.strongRecOn with
 | _ e ih =>
  intro x3 hl hd hv
  by_cases h0 : e = 0
  ·subst h0
   rw [List.drop_zero, dv_D10] at hv
   exact big_fin n x3 _ (by omega) hd (by omega) hv
  ·refine Ev.step (fun k => corporaref36_Big.l0.eq_2 ..) (Ev.pos (by omega) ?_)
   have hm : mx 0 (wrap64 ((e : Int) - 4)) = ((e - 4 : Nat) : Int) := by
    rw [w64 (by omega) (by omega)]; unfold mx
    by_cases h : (0 : Int) < (e : Int) - 4
    ·rw [if_pos h]; omega
    ·rw [if_neg h]; omega
   rw [hm]
   have hsp : (D10 n).drop (e - 4) = ((D10 n).drop (e - 4)).take (e - (e - 4)) ++ (D10 n).drop e := by
    conv => lhs; rw [← List.take_append_drop (e - (e - 4)) ((D10 n).drop (e - 4))]
    rw [List.drop_drop, show e - 4 + (e - (e - 4)) = e by omega]
   have hb := dv_bound (l := ((D10 n).drop (e - 4)).take (e - (e - 4))) (((D10_dig n).drop _).take _)
   have hp : (10 : Int) ^ (((D10 n).drop (e - 4)).take (e - (e - 4))).length ≤ 10000 := pow4 (by rw [List.length_take]; omega)
   have hv' : val 10000 (x3 ++ [dv (((D10 n).drop (e - 4)).take (e - (e - 4)))]) = dv ((D10 n).drop (e - 4)) := by
    rw [val_append, val_cons, val_nil, hsp, dv_append, ← hsp, hv]
    have : (10 : Int) ^ ((D10 n).drop e).length = 10000 ^ x3.length := by
     rw [List.length_drop, show (D10 n).length - e = 4 * x3.length by omega, Int.pow_mul]; rfl
    rw [this]; grind
   have hd' : Dig 10000 (x3 ++ [dv (((D10 n).drop (e - 4)).take (e - (e - 4)))]) := hd.append (Dig.cons hb.1 (by omega) (Dig.nil _))
   have := big_l1 n (by omega) x3 (by omega) (e - 4) e (by omega) (by omega) (T n) (by
    by_cases h4 : 4 ≤ e
    ·rw [w64 (by omega) (by omega), show (e : Int) - 4 = ((e - 4 : Nat) : Int) by omega]
     exact ih (e - 4) (by omega) _ (by rw [List.length_append, List.length_singleton]; omega) hd' hv'
    ·refine big_fin n _ _ (by rw [w64 (by omega) (by omega)]; omega) hd' (by rw [List.length_append, List.length_singleton]; omega) ?_
     rw [hv', show e - 4 = 0 by omega, List.drop_zero, dv_D10]) (e - (e - 4)) (e - 4) (by omega) (Nat.le_refl _)
   rwa [Nat.sub_self, List.take_zero, dv_nil] at this
theorem big_ev {n : Nat} (h : Lm n) : Ev (fun k => corporaref36_Big.f k (S n)) (T n) := by
 unfold corporaref36_Big.f
 have hl := S_size_le h
 rw [S_size] at hl
 rw [S_size]
 exact big_l0 n (by omega) (D10 n).length [] (by simp) (Dig.nil _) (by rw [List.drop_eq_nil_of_le (Nat.le_refl _)]; rfl)
theorem D10_small {n : Nat} (h : n < 10) : D10 n = [(n : Int)] := by
 by_cases h0 : n = 0
 ·subst h0; rfl
 ·rw [D10_pos h0, dg_small (by omega) h]; rfl
theorem D10_more {n : Nat} (h : 10 ≤ n) : D10 n = D10 (n / 10) ++ [((n % 10 : Nat) : Int)] := by
 rw [D10_pos (by omega), D10_pos (by omega), dg_more h, List.reverse_cons]
theorem rsmall_ev (n : Nat) : n < 10000 → Ev (fun k => corporaref36_small.f k (n : Int)) (S n) := by
 induction n using Nat.strongRecOn with
 | _ n ih =>
  intro h
  refine Ev.step (fun k => corporaref36_small.f.eq_2 ..) ?_
  by_cases h0 : n < 10
  ·refine Ev.pos (by omega) (Ev.some ?_)
   rw [w64 (by omega) (by omega), show (48 + (n : Int)) % 256 = 48 + n by omega]
   unfold S; rw [D10_small h0]; rfl
  ·refine Ev.neg (by omega) ?_
   rw [tdiv_pos (by omega), tmod_pos (by omega), w64 (by omega) (by omega), w64 (by omega) (by omega), show (n : Int) / 10 = ((n / 10 : Nat) : Int) by omega, show (48 + (n : Int) % 10) % 256 = 48 + ((n % 10 : Nat) : Int) by omega]
   have hb : Byt ([48 + ((n % 10 : Nat) : Int)] : List Int) := by
    intro x hx; rw [List.mem_singleton] at hx; omega
   have hl : dl (n / 10) ≤ 4 := dl_le (by omega)
   have hs : (S (n / 10)).size ≤ 5 := by
    rw [S_size]
    by_cases g : n / 10 = 0
    ·rw [g, D10_zero]; simp
    ·rw [D10_len g]; omega
   refine Ev.bind (ih (n / 10) (by omega) (by omega)) (Ev.bindo rfl (Ev.pos ?_ (Ev.some ?_)))
   ·rw [size_eq (strOfNums _), bytes_strOf hb]; simp; omega
   ·refine bytes_ext ?_
    rw [bytes_append, S_bytes, S_bytes, bytes_strOf hb, D10_more (show 10 ≤ n by omega), List.map_append]; rfl
theorem D10_head_pos {n : Nat} (h : 0 < n) : at_ (D10 n) 0 ≠ 0 := by
 by_cases h1 : 1 < (D10 n).length
 ·exact D10_head h1
 ·have h2 : n < 10 := by
   rcases Nat.lt_or_ge n 10 with g | g
   ·exact g
   ·exfalso
    rw [D10_more g, List.length_append, List.length_singleton] at h1
    have := S_size_pos (n / 10); rw [S_size] at this; omega
  rw [D10_small h2, at_zero]; omega
theorem D10_len_of {n k : Nat} (hk : 0 < k) (h : n < 10 ^ k) : (D10 n).length ≤ k := by
 by_cases g : n = 0
 ·subst g; rw [D10_zero, List.length_singleton]; exact hk
 ·rw [D10_len g]; exact dl_le h
theorem dv_zeros (k : Nat) : dv (List.replicate k 0) = 0 := by unfold dv; rw [List.reverse_replicate, val_replicate]
theorem D10_join {m d : Nat} (hm : 0 < m) (hd : d < 10000) : D10 (10000 * m + d) = D10 m ++ (List.replicate (4 - (D10 d).length) 0 ++ D10 d) := by
 have hl : (D10 d).length ≤ 4 := D10_len_of (by omega) (by omega)
 have hp : 0 < (D10 m).length := by rw [← S_size]; exact S_size_pos m
 obtain ⟨n, hn, e⟩ := D10_of (l := D10 m ++ (List.replicate (4 - (D10 d).length) 0 ++ D10 d)) ((D10_dig m).append ((Dig.replicate (by omega) _).append (D10_dig d))) (by rw [List.length_append]; omega) (.inr (by
  have : at_ (D10 m ++ (List.replicate (4 - (D10 d).length) 0 ++ D10 d)) 0 = at_ (D10 m) 0 := by
   match D10 m, hp with
   | x :: xs, _ => rfl
  rw [this]; exact D10_head_pos hm))
 rw [e]
 congr 1
 rw [dv_append, dv_append, dv_zeros, dv_D10, dv_D10, List.length_append, List.length_replicate, show 4 - (D10 d).length + (D10 d).length = 4 by omega] at hn
 omega
theorem zeros_extract {k : Nat} (h : k ≤ 4) : bytesOf ((⟨#[48, 48, 48, 48]⟩ : ByteArray).extract k (⟨#[48, 48, 48, 48]⟩ : ByteArray).size) = (List.replicate (4 - k) (0 : Int)).map (48 + ·) := by
 rcases (show k = 0 ∨ k = 1 ∨ k = 2 ∨ k = 3 ∨ k = 4 by omega) with g | g | g | g | g <;> subst g <;> decide
theorem S_join {m d : Nat} (hm : 0 < m) (hd : d < 10000) : S m ++ ((⟨#[48, 48, 48, 48]⟩ : ByteArray).extract (S d).size (⟨#[48, 48, 48, 48]⟩ : ByteArray).size ++ S d) = S (10000 * m + d) := by
 have hl : (D10 d).length ≤ 4 := D10_len_of (by omega) (by omega)
 refine bytes_ext ?_
 rw [bytes_append, bytes_append, S_size, zeros_extract hl, S_bytes, S_bytes, S_bytes, D10_join hm hd, List.map_append, List.map_append]
theorem text_l0 (a : List Int) (N : Nat) (hd : Dig 10000 a) (hl : a.length < 1099511620) (hN : val 10000 a = N) (i : Nat) : ∀ m : Nat, i ≤ a.length → 0 < m → val 10000 (a.drop i) = m →
  Ev (fun k => corporaref36_Text.l0 k a (S m) ((i : Int) - 1)) (S N) := by
 induction i with
 | zero =>
  intro m _ _ hv
  rw [List.drop_zero, hN] at hv
  refine Ev.step (fun k => corporaref36_Text.l0.eq_2 ..) (Ev.neg (by omega) (Ev.some ?_))
  rw [show m = N by omega]
 | succ i ih =>
  intro m hi hm hv
  have hD := hd.at (by omega) i
  obtain ⟨d, hdd⟩ : ∃ d : Nat, at_ a i = d := ⟨(at_ a i).toNat, by omega⟩
  have hd4 : d < 10000 := by omega
  have hl4 : (S d).size ≤ 4 := by rw [S_size]; exact D10_len_of (by omega) (by omega)
  have hz : ((⟨#[48, 48, 48, 48]⟩ : ByteArray).extract (S d).size (⟨#[48, 48, 48, 48]⟩ : ByteArray).size).size ≤ 4 := by
   rw [size_eq, zeros_extract hl4, List.length_map, List.length_replicate]; omega
  have hms : (S m).size ≤ 4 * a.length + 1 := by
   have h1 := val_lt (by omega) (hd.drop (i + 1))
   rw [hv, List.length_drop] at h1
   have h2 : m < 10 ^ (4 * (a.length - (i + 1)) + 1) := by
    have e : (10000 : Int) ^ (a.length - (i + 1)) = ((10 ^ (4 * (a.length - (i + 1))) : Nat) : Int) := by
     rw [Nat.pow_mul, show (10 : Nat) ^ 4 = 10000 from rfl, Int.natCast_pow]; rfl
    rw [e] at h1
    have : m < 10 ^ (4 * (a.length - (i + 1))) := Int.ofNat_lt.1 h1
    rw [Nat.pow_succ]; omega
   have := D10_len_of (by omega) h2
   rw [S_size]; omega
  refine Ev.step (fun k => corporaref36_Text.l0.eq_2 ..) ?_
  rw [show ((i + 1 : Nat) : Int) - 1 = (i : Int) by omega, rd_nat, hdd]
  refine Ev.pos (by omega) (Ev.pos (by omega) (Ev.pos (by omega) (Ev.bind (rsmall_ev d hd4) (Ev.pos (by omega) (Ev.pos (by omega) ?_)))))
  rw [Int.toNat_natCast]
  refine Ev.pos (by omega) (Ev.pos (by rw [ByteArray.size_append]; omega) ?_)
  rw [S_join hm hd4, w64 (by omega) (by omega)]
  refine ih (10000 * m + d) (by omega) (by omega) ?_
  rw [val_drop _ _ _ (by omega), hv, hdd]; omega
theorem S0_eq : (⟨#[48]⟩ : ByteArray) = S 0 := str_S (l := [48]) (by rw [S_digit (by omega)]; rfl)
theorem S1_eq : (⟨#[49]⟩ : ByteArray) = S 1 := str_S (l := [49]) (by rw [S_digit (by omega)]; rfl)
theorem T_len_pos {n : Nat} (h : 0 < n) : 0 < (T n).length := by rw [T_pos h]; simp
theorem rtext_ev {n : Nat} (h : Tm n) : Ev (fun k => corporaref36_Text.f k (T n)) (S n) := by
 unfold corporaref36_Text.f
 unfold Tm at h
 by_cases h0 : n = 0
 ·subst h0
  exact Ev.pos (by rw [T_zero]; rfl) (Ev.some S0_eq)
 ·have hp := T_len_pos (n := n) (by omega)
  refine Ev.neg (by omega) ?_
  rw [w64 (x := ((T n).length : Int) - 1) (by omega) (by omega), w64 (x := ((T n).length : Int) - 2) (by omega) (by omega)]
  refine Ev.pos (by omega) (Ev.pos (by omega) ?_)
  obtain ⟨q, hq⟩ : ∃ q : Nat, (T n).length = q + 1 := ⟨(T n).length - 1, by omega⟩
  have hD := (T_dig n).at (by omega) q
  obtain ⟨d, hdd⟩ : ∃ d : Nat, at_ (T n) q = d := ⟨(at_ (T n) q).toNat, by omega⟩
  have hne : T n ≠ [] := fun e => by rw [e] at hp; simp at hp
  have hlast : at_ (T n) q ≠ 0 := by
   have : (T n).getLast hne ≠ 0 := nrm_dg (B := 10000) (by omega) n hne
   rw [List.getLast_eq_getElem] at this
   unfold at_; rw [List.getD_eq_getElem?_getD, List.getElem?_eq_getElem (by omega)]
   have e : (T n).length - 1 = q := by omega
   show (T n)[q] ≠ 0
   simp only [← e]; exact this
  have hv : val 10000 ((T n).drop q) = d := by
   rw [val_drop _ _ _ (by omega), List.drop_eq_nil_of_le (by omega), hdd]; simp [val_nil]
  have := text_l0 (T n) n (T_dig n) (by omega) (T_val n) q d (by omega) (by omega) hv
  rw [hq, show ((q + 1 : Nat) : Int) - 1 = (q : Int) by omega, show ((q + 1 : Nat) : Int) - 2 = (q : Int) - 1 by omega, rd_nat, hdd]
  exact Ev.bind (rsmall_ev d (by omega)) this
theorem times_l1 (x1 x21 : List Int) (n : Nat) (h1 : Dig 10000 x1) (hm : x1.length + x21.length < 1099511627) (i : Nat) (t A : Int) (hi : i < x21.length) (t0 : 0 ≤ t) (t1 : t < 10000)
  (next : ∀ x5 : List Int, x5.length = x21.length + x1.length + 1 → Dig 10000 x5 → (∀ j, i + 1 + x1.length ≤ j → at_ x5 j = 0) → val 10000 x5 = A + t * val 10000 x1 * 10000 ^ i →
   Ev (fun k => corporaref36_Times.l0 k x1 x5 x21 (x21.length : Int) ((i + 1 : Nat) : Int)) (T n)) (d : Nat) :
  ∀ (k0 : Nat) (x5 : List Int) (c : Int), k0 + d = x1.length → x5.length = x21.length + x1.length + 1 → Dig 10000 x5 → (∀ j, i + x1.length ≤ j → at_ x5 j = 0) → 0 ≤ c → c < 10000 →
  val 10000 x5 + c * 10000 ^ (i + k0) = A + t * val 10000 (x1.take k0) * 10000 ^ i →
  Ev (fun k => corporaref36_Times.l1 k x1 x5 (i : Int) t c x21 (x21.length : Int) (i : Int) x1 (x1.length : Int) (k0 : Int)) (T n) := by
 induction d with
 | zero =>
  intro k0 x5 c hk h5 hd hz c0 c1 hv
  obtain rfl : k0 = x1.length := by omega
  rw [val_full (Nat.le_refl _)] at hv
  have zero : ∀ (y5 : List Int) (z : Int), y5.length = x21.length + x1.length + 1 → Dig 10000 y5 → (∀ j, i + 1 + x1.length ≤ j → at_ y5 j = 0) → val 10000 y5 = A + t * val 10000 x1 * 10000 ^ i →
    Ev (fun k => corporaref36_Times.l2 k x1 y5 0 z x21 (x21.length : Int) (i : Int)) (T n) := by
   intro y5 z g5 gd gz gv
   refine Ev.step (fun k => corporaref36_Times.l2.eq_2 ..) (Ev.neg (by omega) ?_)
   rw [w64i (by omega)]
   exact next y5 g5 gd gz gv
  refine Ev.step (fun k => corporaref36_Times.l1.eq_2 ..) (Ev.neg (by omega) ?_)
  rw [w64a (by omega)]
  by_cases hc : c = 0
  ·subst hc
   exact zero x5 _ h5 hd (fun j hj => hz j (by omega)) (by omega)
  ·refine Ev.step (fun k => corporaref36_Times.l2.eq_2 ..) (Ev.pos (by omega) (Ev.pos (by omega) (Ev.pos (by omega) ?_)))
   rw [rd_nat, Int.toNat_natCast, hz _ (Nat.le_refl _), w64 (x := 0 + c) (by omega) (by omega), tmod_pos (by omega), tdiv_pos (by omega), w64 (x := (0 + c) / 10000) (by omega) (by omega), show (0 + c) / 10000 = 0 by omega, show (0 + c) % 10000 = c by omega]
   refine zero _ _ (by simpa using h5) (hd.set _ c0 c1) (fun j hj => ?_) ?_
   ·rw [at_set_ne (by omega)]; exact hz j (by omega)
   ·rw [val_set _ _ _ _ (by omega), hz _ (Nat.le_refl _), Int.sub_zero, hv]
 | succ d ih =>
  intro k0 x5 c hk h5 hd hz c0 c1 hv
  have a1 := h1.at (by omega) k0
  have a5 := hd.at (by omega) (i + k0)
  have hm1 : t * at_ x1 k0 ≤ 9999 * 9999 := mul_lt_sq t0 (by omega) a1.1 (by omega)
  have hm0 : 0 ≤ t * at_ x1 k0 := Int.mul_nonneg t0 a1.1
  refine Ev.step (fun k => corporaref36_Times.l1.eq_2 ..) (Ev.pos (by omega) (Ev.pos (by omega) (Ev.pos (by omega) ?_)))
  rw [w64a (by omega)]
  refine Ev.pos (by omega) (Ev.pos (by omega) ?_)
  rw [rd_nat, rd_nat, Int.toNat_natCast, w64 (x := t * at_ x1 k0) (by omega) (by omega), w64 (x := at_ x5 (i + k0) + t * at_ x1 k0) (by omega) (by omega), w64 (x := at_ x5 (i + k0) + t * at_ x1 k0 + c) (by omega) (by omega), tmod_pos (by omega), tdiv_pos (by omega), w64 (x := (at_ x5 (i + k0) + t * at_ x1 k0 + c) / 10000) (by omega) (by omega), w64i (by omega)]
  refine ih (k0 + 1) _ _ (by omega) (by simpa using h5) (hd.set _ (by omega) (by omega)) (fun j hj => ?_) (by omega) (by omega) ?_
  ·rw [at_set_ne (by omega)]; exact hz j hj
  ·rw [val_set _ _ _ _ (by omega), val_take_succ, ← Nat.add_assoc, Int.pow_succ]
   have e1 := Int.emod_add_mul_ediv (at_ x5 (i + k0) + t * at_ x1 k0 + c) 10000
   have e2 : (10000 : Int) ^ (i + k0) = 10000 ^ i * 10000 ^ k0 := Int.pow_add ..
   generalize (at_ x5 (i + k0) + t * at_ x1 k0 + c) % 10000 = m1 at *
   generalize (at_ x5 (i + k0) + t * at_ x1 k0 + c) / 10000 = q1 at *
   rw [e2] at hv ⊢
   generalize (10000 : Int) ^ i = P at *
   generalize (10000 : Int) ^ k0 = Q at *
   generalize at_ x5 (i + k0) = z at *
   generalize at_ x1 k0 = y at *
   generalize val 10000 (x1.take k0) = V at *
   clear ih next hz
   grind
theorem times_l0 (x1 x21 : List Int) (n : Nat) (h1 : Dig 10000 x1) (h21 : Dig 10000 x21) (hm : x1.length + x21.length < 1099511627) (hn : val 10000 x21 * val 10000 x1 = n) (d : Nat) :
  ∀ (i : Nat) (x5 : List Int), i + d = x21.length → x5.length = x21.length + x1.length + 1 → Dig 10000 x5 → (∀ j, i + x1.length ≤ j → at_ x5 j = 0) → val 10000 x5 = val 10000 (x21.take i) * val 10000 x1 →
  Ev (fun k => corporaref36_Times.l0 k x1 x5 x21 (x21.length : Int) (i : Int)) (T n) := by
 induction d with
 | zero =>
  intro i x5 hi h5 hd hz hv
  obtain rfl : i = x21.length := by omega
  refine Ev.step (fun k => corporaref36_Times.l0.eq_2 ..) (Ev.neg (by omega) ?_)
  rw [val_full (Nat.le_refl _), hn] at hv
  exact Ev.bind (trim_ev hd hv (by omega)) (Ev.now _)
 | succ d ih =>
  intro i x5 hi h5 hd hz hv
  have a21 := h21.at (by omega) i
  refine Ev.step (fun k => corporaref36_Times.l0.eq_2 ..) (Ev.pos (by omega) (Ev.pos (by omega) (Ev.pos (by omega) ?_)))
  rw [rd_nat]
  refine times_l1 x1 x21 n h1 hm i (at_ x21 i) (val 10000 x5) (by omega) a21.1 a21.2 (fun y5 g5 gd gz gv => ?_) x1.length 0 x5 0 (by omega) h5 hd hz (by omega) (by omega) (by simp [val_nil])
  refine ih (i + 1) y5 (by omega) g5 gd gz ?_
  rw [gv, hv, val_take_succ]; grind
theorem times_ev {a b : Nat} (hm : (T a).length + (T b).length < 1099511627) : Ev (fun k => corporaref36_Times.f k (T a) (T b)) (T (a * b)) := by
 unfold corporaref36_Times.f
 rw [w64a (by omega), w64i (by omega)]
 refine Ev.pos (by omega) (Ev.pos (by rw [Int.toNat_natCast]; omega) ?_)
 rw [Int.toNat_natCast]
 exact times_l0 (T b) (T a) (a * b) (T_dig _) (T_dig _) (by omega) (by rw [T_val, T_val]; exact (Int.natCast_mul a b).symm) (T a).length 0 _ (by omega) (by simp) (Dig.replicate (by omega) _) (fun j _ => at_replicate _ j) (by rw [val_replicate]; simp [val_nil])
theorem T_lt (n : Nat) : n < 10000 ^ (T n).length := lt_pow_len (B := 10000) (by omega) n
theorem T_mul_len (a b : Nat) : (T (a * b)).length ≤ (T a).length + (T b).length := by
 refine T_len_le ?_
 rw [Nat.pow_add]
 exact Nat.mul_lt_mul'' (T_lt a) (T_lt b)
def Ts (a : Nat) : Prop := (T a).length < 100000000
theorem Ts.tm {a : Nat} (h : Ts a) : Tm a := by unfold Ts at h; unfold Tm; omega
theorem Ts.mono {a b : Nat} (h : Ts b) (hab : a ≤ b) : Ts a := Nat.lt_of_le_of_lt (T_len_mono hab) h
theorem divide_l1 (x0 : List Int) (b r : Nat) (hb : Ts b) (hb0 : 0 < b) (x6 : List Int) (i : Nat) (hi : i < x6.length) (h6 : x6.length < 1099511627776) (hr : Tm r) (R : List Int × List Int)
  (next : Ev (fun k => corporaref36_Divide.l0 k x0 (T b) (x6.set i ((r / b : Nat) : Int)) (T (r % b)) (wrap64 ((i : Int) - 1))) R) (d : Nat) :
  ∀ lo hi : Nat, hi - lo = d → lo < hi → hi ≤ 10000 → lo * b ≤ r → r < hi * b → Ev (fun k => corporaref36_Divide.l1 k x0 (T b) x6 (T r) (i : Int) (lo : Int) (hi : Int)) R := by
 induction d using Nat.strongRecOn with
 | _ d ih =>
  intro lo hi hd h1 h2 h3 h4
  have lenm : ∀ m : Nat, m ≤ 10000 → (T m).length ≤ 2 := fun m h => T_len_le (by omega)
  refine Ev.step (fun k => corporaref36_Divide.l1.eq_2 ..) ?_
  rw [w64 (x := (hi : Int) - lo) (by omega) (by omega)]
  unfold Ts at hb
  by_cases hc : hi - lo > 1
  ·refine Ev.pos (by omega) ?_
   rw [w64 (x := (lo : Int) + hi) (by omega) (by omega), tdiv_pos (by omega), w64 (x := ((lo : Int) + hi) / 2) (by omega) (by omega), show ((lo : Int) + hi) / 2 = (((lo + hi) / 2 : Nat) : Int) by omega, u64 (by omega) (by omega)]
   obtain ⟨m, hm⟩ : ∃ m, (lo + hi) / 2 = m := ⟨_, rfl⟩
   rw [hm]
   have l2 := lenm m (by omega)
   refine Ev.bind (of64_ev (by omega)) (Ev.bind (times_ev (by omega)) (Ev.bind (rless_ev (by have := T_mul_len b m; unfold Tm; omega)) ?_))
   by_cases g : b * m ≤ r
   ·refine Ev.pos ?_ (ih (hi - m) (by omega) m hi rfl (by omega) h2 (by rw [Nat.mul_comm]; exact g) h4)
    rcases Nat.lt_or_eq_of_le g with e | e
    ·rw [cmp_lt (by omega)]; omega
    ·rw [cmp_eq (by omega)]; omega
   ·refine Ev.neg ?_ (ih (m - lo) (by omega) lo m rfl (by omega) (by omega) h3 (by rw [Nat.mul_comm]; omega))
    rw [cmp_gt (by omega)]; omega
  ·obtain rfl : hi = lo + 1 := by omega
   have l2 := lenm lo (by omega)
   have hq : r / b = lo := by
    rw [Nat.div_eq_iff hb0]
    rw [Nat.succ_mul] at h4
    rw [Nat.mul_comm] at h3 h4
    constructor
    ·rw [Nat.mul_comm]; exact h3
    ·rw [Nat.mul_comm lo b]; omega
   have hrem : r % b = r - b * lo := by
    have := Nat.div_add_mod r b
    rw [hq] at this; omega
   refine Ev.neg (by omega) (Ev.pos (by omega) (Ev.pos (by omega) ?_))
   rw [u64 (by omega) (by omega), Int.toNat_natCast]
   refine Ev.bind (of64_ev (by omega)) (Ev.bind (times_ev (by omega)) (Ev.bind (minus_ev hr (by rw [Nat.mul_comm]; exact h3)) ?_))
   rw [← hrem, ← hq]
   exact next
theorem divide_l0 (x0 : List Int) (b A : Nat) (hb : Ts b) (hb0 : 0 < b) (h0 : Dig 10000 x0) (hA : val 10000 x0 = A) (hl : x0.length < 100000000) (i : Nat) :
  ∀ (x6 : List Int) (r : Nat), i ≤ x0.length → x6.length = x0.length → Dig 10000 x6 → r < b → (∀ j, j < i → at_ x6 j = 0) → val 10000 (x6.drop i) * b + r = val 10000 (x0.drop i) →
  Ev (fun k => corporaref36_Divide.l0 k x0 (T b) x6 (T r) ((i : Int) - 1)) (T (A / b), T (A % b)) := by
 induction i with
 | zero =>
  intro x6 r _ h6 hd hr hz hv
  rw [List.drop_zero, List.drop_zero, hA] at hv
  obtain ⟨q, hq⟩ : ∃ q : Nat, val 10000 x6 = q := ⟨(val 10000 x6).toNat, by have := val_nonneg (B := 10000) (by omega) hd; omega⟩
  rw [hq] at hv
  have hv' : q * b + r = A := Int.ofNat_inj.1 (by rw [Int.natCast_add, Int.natCast_mul]; exact hv)
  have e1 : A / b = q := by rw [← hv', Nat.mul_comm, Nat.mul_add_div hb0, Nat.div_eq_of_lt hr, Nat.add_zero]
  have e2 : A % b = r := by rw [← hv', Nat.mul_comm, Nat.mul_add_mod, Nat.mod_eq_of_lt hr]
  rw [e1, e2]
  exact Ev.step (fun k => corporaref36_Divide.l0.eq_2 ..) (Ev.neg (by omega) (Ev.bind (trim_ev hd hq (by omega)) (Ev.now _)))
 | succ i ih =>
  intro x6 r hi h6 hd hr hz hv
  have a0 := h0.at (by omega) i
  obtain ⟨d, hdd⟩ : ∃ d : Nat, at_ x0 i = d := ⟨(at_ x0 i).toNat, by omega⟩
  have hrl : Ts r := hb.mono (by omega)
  unfold Ts at hrl
  have hvr : val 10000 ([at_ x0 i] ++ T r) = ((10000 * r + d : Nat) : Int) := by
   rw [List.singleton_append, val_cons, T_val, hdd]; omega
  have hdr : Dig 10000 ([at_ x0 i] ++ T r) := Dig.cons a0.1 a0.2 (T_dig r)
  have hlr : ([at_ x0 i] ++ T r).length < 4611686018427387904 := by rw [List.length_append, List.length_singleton]; omega
  have htr : Tm (10000 * r + d) := by
   unfold Tm
   have : 10000 * r + d < 10000 ^ ((T r).length + 1) := by
    have := T_lt r
    rw [Nat.pow_succ]; omega
   have := T_len_le this
   omega
  refine Ev.step (fun k => corporaref36_Divide.l0.eq_2 ..) ?_
  rw [show ((i + 1 : Nat) : Int) - 1 = (i : Int) by omega, rd_nat]
  refine Ev.pos (by omega) (Ev.pos (by omega) (Ev.pos (by omega) (Ev.bindo rfl (Ev.pos (by rw [List.length_singleton]; omega) (Ev.bind (trim_ev hdr hvr hlr) ?_)))))
  have hq : (10000 * r + d) / b < 10000 := by rw [Nat.div_lt_iff_lt_mul hb0]; omega
  refine divide_l1 x0 b (10000 * r + d) hb hb0 x6 i (by omega) (by omega) htr _ ?_ 10000 0 10000 rfl (by omega) (by omega) (by omega) (by omega)
  rw [w64 (by omega) (by omega)]
  refine ih _ _ (by omega) (by simpa using h6) (hd.set _ (Int.natCast_nonneg _) (Int.ofNat_lt.2 hq)) (Nat.mod_lt _ hb0) (fun j hj => ?_) ?_
  ·rw [at_set_ne (by omega)]; exact hz j (by omega)
  ·rw [val_drop _ _ _ (by simp; omega), val_drop _ x0 i (by omega), at_set_eq (by omega), List.drop_set, if_pos (by omega), hdd, ← hv]
   have := Nat.div_add_mod (10000 * r + d) b
   generalize (10000 * r + d) / b = q at *
   generalize (10000 * r + d) % b = m at *
   have e : (b : Int) * q + m = 10000 * r + d := by
    have := congrArg (Nat.cast : Nat → Int) this
    rw [Int.natCast_add, Int.natCast_mul] at this; omega
   generalize val 10000 (List.drop (i + 1) x6) = V at *
   clear this ih hz
   grind
theorem divide_ev {a b : Nat} (ha : Ts a) (hb : Ts b) (hb0 : 0 < b) : Ev (fun k => corporaref36_Divide.f k (T a) (T b)) (T (a / b), T (a % b)) := by
 unfold corporaref36_Divide.f
 unfold Ts at ha
 refine Ev.pos (by omega) (Ev.pos (by rw [Int.toNat_natCast]; omega) ?_)
 rw [Int.toNat_natCast, w64 (by omega) (by omega)]
 have := divide_l0 (T a) b a hb hb0 (T_dig a) (T_val a) ha (T a).length (List.replicate (T a).length 0) 0 (Nat.le_refl _) (by simp) (Dig.replicate (by omega) _) hb0 (fun j _ => at_replicate _ j)
  (by rw [List.drop_eq_nil_of_le (by simp), List.drop_eq_nil_of_le (Nat.le_refl _)]; simp [val_nil])
 rwa [T_zero] at this
theorem rgcd_ev (b : Nat) : ∀ a : Nat, Ts a → Ts b → Ev (fun k => corporaref36_Gcd.f k (T a) (T b)) (T (Nat.gcd a b)) := by
 unfold corporaref36_Gcd.f
 induction b using Nat.strongRecOn with
 | _ b ih =>
  intro a ha hb
  by_cases h : b = 0
  ·subst h
   rw [Nat.gcd_zero_right]
   exact Ev.step (fun k => corporaref36_Gcd.l0.eq_2 ..) (Ev.neg (by rw [T_zero]; simp) (Ev.now _))
  ·refine Ev.step (fun k => corporaref36_Gcd.l0.eq_2 ..) (Ev.pos (by have := T_len_pos (n := b) (by omega); omega) (Ev.bind (divide_ev ha hb (by omega)) ?_))
   have hlt := Nat.mod_lt a (show 0 < b by omega)
   rw [gcd_step]
   exact ih (a % b) hlt b hb (hb.mono (by omega))
end Go.Proofs.Ytccgfmjcldifcaa.P
