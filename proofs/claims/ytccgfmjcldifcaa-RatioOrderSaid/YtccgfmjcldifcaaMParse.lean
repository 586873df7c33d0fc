/- What Parse and String come to: the digits of a number out of its text, and its text out of them. -/
import Derived.Test.YtccgfmjcldifcaaMDec
namespace Go.Proofs.Ytccgfmjcldifcaa.P
open Go.RowKit Go.Proofs.YtccgfmjcldifcaaW.PrintWords Go.Proofs.YtccgfmjcldifcaaW.PrintMore Go.Proofs.Ytccgfmjcldifcaa.Dg
set_option linter.unusedVariables false
theorem dg_of {B : Nat} (hB : 2 ≤ B) {l : List Int} {n : Nat} (hd : Dig B l) (hv : val B l = n) (hg : ∀ m, l.length = m + 1 → B ^ m ≤ n) : l = dg B n := by
 refine dg_unique hB n hd (fun hne => ?_) hv
 intro h0
 have hl : 0 < l.length := List.length_pos_iff.2 hne
 obtain ⟨m, hm⟩ : ∃ m, l.length = m + 1 := ⟨_, (Nat.succ_pred_eq_of_pos hl).symm⟩
 have h1 := hg m hm
 have h2 : l = l.take m ++ [0] := by
  have := List.dropLast_concat_getLast hne
  rw [h0, List.dropLast_eq_take, hm, Nat.add_sub_cancel] at this
  exact this.symm
 rw [h2, val_append] at hv
 have h3 := val_lt (B := (B : Int)) (by omega) (hd.take m)
 rw [List.length_take, hm, Nat.min_eq_left (by omega), ← Int.natCast_pow] at h3
 simp only [val_cons, val_nil] at hv
 rw [show (B : Int) ^ (l.take m).length * (0 + B * 0) = 0 by simp] at hv
 omega
theorem W_of {l : List Int} {n : Nat} (hd : Dig 4294967296 l) (hv : val 4294967296 l = n) (hg : ∀ m, l.length = m + 1 → 4294967296 ^ m ≤ n) : l = W n := dg_of (B := 4294967296) (by omega) hd hv hg
theorem W_ge {n m : Nat} (h : (W n).length = m + 1) : 4294967296 ^ m ≤ n := by
 have h0 : 0 < n := by
  rcases Nat.eq_zero_or_pos n with g | g
  ·subst g; rw [W_zero] at h; simp at h
  ·exact g
 have := W_len_le h0
 rw [h, Nat.add_sub_cancel] at this
 exact this
theorem W_len_dl (n : Nat) : (W n).length ≤ dl n := by
 refine W_len_of ?_
 have h1 : n < 10 ^ dl n := lt_pow_len (B := 10) (by omega) n
 exact Nat.lt_of_lt_of_le h1 (Nat.pow_le_pow_left (by omega) _)
theorem Lm.sm {n : Nat} (h : Lm n) : Sm n := by
 unfold Sm; have := W_len_dl n; unfold Lm at h; omega
theorem dv_take_succ {l : List Int} {i : Nat} (h : i < l.length) : dv (l.take (i + 1)) = 10 * dv (l.take i) + at_ l i := by
 rw [List.take_succ_eq_append_getElem h, dv_snoc]
 have : at_ l i = l[i] := by unfold at_; rw [List.getD_eq_getElem?_getD, List.getElem?_eq_getElem h]; rfl
 rw [this]
theorem parse_l2 (s : ByteArray) (i : Int) (bs : Int) (X : List Int) (R : List Int) (n0 : Int) (m : Nat) (hX : X.length < 35184372088831) (b0 : 1 ≤ bs) (b1 : bs ≤ 1000000000) (hm : bs * val 4294967296 X + n0 = m) (n00 : 0 ≤ n0)
  (hW : ∀ q, X.length = q + 1 → 4294967296 ^ q ≤ m) (next : Ev (fun k => bignat_Parse.l0 k s (W m) i) R) (d : Nat) :
  ∀ (j : Nat) (x3 : List Int) (n : Int), j + d = X.length → x3.length = X.length → Dig 4294967296 x3 → 0 ≤ n → n < bs → (∀ q, j ≤ q → at_ x3 q = at_ X q) → val 4294967296 x3 + n * 4294967296 ^ j = val 4294967296 X + (bs - 1) * val 4294967296 (X.take j) + n0 →
  Ev (fun k => bignat_Parse.l2 k s x3 i n bs (X.length : Int) (j : Int)) R := by
 induction d with
 | zero =>
  intro j x3 n hj h3 hd h0 h1 hx hv
  obtain rfl : j = X.length := by omega
  rw [val_full (Nat.le_refl _)] at hv
  have hv' : val 4294967296 x3 + n * 4294967296 ^ X.length = m := by rw [hv, ← hm]; grind
  refine Ev.step (fun k => bignat_Parse.l2.eq_2 ..) (Ev.neg (by omega) ?_)
  by_cases hn : n > 0
  ·refine Ev.pos hn (Ev.pos (by omega) ?_)
   rw [Int.emod_eq_of_lt h0 (by omega)]
   have e : x3 ++ [n] = W m := by
    refine W_of (hd.append (Dig.cons h0 (by omega) (Dig.nil _))) ?_ (fun q hq => ?_)
    ·rw [val_append, h3, val_cons, val_nil, ← hv']; grind
    ·have hq' : q = X.length := by simp at hq; omega
     have g1 := val_nonneg (B := 4294967296) (by omega) hd
     have g2 : (1 : Int) * 4294967296 ^ X.length ≤ n * 4294967296 ^ X.length := Int.mul_le_mul_of_nonneg_right (by omega) (Int.pow_nonneg (by omega))
     have g3 : ((4294967296 ^ q : Nat) : Int) ≤ m := by
      rw [Int.natCast_pow, hq', ← hv']
      rw [Int.one_mul] at g2
      have g4 : (((4294967296 : Nat) : Int)) = 4294967296 := rfl
      rw [g4]; omega
     omega
   rw [e]; exact next
  ·refine Ev.neg hn ?_
   have hn0 : n = 0 := by omega
   subst hn0
   rw [Int.zero_mul, Int.add_zero] at hv'
   have e : x3 = W m := W_of hd hv' (fun q hq => hW q (by omega))
   rw [e]; exact next
 | succ d ih =>
  intro j x3 n hj h3 hd h0 h1 hx hv
  have a := hd.at (by omega) j
  have haX : at_ x3 j = at_ X j := hx j (Nat.le_refl _)
  have g1 : at_ x3 j * bs ≤ 4294967295 * 1000000000 := mul_lt_sq a.1 (by omega) (by omega) b1
  have g0 : 0 ≤ at_ x3 j * bs := Int.mul_nonneg a.1 (by omega)
  have g2 : at_ x3 j * bs ≤ 4294967295 * bs := Int.mul_le_mul_of_nonneg_right (by omega) (by omega)
  refine Ev.step (fun k => bignat_Parse.l2.eq_2 ..) (Ev.pos (by omega) (Ev.pos (by omega) (Ev.pos (by omega) ?_)))
  rw [rd_nat, Int.toNat_natCast, u64 (x := at_ x3 j) (by omega) (by omega), u64 (x := at_ x3 j * bs) (by omega) (by omega), u64 (x := n + at_ x3 j * bs) (by omega) (by omega), w64i (by omega)]
  refine ih (j + 1) _ _ (by omega) (by simpa using h3) (hd.set _ (by omega) (by omega)) (by omega) (by omega) (fun q hq => by rw [at_set_ne (by omega)]; exact hx q (by omega)) ?_
  rw [val_set _ _ _ _ (by omega), val_take_succ, Int.pow_succ]
  have e1 := Int.emod_add_mul_ediv (n + at_ x3 j * bs) 4294967296
  generalize (n + at_ x3 j * bs) % 4294967296 = v at *
  generalize (n + at_ x3 j * bs) / 4294967296 = w at *
  rw [haX] at e1 ⊢
  clear ih next hx hW
  grind
theorem parse_l1 (s : ByteArray) (hs : s.size < 1099511627776) (hdg : digs (bytesOf s) = true) (R : List Int) (i0 : Nat) (A : Nat) (hA : (W A).length < 1099511627776) (hA2 : dv (((bytesOf s).map (· - 48)).take i0) = A)
  (next : ∀ i : Nat, i0 < i → i ≤ s.size → ∀ m : Nat, dv (((bytesOf s).map (· - 48)).take i) = m → (W m).length ≤ (W A).length + 1 → Ev (fun k => bignat_Parse.l0 k s (W m) (i : Int)) R) (c : Nat) :
  ∀ (i : Nat) (n : Int) (e : Nat), e + c = 9 → i0 + e = i → i ≤ s.size → i0 < s.size → 0 ≤ n → n < 10 ^ e → dv (((bytesOf s).map (· - 48)).take i) = A * 10 ^ e + n →
  Ev (fun k => bignat_Parse.l1 k s (W A) (i : Int) n (10 ^ e)) R := by
 have hl := size_eq s
 have hdd := digs_dig hdg
 -- the end of a chunk
 have fin : ∀ (i : Nat) (n : Int) (e : Nat), e ≤ 9 → 0 < e → i0 + e = i → i ≤ s.size → 0 ≤ n → n < 10 ^ e → dv (((bytesOf s).map (· - 48)).take i) = A * 10 ^ e + n →
   Ev (fun k => bignat_Parse.j2 k s (W A) (i : Int) n (10 ^ e)) R := by
  intro i n e he0 he1 hi hi2 h0 h1 hv
  have hp : (10 : Int) ^ e ≤ 1000000000 := by
   have : (10 : Nat) ^ e ≤ 10 ^ 9 := Nat.pow_le_pow_right (by omega) he0
   have h2 := Int.ofNat_le.2 this
   rw [Int.natCast_pow] at h2
   exact h2
  have hp1 : (1 : Int) ≤ 10 ^ e := Int.pow_pos (by omega)
  obtain ⟨nn, rfl⟩ : ∃ nn : Nat, n = nn := ⟨n.toNat, by omega⟩
  have hm : dv (((bytesOf s).map (· - 48)).take i) = ((A * 10 ^ e + nn : Nat) : Int) := by rw [hv]; simp
  have hAm : A ≤ A * 10 ^ e + nn := by
   have := Nat.le_mul_of_pos_right A (Nat.pow_pos (n := e) (show 0 < 10 by omega)); omega
  refine Ev.step (fun k => bignat_Parse.j2.eq_2 ..) ?_
  refine parse_l2 s i (10 ^ e) (W A) R nn (A * 10 ^ e + nn) (by omega) hp1 hp (by rw [W_val]; simp only [Int.natCast_add, Int.natCast_mul, Int.natCast_pow]; have : ((10 : Nat) : Int) = 10 := rfl; rw [this]; grind) h0 (fun q hq => ?_) (next i (by omega) hi2 _ hm ?_) (W A).length 0 (W A) nn (by omega) rfl (W_dig _) h0 h1 (fun _ _ => rfl) (by simp [val_nil])
  ·exact Nat.le_trans (W_ge hq) hAm
  ·refine W_len_of ?_
   rw [Nat.pow_succ]
   have g1 := W_len A
   have g2 : 10 ^ e ≤ 4294967296 := by
    have : (10 : Nat) ^ e ≤ 10 ^ 9 := Nat.pow_le_pow_right (by omega) he0
    have e9 : (10 : Nat) ^ 9 = 1000000000 := by decide
    omega
   have g3 : nn < 10 ^ e := by
    have := h1
    rw [show (10 : Int) ^ e = ((10 ^ e : Nat) : Int) by rw [Int.natCast_pow]; rfl] at this
    omega
   have g4 := Nat.mul_le_mul_right (10 ^ e) (show A + 1 ≤ 4294967296 ^ (W A).length by omega)
   have g5 := Nat.mul_le_mul_left (4294967296 ^ (W A).length) g2
   rw [Nat.add_mul, Nat.one_mul] at g4
   omega
 induction c with
 | zero =>
  intro i n e he hi hi2 hi3 h0 h1 hv
  obtain rfl : e = 9 := by omega
  refine Ev.step (fun k => bignat_Parse.l1.eq_2 ..) ?_
  by_cases hx : i < s.size
  ·exact Ev.pos (by omega) (Ev.neg (by decide) (fin i n 9 (by omega) (by omega) hi hi2 h0 h1 hv))
  ·exact Ev.neg (by omega) (fin i n 9 (by omega) (by omega) hi hi2 h0 h1 hv)
 | succ c ih =>
  intro i n e he hi hi2 hi3 h0 h1 hv
  refine Ev.step (fun k => bignat_Parse.l1.eq_2 ..) ?_
  by_cases hx : i < s.size
  ·have hp : (10 : Int) ^ e ≤ 100000000 := by
    have : (10 : Nat) ^ e ≤ 10 ^ 8 := Nat.pow_le_pow_right (by omega) (by omega)
    have h2 := Int.ofNat_le.2 this
    rw [Int.natCast_pow] at h2
    exact h2
   have hp1 : (1 : Int) ≤ 10 ^ e := Int.pow_pos (by omega)
   have hll : ((bytesOf s).map (· - 48)).length = s.size := by rw [List.length_map, hl]
   have hb : at_ ((bytesOf s).map (· - 48)) i = bt s (i : Int) - 48 := by
    rw [bt_eq, Int.toNat_natCast]
    unfold at_
    rw [List.getD_eq_getElem?_getD, List.getD_eq_getElem?_getD, List.getElem?_map, List.getElem?_eq_getElem (show i < (bytesOf s).length by omega)]
    rfl
   have hdi := hdd.at (by omega) i
   rw [hb] at hdi
   refine Ev.pos (by omega) (Ev.pos (by omega) (Ev.pos (by omega) ?_))
   rw [u64 (x := 10 * n) (by omega) (by omega), Int.emod_eq_of_lt (a := bt s (i : Int) - 48) (by omega) (by omega), u64 (x := 10 * n + (bt s (i : Int) - 48)) (by omega) (by omega), u64 (x := 10 * 10 ^ e) (by omega) (by omega), w64i (by omega), show (10 : Int) * 10 ^ e = 10 ^ (e + 1) by rw [Int.pow_succ]; omega]
   refine ih (i + 1) _ (e + 1) (by omega) (by omega) (by omega) hi3 (by omega) (by rw [Int.pow_succ]; omega) ?_
   rw [dv_take_succ (by omega), hv, hb, Int.pow_succ]; grind
  ·refine Ev.neg (by omega) (fin i n e (by omega) (by omega) hi hi2 h0 h1 hv)
theorem parse_l0 (s : ByteArray) (hs : s.size < 1099511627776) (hdg : digs (bytesOf s) = true) (N : Nat) (hN : dv ((bytesOf s).map (· - 48)) = N) (d : Nat) :
  ∀ (i : Nat), s.size - i = d → i ≤ s.size → ∀ A : Nat, dv (((bytesOf s).map (· - 48)).take i) = A → (W A).length ≤ i → Ev (fun k => bignat_Parse.l0 k s (W A) (i : Int)) (W N) := by
 have hll : ((bytesOf s).map (· - 48)).length = s.size := by rw [List.length_map, size_eq s]
 induction d using Nat.strongRecOn with
 | _ d ih =>
  intro i hi hi2 A hA hAl
  refine Ev.step (fun k => bignat_Parse.l0.eq_2 ..) ?_
  by_cases hx : i < s.size
  ·refine Ev.pos (by omega) ?_
   refine parse_l1 s hs hdg (W N) i A (by omega) hA (fun i' hi' hi2' m hm hml => ih (s.size - i') (by omega) i' rfl hi2' m hm (by omega)) 9 i 0 0 (by omega) (by omega) hi2 hx (by omega) (by simp) (by rw [hA]; simp)
  ·refine Ev.neg (by omega) (Ev.some ?_)
   rw [List.take_of_length_le (by omega), hN] at hA
   rw [show A = N by omega]
theorem parse_ev {n : Nat} (h : Lm n) : Ev (fun k => bignat_Parse.f k (S n)) (W n) := by
 have hs := S_size_le h
 have hb : (bytesOf (S n)).map (· - 48) = D10 n := by
  rw [S_bytes, List.map_map]
  have e : ((fun x : Int => x - 48) ∘ fun x => 48 + x) = id := by funext x; simp only [Function.comp, id]; omega
  rw [e, List.map_id]
 have := parse_l0 (S n) (by omega) (by rw [S_bytes]; exact digs_of (D10_dig n)) n (by rw [hb]; exact dv_D10 n) (S n).size 0 rfl (by omega) 0 (by rw [List.take_zero]; rfl) (by rw [W_zero]; simp)
 rw [W_zero] at this
 exact this
end Go.Proofs.Ytccgfmjcldifcaa.P
