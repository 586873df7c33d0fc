/- Decimal texts of natural numbers: what a text is, which texts are numbers, and what Valid and Parse come to. -/
import Derived.Test.YtccgfmjcldifcaaMDiv
namespace Go.Proofs.Ytccgfmjcldifcaa.P
open Go.RowKit Go.Proofs.YtccgfmjcldifcaaW.PrintWords Go.Proofs.YtccgfmjcldifcaaW.PrintMore Go.Proofs.Ytccgfmjcldifcaa.Dg
set_option linter.unusedVariables false
theorem bytes_ext {s t : ByteArray} (h : bytesOf s = bytesOf t) : s = t := by
 have h2 : s.data.toList = t.data.toList := by
  unfold bytesOf at h
  have inj : ∀ a b : List UInt8, a.map (fun b => (b.toNat : Int)) = b.map (fun b => (b.toNat : Int)) → a = b := by
   intro a
   induction a with
   | nil => intro b hb; cases b <;> simp at hb ⊢
   | cons x xs ih =>
    intro b hb
    cases b with
    | nil => simp at hb
    | cons y ys =>
     simp only [List.map_cons, List.cons.injEq] at hb
     rw [ih ys hb.2, UInt8.toNat_inj.1 (by omega : x.toNat = y.toNat)]
  exact inj _ _ h
 have : s.data = t.data := Array.toList_inj.1 h2
 cases s; cases t; cases this; rfl
def Byt (l : List Int) : Prop := ∀ x ∈ l, 0 ≤ x ∧ x < 256
theorem bytes_strOf {l : List Int} (h : Byt l) : bytesOf (strOfNums l) = l := by
 unfold bytesOf
 rw [strOfNums_data, List.map_map]
 conv => rhs; rw [← List.map_id l]
 refine List.map_congr_left (fun x hx => ?_)
 have := h x hx
 simp only [Function.comp]
 rw [UInt8.toNat_ofNat', Nat.mod_eq_of_lt (by omega)]
 show ((x.toNat : Nat) : Int) = x
 omega
theorem bt_eq (s : ByteArray) (i : Int) : bt s i = at_ (bytesOf s) i.toNat := (rd_bytesOf s i).symm
theorem size_eq (s : ByteArray) : s.size = (bytesOf s).length := (bytesOf_length s).symm
def D10 (n : Nat) : List Int := if n = 0 then [0] else (dg 10 n).reverse
def S (n : Nat) : ByteArray := strOfNums ((D10 n).map (48 + ·))
def dl (n : Nat) : Nat := (dg 10 n).length
def Lm (n : Nat) : Prop := dl n ≤ 20000
theorem D10_dig (n : Nat) : Dig 10 (D10 n) := by
 unfold D10
 split
 ·exact Dig.cons (by omega) (by omega) (Dig.nil _)
 ·intro x hx; exact dig_dg (B := 10) (by omega) n x (List.mem_reverse.1 hx)
theorem S_bytes (n : Nat) : bytesOf (S n) = (D10 n).map (48 + ·) := by
 refine bytes_strOf (fun x hx => ?_)
 obtain ⟨y, hy, rfl⟩ := List.mem_map.1 hx
 have := D10_dig n y hy
 omega
theorem D10_zero : D10 0 = [0] := rfl
theorem D10_pos {n : Nat} (h : n ≠ 0) : D10 n = (dg 10 n).reverse := if_neg h
theorem S_size (n : Nat) : (S n).size = (D10 n).length := by rw [size_eq, S_bytes, List.length_map]
theorem D10_len {n : Nat} (h : n ≠ 0) : (D10 n).length = dl n := by rw [D10_pos h, List.length_reverse]; rfl
theorem dl_pos {n : Nat} (h : n ≠ 0) : 0 < dl n := by
 unfold dl
 rcases Nat.eq_zero_or_pos (dg 10 n).length with g | g
 ·exact absurd ((dg_eq_nil (B := 10) (by omega)).1 (List.length_eq_zero_iff.1 g)) h
 ·exact g
theorem dl_zero : dl 0 = 0 := by unfold dl; rw [dg_zero]; rfl
theorem S_size_le {n : Nat} (h : Lm n) : (S n).size ≤ 20000 := by
 rw [S_size]
 by_cases h0 : n = 0
 ·subst h0; rw [D10_zero]; simp
 ·rw [D10_len h0]; exact h
theorem S_size_pos (n : Nat) : 0 < (S n).size := by
 rw [S_size]
 by_cases h0 : n = 0
 ·subst h0; rw [D10_zero]; simp
 ·rw [D10_len h0]; exact dl_pos h0
def dv (l : List Int) : Int := val 10 l.reverse
theorem dv_snoc (l : List Int) (x : Int) : dv (l ++ [x]) = 10 * dv l + x := by
 unfold dv; rw [List.reverse_append, List.reverse_singleton, List.singleton_append, val_cons]; omega
theorem dv_nil : dv [] = 0 := rfl
theorem dv_D10 (n : Nat) : dv (D10 n) = n := by
 unfold dv
 by_cases h : n = 0
 ·subst h; rfl
 ·rw [D10_pos h, List.reverse_reverse]; exact val_dg (B := 10) (by omega) n
theorem D10_of {l : List Int} (hd : Dig 10 l) (hl : 0 < l.length) (hz : l.length = 1 ∨ at_ l 0 ≠ 0) : ∃ n : Nat, dv l = n ∧ l = D10 n := by
 have hdr : Dig 10 l.reverse := fun x hx => hd x (List.mem_reverse.1 hx)
 obtain ⟨n, hn⟩ : ∃ n : Nat, dv l = n := ⟨(dv l).toNat, by have : 0 ≤ dv l := val_nonneg (by omega) hdr; omega⟩
 refine ⟨n, hn, ?_⟩
 match l, hl with
 | x :: xs, _ =>
  by_cases hx : x = 0
  ·have : xs = [] := by
    rcases hz with h | h
    ·exact List.length_eq_zero_iff.1 (by simpa using h)
    ·exact absurd hx h
   subst this; subst hx
   have : n = 0 := by have : dv [0] = 0 := rfl; omega
   subst this; rfl
  ·have hnr : Nrm (x :: xs).reverse := by
    intro h
    rw [List.getLast_reverse]; simpa using hx
   have h1 := dg_unique (B := 10) (by omega) n hdr hnr hn
   have h0 : n ≠ 0 := by
    rintro rfl
    rw [dg_zero] at h1; simp at h1
   rw [D10_pos h0, ← h1, List.reverse_reverse]
theorem D10_head {n : Nat} (h : 1 < (D10 n).length) : at_ (D10 n) 0 ≠ 0 := by
 by_cases h0 : n = 0
 ·subst h0; simp [D10_zero] at h
 ·rw [D10_pos h0] at h ⊢
  have hne : dg 10 n ≠ [] := fun e => h0 ((dg_eq_nil (B := 10) (by omega)).1 e)
  have := nrm_dg (B := 10) (by omega) n hne
  unfold at_
  rw [List.getD_eq_getElem?_getD, List.getElem?_reverse (by rw [List.length_reverse] at h; omega)]
  rw [List.getLast_eq_getElem] at this
  rw [List.getElem?_eq_getElem (by rw [List.length_reverse] at h; omega)]
  simpa using this
theorem S_inj {n m : Nat} (h : S n = S m) : n = m := by
 have h1 : bytesOf (S n) = bytesOf (S m) := by rw [h]
 rw [S_bytes, S_bytes] at h1
 have h2 : D10 n = D10 m := by
  have := congrArg (List.map (fun x : Int => x - 48)) h1
  rw [List.map_map, List.map_map] at this
  have e : ((fun x : Int => x - 48) ∘ fun x => 48 + x) = id := by funext x; simp only [Function.comp, id]; omega
  rwa [e, List.map_id, List.map_id] at this
 have h3 := dv_D10 n
 rw [h2, dv_D10] at h3; omega
def digs (l : List Int) : Bool := l.all fun x => decide (48 ≤ x) && decide (x ≤ 57)
def vld (s : ByteArray) : Bool := decide (0 < s.size) && (decide (s.size ≤ 20000) && ((decide (s.size = 1) || !(bt s 0 == 48)) && digs (bytesOf s)))
theorem digs_dig {l : List Int} (h : digs l = true) : Dig 10 (l.map (· - 48)) := by
 intro x hx
 obtain ⟨y, hy, rfl⟩ := List.mem_map.1 hx
 unfold digs at h
 have := List.all_eq_true.1 h y hy
 simp only [Bool.and_eq_true, decide_eq_true_eq] at this
 omega
theorem digs_of {l : List Int} (h : Dig 10 l) : digs (l.map (48 + ·)) = true := by
 unfold digs
 rw [List.all_eq_true]
 intro y hy
 obtain ⟨x, hx, rfl⟩ := List.mem_map.1 hy
 have := h x hx
 simp only [Bool.and_eq_true, decide_eq_true_eq]; omega
theorem vld_S {n : Nat} (h : Lm n) : vld (S n) = true := by
 unfold vld
 have h1 := S_size_pos n
 have h2 := S_size_le h
 have h3 : digs (bytesOf (S n)) = true := by rw [S_bytes]; exact digs_of (D10_dig n)
 rw [decide_eq_true h1, decide_eq_true h2, h3, Bool.and_true, Bool.true_and, Bool.true_and]
 by_cases h4 : (S n).size = 1
 ·rw [decide_eq_true h4]; rfl
 ·have h5 : 1 < (D10 n).length := by rw [← S_size]; omega
  have h6 := D10_head h5
  have h7 : bt (S n) 0 = 48 + at_ (D10 n) 0 := by
   rw [bt_eq, S_bytes]
   show at_ ((D10 n).map (48 + ·)) 0 = _
   match D10 n, h5 with
   | x :: xs, _ => rfl
  rw [h7]
  have : ((48 + at_ (D10 n) 0) == 48) = false := by rw [beq_eq_false_iff_ne]; omega
  rw [this]; simp
theorem at_drop {l : List Int} {i : Nat} (h : i < l.length) : l.drop i = at_ l i :: l.drop (i + 1) := by
 rw [List.drop_eq_getElem_cons h]
 unfold at_; rw [List.getD_eq_getElem?_getD, List.getElem?_eq_getElem h]; rfl
theorem valid_l0 (s : ByteArray) (hs : s.size < 1099511627776) (d : Nat) : ∀ i : Nat, i + d = s.size → Ev (fun k => ratio_Valid.l0 k s (i : Int)) (digs ((bytesOf s).drop i)) := by
 have hl := size_eq s
 induction d with
 | zero =>
  intro i hi
  refine Ev.step (fun k => ratio_Valid.l0.eq_2 ..) (Ev.neg (by omega) (Ev.some ?_))
  rw [List.drop_eq_nil_of_le (by omega)]; rfl
 | succ d ih =>
  intro i hi
  refine Ev.step (fun k => ratio_Valid.l0.eq_2 ..) (Ev.pos (by omega) (Ev.pos (by omega) ?_))
  rw [bt_eq, Int.toNat_natCast, at_drop (show i < (bytesOf s).length by omega)]
  have e : digs (at_ (bytesOf s) i :: (bytesOf s).drop (i + 1)) = (decide (48 ≤ at_ (bytesOf s) i) && decide (at_ (bytesOf s) i ≤ 57) && digs ((bytesOf s).drop (i + 1))) := by unfold digs; rw [List.all_cons]
  rw [e]
  by_cases h1 : at_ (bytesOf s) i < 48
  ·refine Ev.pos h1 (Ev.some ?_)
   rw [decide_eq_false (show ¬ 48 ≤ at_ (bytesOf s) i by omega)]; rfl
  ·refine Ev.neg h1 ?_
   by_cases h2 : at_ (bytesOf s) i > 57
   ·refine Ev.pos h2 (Ev.some ?_)
    rw [decide_eq_false (show ¬ at_ (bytesOf s) i ≤ 57 by omega)]; simp
   ·refine Ev.neg h2 ?_
    rw [decide_eq_true (show 48 ≤ at_ (bytesOf s) i by omega), decide_eq_true (show at_ (bytesOf s) i ≤ 57 by omega), w64i (by omega)]
    exact ih (i + 1) (by omega)
theorem valid_ev {s : ByteArray} (hs : s.size < 1099511627776) : Ev (fun k => ratio_Valid.f k s) (vld s) := by
 unfold ratio_Valid.f vld
 have last : s.size ≤ 20000 → 0 < s.size → Ev (fun k => ratio_Valid.j0 k s false) (digs (bytesOf s)) := fun h0 h1 =>
  Ev.step (fun k => ratio_Valid.j0.eq_2 ..) (Ev.neg (by simp) (valid_l0 s hs s.size 0 (by omega)))
 have no : Ev (fun k => ratio_Valid.j0 k s true) false := Ev.step (fun k => ratio_Valid.j0.eq_2 ..) (Ev.pos rfl (Ev.now _))
 by_cases h0 : s.size = 0
 ·rw [decide_eq_false (by omega)]; exact Ev.pos (by omega) no
 ·refine Ev.neg (by omega) ?_
  rw [decide_eq_true (by omega)]
  by_cases h1 : s.size > 20000
  ·rw [decide_eq_false (by omega)]; exact Ev.pos (by omega) no
  ·refine Ev.neg (by omega) ?_
   rw [decide_eq_true (by omega)]
   by_cases h2 : s.size = 1
   ·rw [decide_eq_true h2]
    exact Ev.neg (by omega) (last (by omega) (by omega))
   ·rw [decide_eq_false h2]
    refine Ev.pos (by omega) (Ev.pos (by omega) ?_)
    rcases hb : (bt s 0 == 48) with _ | _
    ·exact last (by omega) (by omega)
    ·exact no
end Go.Proofs.Ytccgfmjcldifcaa.P
