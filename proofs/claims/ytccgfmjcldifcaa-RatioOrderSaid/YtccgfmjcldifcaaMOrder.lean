/- Floor of a ratio; the texts of ratios: what Format writes, and what Parse reads of it. -/
import Derived.Test.YtccgfmjcldifcaaMEnc
namespace Go.Proofs.Ytccgfmjcldifcaa.P
open Go.RowKit Go.Proofs.YtccgfmjcldifcaaW.PrintWords Go.Proofs.YtccgfmjcldifcaaW.PrintLast Go.Proofs.YtccgfmjcldifcaaW.PrintMore Go.Proofs.Ytccgfmjcldifcaa.Dg
set_option linter.unusedVariables false
def flN (r : Rat) : Nat := if r.num < 0 ∧ 0 < r.num.natAbs % r.den then r.num.natAbs / r.den + 1 else r.num.natAbs / r.den
def flI (r : Rat) : Int := sg (decide (r.num < 0)) (flN r)
def flQ (r : Rat) : Rat := mkRat (flI r) 1
theorem flQ_den (r : Rat) : (flQ r).den = 1 := by
 unfold flQ flI; rw [mk_den _ _ (by omega)]; simp
theorem flI_le (r : Rat) : flI r * r.den ≤ r.num ∧ r.num < (flI r + 1) * r.den := by
 have hp := den_pos r
 have e := Nat.div_add_mod r.num.natAbs r.den
 have hm := Nat.mod_lt r.num.natAbs hp
 rw [Int.add_mul, Int.one_mul]
 unfold flI flN
 generalize r.num.natAbs / r.den = q at *
 generalize r.num.natAbs % r.den = t at *
 by_cases h : r.num < 0
 ·rw [decide_eq_true h]
  show (if _ then -_ else _) * _ ≤ _ ∧ _
  rw [if_pos rfl]
  by_cases g : 0 < t
  ·rw [if_pos ⟨h, g⟩, sg, if_pos rfl, Int.natCast_add, Int.neg_mul, Int.add_mul]
   have e2 : ((r.den * q : Nat) : Int) = (q : Int) * r.den := by rw [Int.natCast_mul, Int.mul_comm]
   omega
  ·rw [if_neg (fun x => g x.2), sg, if_pos rfl, Int.neg_mul]
   have e2 : ((r.den * q : Nat) : Int) = (q : Int) * r.den := by rw [Int.natCast_mul, Int.mul_comm]
   omega
 ·rw [decide_eq_false h, if_neg (fun x => h x.1)]
  show (q : Int) * _ ≤ _ ∧ _ < (q : Int) * _ + _
  have e2 : ((r.den * q : Nat) : Int) = (q : Int) * r.den := by rw [Int.natCast_mul, Int.mul_comm]
  omega
theorem flQ_int (r : Rat) : flQ r = ((flI r : Int) : Rat) := by
 unfold flQ; rw [Rat.mkRat_one]
theorem flQ_le (r : Rat) : flQ r ≤ r := by
 rw [flQ_int, Rat.le_iff, Rat.num_intCast, Rat.den_intCast]
 have := (flI_le r).1
 omega
theorem flQ_gt (r : Rat) : r < flQ r + 1 := by
 have e : flQ r + 1 = ((flI r + 1 : Int) : Rat) := by rw [flQ_int, Rat.intCast_add]; rfl
 rw [e, Rat.lt_iff, Rat.num_intCast, Rat.den_intCast]
 have := (flI_le r).2
 omega
theorem dl_flN {r : Rat} {m : Nat} (hr : Rb m r) : dl (flN r) ≤ m + 1 := by
 have h1 : dl (r.num.natAbs / r.den) ≤ m := Nat.le_trans (dl_mono (Nat.div_le_self _ _)) hr.1
 have h2 := dl_add (r.num.natAbs / r.den) 1
 have h3 : dl 1 ≤ 1 := dl_le (k := 1) (by omega)
 have h4 := den_pos r
 unfold flN
 split
 ·have : dl (r.num.natAbs / r.den + 1) ≤ m + 1 := by
   by_cases g : dl (r.num.natAbs / r.den) = 0
   ·have : max (dl (r.num.natAbs / r.den)) (dl 1) ≤ 1 := by omega
    by_cases g2 : m = 0
    ·have : r.num.natAbs = 0 := by
      have := hr.1
      rcases Nat.eq_zero_or_pos r.num.natAbs with x | x
      ·exact x
      ·have := dl_pos (show r.num.natAbs ≠ 0 by omega); omega
     simp_all
    ·omega
   ·omega
  exact this
 ·omega
theorem read1_ev {r : Rat} {m : Nat} (hr : Rb m r) (hm : m ≤ 20000) : Ev (fun k => ratio_read.f k [R35 r]) ([R88 r], true) := by
 unfold ratio_read.f
 refine Ev.step (fun k => ratio_read.l0.eq_2 ..) (Ev.pos (by simp) (Ev.pos (by decide) (Ev.pos (by simp) (Ev.bind (isratio_ev hr hm) (Ev.pos rfl (Ev.bind (parse_ev (hr.n hm)) (Ev.bind (parse_ev (hr.d hm)) (Ev.pos (by simp) ?_))))))))
 rw [show wrap64 (0 + 1) = 1 by rw [w64 (by omega) (by omega)]; rfl]
 exact Ev.step (fun k => ratio_read.l0.eq_2 ..) (Ev.neg (by simp) (Ev.some rfl))
theorem floor_Q {r : Rat} {m : Nat} (hr : Rb m r) (hm : m ≤ 1000) : Rb (m + 1) (flQ r) ∧ Ev (fun k => ratio_Floor.f k (decide (r.num < 0)) (S r.num.natAbs) (S r.den)) (Q4 (flQ r)) := by
 have b := dl_flN hr
 have d1 : dl 1 ≤ m + 1 := Nat.le_trans (dl_le (k := 1) (by omega)) (by omega)
 have ln := hr.n (by omega)
 have e1 := of_ev (n := 1) (by omega)
 have el := lowQ_ev (a := decide (r.num < 0)) (n := flN r) (d := 1) (m := m + 1) (by omega) (by omega) b d1
 refine ⟨Rb_mk (by omega) b d1, ?_⟩
 unfold ratio_Floor.f
 refine Ev.bind (read1_ev hr (by omega)) (Ev.pos rfl (Ev.pos (by simp) (Ev.bind (div_ev ln.sm (den_pos r)) ?_)))
 show Ev (fun k => if decide (r.num < 0) = true then _ else _) _
 unfold flN at el
 by_cases h : r.num < 0
 ·refine Ev.pos (decide_eq_true h) ?_
  by_cases g : 0 < r.num.natAbs % r.den
  ·rw [if_pos ⟨h, g⟩] at el
   refine Ev.pos ?_ (Ev.bind e1 (Ev.bind (add_ev (ln.mono (Nat.div_le_self _ _)).sm (Lm_small (n := 1) (by omega)).sm) (Ev.bind e1 (Ev.bind el (Ev.some ?_)))))
   ·rcases Nat.eq_zero_or_pos (W (r.num.natAbs % r.den)).length with x | x
    ·have := W_len0.1 (show ((W (r.num.natAbs % r.den)).length : Int) = 0 by omega); omega
    ·show ((W (r.num.natAbs % r.den)).length : Int) > 0
     omega
   ·unfold flQ flI flN; rw [if_pos ⟨h, g⟩]
  ·rw [if_neg (fun x => g x.2)] at el
   refine Ev.neg ?_ (Ev.bind e1 (Ev.bind el (Ev.some ?_)))
   ·have : ((W (r.num.natAbs % r.den)).length : Int) = 0 := W_len0.2 (by omega)
    show ¬ ((W (r.num.natAbs % r.den)).length : Int) > 0
    omega
   ·unfold flQ flI flN; rw [if_neg (fun x => g x.2)]
 ·rw [if_neg (fun x => h x.1)] at el
  refine Ev.neg (by simp [h]) (Ev.bind e1 (Ev.bind el (Ev.some ?_)))
  unfold flQ flI flN; rw [if_neg (fun x => h x.1)]
theorem cut_none {l : List UInt8} (h : ∀ x ∈ l, x ≠ 47) : Lib.index l [47] = -1 := by
 induction l with
 | nil => rfl
 | cons b l ih =>
  have hb := h b List.mem_cons_self
  have e : List.isPrefixOf [47] (b :: l) = false := by simp [List.isPrefixOf, Ne.symm hb]
  unfold Lib.index
  rw [e, ih (fun x hx => h x (List.mem_cons_of_mem _ hx))]; rfl
theorem cut_at {l r : List UInt8} (h : ∀ x ∈ l, x ≠ 47) : Lib.index (l ++ 47 :: r) [47] = l.length := by
 induction l with
 | nil => rfl
 | cons b l ih =>
  have hb := h b List.mem_cons_self
  have e : List.isPrefixOf [47] (b :: (l ++ 47 :: r)) = false := by simp [List.isPrefixOf, Ne.symm hb]
  rw [List.cons_append]
  unfold Lib.index
  rw [e, ih (fun x hx => h x (List.mem_cons_of_mem _ hx))]
  have : (((l.length : Nat) : Int) == -1) = false := beq_eq_false_iff_ne.2 (by omega)
  rw [this, List.length_cons]; simp
theorem S_no {n : Nat} {c : UInt8} (hc : c.toNat < 48) : ∀ x ∈ (S n).data.toList, x ≠ c := by
 intro x hx e
 subst e
 have h1 : ((x.toNat : Nat) : Int) ∈ bytesOf (S n) := by unfold bytesOf; exact List.mem_map.2 ⟨x, hx, rfl⟩
 rw [S_bytes] at h1
 obtain ⟨y, hy, e⟩ := List.mem_map.1 h1
 have := D10_dig n y hy
 omega
theorem ba_eq (s : ByteArray) : (⟨s.data.toList.toArray⟩ : ByteArray) = s := by cases s; simp
theorem cut_S {n : Nat} (h : Lm n) : strings_Cut.f (S n) ⟨#[47]⟩ = some (S n, ⟨#[]⟩, false) := by
 have hs := S_size_le h
 unfold strings_Cut.f Lib.cut
 rw [if_pos (by omega)]
 have e := cut_none (l := (S n).data.toList) (S_no (by decide))
 rw [show (⟨#[47]⟩ : ByteArray).data.toList = [47] from rfl, e, if_neg (by omega)]
theorem cut_S2 {n d : Nat} (h : Lm n) (h2 : Lm d) : strings_Cut.f (S n ++ (⟨#[47]⟩ ++ S d)) ⟨#[47]⟩ = some (S n, S d, true) := by
 have hs := S_size_le h
 have hd := S_size_le h2
 have e0 : (S n ++ (⟨#[47]⟩ ++ S d)).data.toList = (S n).data.toList ++ 47 :: (S d).data.toList := by simp
 have e := cut_at (l := (S n).data.toList) (r := (S d).data.toList) (S_no (by decide))
 unfold strings_Cut.f Lib.cut
 rw [if_pos (by rw [ByteArray.size_append, ByteArray.size_append]; have : (⟨#[47]⟩ : ByteArray).size = 1 := rfl; omega), e0, show (⟨#[47]⟩ : ByteArray).data.toList = [47] from rfl, e, if_pos (by omega)]
 show some ((⟨(List.take _ _).toArray⟩ : ByteArray), (⟨(List.drop _ _).toArray⟩ : ByteArray), _) = _
 rw [Int.toNat_natCast, List.take_left, show List.drop ((S n).data.toList.length + [(47 : UInt8)].length) ((S n).data.toList ++ 47 :: (S d).data.toList) = (S d).data.toList by
  rw [← List.drop_drop, List.drop_left]; rfl, ba_eq, ba_eq]
theorem data_drop (s : ByteArray) (k : Nat) : (s.extract k s.size).data.toList = s.data.toList.drop k := by
 rw [ByteArray.data_extract, Array.toList_extract, List.extract_eq_take_drop, List.take_of_length_le]
 rw [List.length_drop]; exact Nat.le_refl _
theorem data_take (s : ByteArray) (k : Nat) : (s.extract 0 k).data.toList = s.data.toList.take k := by
 rw [ByteArray.data_extract, Array.toList_extract, List.extract_eq_take_drop]; rfl
theorem ba_ext {s t : ByteArray} (h : s.data.toList = t.data.toList) : s = t := by rw [← ba_eq s, h, ba_eq]
theorem pre_minus (s : ByteArray) (h : s.size ≤ 4000000000) : strings_CutPrefix.f (⟨#[45]⟩ ++ s) ⟨#[45]⟩ = some (s, true) := by
 have hz : ((⟨#[45]⟩ : ByteArray) ++ s).size = 1 + s.size := by rw [ByteArray.size_append]; rfl
 have h1 : (⟨#[45]⟩ : ByteArray).size = 1 := rfl
 have e0 : ((⟨#[45]⟩ : ByteArray) ++ s).data.toList = 45 :: s.data.toList := by simp
 have e1 : ((⟨#[45]⟩ : ByteArray) ++ s).extract 0 (((⟨#[45]⟩ : ByteArray).size : Int)).toNat = (⟨#[45]⟩ : ByteArray) := ba_ext (by rw [data_take, e0]; rfl)
 have e2 : ((⟨#[45]⟩ : ByteArray) ++ s).extract (((⟨#[45]⟩ : ByteArray).size : Int)).toNat ((⟨#[45]⟩ : ByteArray) ++ s).size = s := ba_ext (by rw [data_drop, e0]; rfl)
 have hp : stringslite_HasPrefix.f (⟨#[45]⟩ ++ s) ⟨#[45]⟩ = some true := by
  unfold stringslite_HasPrefix.f
  rw [if_pos (by omega), if_pos (by omega), if_pos (by omega), e1, beq_self_eq_true]
 unfold strings_CutPrefix.f stringslite_CutPrefix.f
 rw [hp, Option.bind_some, if_pos rfl, if_pos (by omega), if_pos (by omega), e2]; rfl
theorem pre_none (s : ByteArray) {x : UInt8} {l : List UInt8} (hs : s.data.toList = x :: l) (hx : x ≠ 45) : strings_CutPrefix.f s ⟨#[45]⟩ = some (s, false) := by
 have h1 : (⟨#[45]⟩ : ByteArray).size = 1 := rfl
 have h0 : s.size = l.length + 1 := by
  have : s.data.toList.length = s.size := Array.length_toList
  rw [← this, hs, List.length_cons]
 have e1 : ((s.extract 0 (((⟨#[45]⟩ : ByteArray).size : Int)).toNat).toList == (⟨#[45]⟩ : ByteArray).toList) = false := by
  refine beq_eq_false_iff_ne.2 (fun e => hx ?_)
  rw [ByteArray.toList_eq, ByteArray.toList_eq, data_take, hs] at e
  exact (List.cons.inj e).1
 have hp : stringslite_HasPrefix.f s ⟨#[45]⟩ = some false := by
  unfold stringslite_HasPrefix.f
  rw [if_pos (by omega), if_pos (by omega), if_pos (by omega), e1]
 unfold strings_CutPrefix.f stringslite_CutPrefix.f
 rw [hp]; rfl
theorem S_cons (n : Nat) : ∃ x l, (S n).data.toList = x :: l ∧ x ≠ 45 := by
 cases h : (S n).data.toList with
 | nil =>
  exfalso
  have h1 : (S n).data.toList.length = (S n).size := Array.length_toList
  have h2 := S_size_pos n
  rw [h] at h1; simp at h1; omega
 | cons x l => exact ⟨x, l, rfl, S_no (n := n) (by decide) x (by rw [h]; exact List.mem_cons_self)⟩
def fmt (r : Rat) : ByteArray := if r.num < 0 then (if r.den = 1 then ⟨#[45]⟩ ++ S r.num.natAbs else (⟨#[45]⟩ ++ S r.num.natAbs) ++ (⟨#[47]⟩ ++ S r.den)) else (if r.den = 1 then S r.num.natAbs else S r.num.natAbs ++ (⟨#[47]⟩ ++ S r.den))
theorem format_Q {r : Rat} {m : Nat} (hr : Rb m r) (hm : m ≤ 20000) : Ev (fun k => ratio_Format.f k (decide (r.num < 0)) (S r.num.natAbs) (S r.den)) (fmt r) := by
 have h1 := S_size_le (hr.n hm)
 have h2 := S_size_le (hr.d hm)
 have z1 : ∀ c : UInt8, ∀ s : ByteArray, ((⟨#[c]⟩ : ByteArray) ++ s).size = 1 + s.size := fun c s => by rw [ByteArray.size_append]; rfl
 unfold ratio_Format.f fmt
 refine Ev.bind (isratio_ev hr hm) (Ev.pos rfl ?_)
 by_cases h : r.num < 0
 ·rw [if_pos h]
  refine Ev.pos (decide_eq_true h) (Ev.pos (by omega) ?_)
  by_cases g : r.den = 1
  ·rw [if_pos g]; exact Ev.pos (S_1.2 g) (Ev.now _)
  ·rw [if_neg g]; exact Ev.neg (fun x => g (S_1.1 x)) (Ev.pos (by omega) (Ev.pos (by rw [z1, z1]; omega) (Ev.now _)))
 ·rw [if_neg h]
  refine Ev.neg (by simp [h]) ?_
  by_cases g : r.den = 1
  ·rw [if_pos g]; exact Ev.pos (S_1.2 g) (Ev.now _)
  ·rw [if_neg g]; exact Ev.neg (fun x => g (S_1.1 x)) (Ev.pos (by omega) (Ev.pos (by rw [z1]; omega) (Ev.now _)))
theorem parse_Q {r : Rat} {m : Nat} (hr : Rb m r) (hm : m ≤ 20000) : Ev (fun k => ratio_Parse.f k (fmt r)) (Q4 r) := by
 have h1 := S_size_le (hr.n hm)
 have h2 := S_size_le (hr.d hm)
 have z1 : ∀ c : UInt8, ∀ s : ByteArray, ((⟨#[c]⟩ : ByteArray) ++ s).size = 1 + s.size := fun c s => by rw [ByteArray.size_append]; rfl
 have hi := isratio_ev hr hm
 have mid : ∀ b : Bool, b = decide (r.num < 0) → strings_CutPrefix.f (fmt r) ⟨#[45]⟩ = some ((if r.den = 1 then S r.num.natAbs else S r.num.natAbs ++ (⟨#[47]⟩ ++ S r.den)), b) → Ev (fun k => ratio_Parse.f k (fmt r)) (Q4 r) := fun b hb e => by
  subst hb
  unfold ratio_Parse.f
  refine Ev.bindo e ?_
  by_cases g : r.den = 1
  ·rw [if_pos g]
   rw [g, ← S1_eq] at hi
   refine Ev.bindo (cut_S (hr.n hm)) (Ev.neg (by simp) (Ev.bind hi (Ev.pos rfl (Ev.some ?_))))
   unfold Q4; rw [g, ← S1_eq]
  ·rw [if_neg g]
   exact Ev.bindo (cut_S2 (hr.n hm) (hr.d hm)) (Ev.pos rfl (Ev.bind hi (Ev.pos rfl (Ev.neg (fun x => g (S_1.1 x)) (Ev.some rfl)))))
 by_cases h : r.num < 0
 ·refine mid true (decide_eq_true h).symm ?_
  unfold fmt; rw [if_pos h]
  by_cases g : r.den = 1
  ·rw [if_pos g, if_pos g]; exact pre_minus _ (by omega)
  ·rw [if_neg g, if_neg g, ByteArray.append_assoc]; exact pre_minus _ (by rw [ByteArray.size_append, z1]; omega)
 ·refine mid false (decide_eq_false h).symm ?_
  unfold fmt; rw [if_neg h]
  obtain ⟨x, l, hx, hne⟩ := S_cons r.num.natAbs
  by_cases g : r.den = 1
  ·rw [if_pos g]; exact pre_none _ hx hne
  ·rw [if_neg g]; exact pre_none _ (x := x) (l := l ++ 47 :: (S r.den).data.toList) (by simp [hx]) hne
end Go.Proofs.Ytccgfmjcldifcaa.P
