/- What lowest, Make and the tape come to; the known examples of chapter 36. -/
import Derived.Test.YtccgfmjcldifcaaMOps
namespace Go.Proofs.Ytccgfmjcldifcaa.P
open Go.RowKit Go.Proofs.YtccgfmjcldifcaaW.PrintWords Go.Proofs.YtccgfmjcldifcaaW.PrintMore Go.Proofs.Ytccgfmjcldifcaa.Dg
set_option linter.unusedVariables false
def low (neg : Bool) (n d : Nat) : Bool × ByteArray × ByteArray × Int := (neg && decide (n ≠ 0), S (n / Nat.gcd n d), S (d / Nat.gcd n d), 0)
theorem lowest_ev {neg : Bool} {n d : Nat} (hn : Sm n) (hd : Sm d) (h0 : 0 < d) (h1 : Lm (n / Nat.gcd n d)) (h2 : Lm (d / Nat.gcd n d)) : Ev (fun k => ratio_number_lowest.f k neg (W n) (W d)) (low neg n d) := by
 unfold ratio_number_lowest.f low
 have hg : 0 < Nat.gcd n d := Nat.gcd_pos_of_pos_right n h0
 refine Ev.bind (gcd_ev d n hn hd) (Ev.bind (div_ev hn hg) (Ev.bind (div_ev hd hg) (Ev.bind (text_ev h1) (Ev.pos rfl (Ev.bind (text_ev h2) (Ev.pos rfl ?_))))))
 have e : decide (0 < (W (n / Nat.gcd n d)).length) = decide (n ≠ 0) := by
  rw [decide_eq_decide]
  constructor
  ·rintro h rfl
   rw [Nat.zero_div, W_zero] at h; simp at h
  ·intro h
   have := Nat.div_pos (Nat.gcd_le_left d (show 0 < n by omega)) hg
   exact W_len_pos this
 rw [e]
 cases neg
 ·exact Ev.neg (by simp) (Ev.now _)
 ·exact Ev.pos rfl (Ev.now _)
theorem size_ev {x : Int} (h0 : -9223372036854775808 ≤ x) (h1 : x < 9223372036854775808) : Ev (fun k => ratio_size.f k x) (W x.natAbs) := by
 unfold ratio_size.f
 by_cases h : x < 0
 ·refine Ev.pos h ?_
  have e : IntKind.u64.wrap (-(IntKind.u64.wrap x)) = (x.natAbs : Int) := by rw [wrap_u64, wrap_u64]; omega
  rw [e]
  exact Ev.bind (of_ev (by omega)) (Ev.now _)
 ·refine Ev.neg h ?_
  have e : IntKind.u64.wrap x = (x.natAbs : Int) := by rw [wrap_u64]; omega
  rw [e]
  exact Ev.bind (of_ev (by omega)) (Ev.now _)
theorem Lm_u64 {n : Nat} (h : n < 18446744073709551616) : Lm n := by
 unfold Lm
 have : dl n ≤ 20 := dl_le (Nat.lt_of_lt_of_le h (by decide))
 omega
theorem make_ev {x y : Int} (h0 : -9223372036854775808 ≤ x) (h1 : x < 9223372036854775808) (h2 : -9223372036854775808 ≤ y) (h3 : y < 9223372036854775808) :
  Ev (fun k => ratio_Make.f k x y) (if y = 0 then (false, ⟨#[]⟩, ⟨#[]⟩, 25) else low (decide (x < 0) != decide (y < 0)) x.natAbs y.natAbs) := by
 unfold ratio_Make.f
 by_cases h : y = 0
 ·rw [if_pos h]; exact Ev.pos h (Ev.now _)
 ·rw [if_neg h]
  have hx : Lm x.natAbs := Lm_u64 (by omega)
  have hy : Lm y.natAbs := Lm_u64 (by omega)
  exact Ev.neg h (Ev.bind (size_ev h0 h1) (Ev.bind (size_ev h2 h3) (Ev.bind (lowest_ev hx.sm hy.sm (by omega) (hx.mono (Nat.div_le_self _ _)) (hy.mono (Nat.div_le_self _ _))) (Ev.some rfl))))
def TapeOk (l : List Int) (p : Int) : Prop := 0 ≤ p ∧ p ≤ l.length ∧ l.length ≤ 120
theorem new_some (l : List Int) : ∃ l', corporamade_New.f l = some (l', 0) ∧ TapeOk l' 0 := by
 unfold corporamade_New.f
 by_cases h : (l.length : Int) > 120
 ·exact ⟨l.take 120, by rw [if_pos h, if_pos (by omega)], by omega, by omega, by rw [List.length_take]; omega⟩
 ·exact ⟨l, by rw [if_neg h], by omega, by omega, by omega⟩
theorem mod_some {x n : Int} (h0 : 1 ≤ n) (h1 : n < 4611686018427387904) : ∃ r, corporamade_Mod.f x n = some r ∧ 0 ≤ r ∧ r < n := by
 unfold corporamade_Mod.f
 have a := Int.tmod_lt_of_pos x (show 0 < n by omega)
 have b := Int.lt_tmod_of_pos x (show 0 < n by omega)
 rw [if_neg (by omega), if_neg (by omega)]
 by_cases h : Int.tmod x n < 0
 ·exact ⟨_, if_pos h, by rw [w64 (by omega) (by omega)]; omega, by rw [w64 (by omega) (by omega)]; omega⟩
 ·exact ⟨_, if_neg h, by omega, by omega⟩
theorem next_some {l : List Int} {p n : Int} (hp : TapeOk l p) (h0 : 1 ≤ n) (h1 : n < 4611686018427387904) : ∃ r p', corporamade_Tape_Next.f l p n = some (r, p') ∧ 0 ≤ r ∧ r < n ∧ TapeOk l p' := by
 obtain ⟨p0, p1, p2⟩ := hp
 unfold corporamade_Tape_Next.f
 by_cases h : p ≥ (l.length : Int)
 ·exact ⟨0, p, if_pos h, by omega, by omega, p0, p1, p2⟩
 ·rw [if_neg h, w64 (x := p + 1) (by omega) (by omega), w64 (x := p + 1 - 1) (by omega) (by omega), if_pos (by omega), if_pos (by omega)]
  obtain ⟨r, hr, r0, r1⟩ := mod_some (x := rd l (p + 1 - 1)) h0 h1
  exact ⟨r, p + 1, by rw [hr]; rfl, r0, r1, by omega, by omega, p2⟩
theorem bytes_append (a b : ByteArray) : bytesOf (a ++ b) = bytesOf a ++ bytesOf b := by
 unfold bytesOf
 rw [ByteArray.data_append, Array.toList_append, List.map_append]
theorem digit_piece {r : Int} (h0 : 0 ≤ r) (h1 : r < 10) : ((⟨#[48, 49, 50, 51, 52, 53, 54, 55, 56, 57]⟩ : ByteArray).extract r.toNat (⟨#[48, 49, 50, 51, 52, 53, 54, 55, 56, 57]⟩ : ByteArray).size).extract 0 1 = ⟨#[ch r]⟩ := by
 obtain ⟨n, rfl⟩ := Int.eq_ofNat_of_zero_le h0
 have hn : n < 10 := by omega
 match n, hn with
 | 0, _ => decide
 | 1, _ => decide
 | 2, _ => decide
 | 3, _ => decide
 | 4, _ => decide
 | 5, _ => decide
 | 6, _ => decide
 | 7, _ => decide
 | 8, _ => decide
 | 9, _ => decide
def txt (d : List Int) : ByteArray := strOfNums (d.map (48 + ·))
theorem txt_bytes {d : List Int} (h : Dig 10 d) : bytesOf (txt d) = d.map (48 + ·) := bytes_strOf (fun x hx => by
 obtain ⟨y, hy, rfl⟩ := List.mem_map.1 hx
 have := h y hy
 omega)
theorem txt_size {d : List Int} (h : Dig 10 d) : (txt d).size = d.length := by rw [size_eq, txt_bytes h, List.length_map]
theorem txt_snoc {d : List Int} {r : Int} (h : Dig 10 d) (h0 : 0 ≤ r) (h1 : r < 10) : txt d ++ ⟨#[ch r]⟩ = txt (d ++ [r]) := by
 refine bytes_ext ?_
 rw [bytes_append, txt_bytes h, txt_bytes (h.append (Dig.cons h0 h1 (Dig.nil _))), List.map_append]
 congr 1
 show [(((ch r).toNat : Nat) : Int)] = [48 + r]
 rw [ch_nat h0 h1]; congr 1; omega
theorem txt_tail {x : Int} {d : List Int} (h : Dig 10 (x :: d)) : (txt (x :: d)).extract 1 (txt (x :: d)).size = txt d := by
 refine bytes_ext ?_
 rw [txt_bytes h.tail]
 have e : bytesOf ((txt (x :: d)).extract 1 (txt (x :: d)).size) = (bytesOf (txt (x :: d))).drop 1 := by
  unfold bytesOf
  rw [ByteArray.data_extract, Array.toList_extract, List.extract_eq_take_drop, List.map_take, List.map_drop, List.take_of_length_le]
  rw [List.length_drop, List.length_map]; exact Nat.le_refl _
 rw [e, txt_bytes h]; rfl
theorem strip_l1 (l : List Int) (p : Int) (most : Nat) (hm : most < 1000) (d : List Int) : Dig 10 d → 0 < d.length → d.length ≤ most → ∃ m, dl m ≤ most ∧ Ev (fun k => corporamade_Tape_Natural.l1 k (txt d) l p) (S m, p) := by
 induction d with
 | nil => intro _ h; simp at h
 | cons x d ih =>
  intro hd h0 h1
  have hs := txt_size hd
  have last : (d = [] ∨ x ≠ 0) → ∃ m, dl m ≤ most ∧ txt (x :: d) = S m := by
   intro hc
   obtain ⟨m, _, hm'⟩ := D10_of hd h0 (by
    rcases hc with rfl | h
    ·exact .inl rfl
    ·exact .inr h)
   refine ⟨m, ?_, by unfold txt S; rw [hm']⟩
   by_cases hm0 : m = 0
   ·subst hm0; rw [dl_zero]; omega
   ·rw [← D10_len hm0, ← hm']; exact h1
  by_cases hc : d = []
  ·obtain ⟨m, hm1, hm2⟩ := last (.inl hc)
   refine ⟨m, hm1, Ev.step (fun k => corporamade_Tape_Natural.l1.eq_2 ..) (Ev.neg (by rw [hs, hc]; simp) (Ev.some (by rw [hm2])))⟩
  ·have hl : 0 < d.length := List.length_pos_iff.2 hc
   rw [List.length_cons] at hs h1
   have hb : bt (txt (x :: d)) 0 = 48 + x := by rw [bt_eq, txt_bytes hd]; rfl
   by_cases hx : x = 0
   ·obtain ⟨m, hm1, hm2⟩ := ih hd.tail hl (by omega)
    refine ⟨m, hm1, Ev.step (fun k => corporamade_Tape_Natural.l1.eq_2 ..) (Ev.pos (by omega) (Ev.pos (by omega) (Ev.pos (by omega) (Ev.pos (by omega) ?_))))⟩
    rw [txt_tail hd]; exact hm2
   ·obtain ⟨m, hm1, hm2⟩ := last (.inr hx)
    exact ⟨m, hm1, Ev.step (fun k => corporamade_Tape_Natural.l1.eq_2 ..) (Ev.pos (by omega) (Ev.pos (by omega) (Ev.neg (by omega) (Ev.some (by rw [hm2])))))⟩
theorem natural_l0 (l : List Int) (most : Nat) (hm : most < 1000) (c : Nat) : ∀ (d : List Int) (p : Int), TapeOk l p → Dig 10 d → 0 < d.length + c → d.length + c ≤ most →
  ∃ m p', dl m ≤ most ∧ TapeOk l p' ∧ Ev (fun k => corporamade_Tape_Natural.l0 k (txt d) (c : Int) l p) (S m, p') := by
 induction c with
 | zero =>
  intro d p hp hd h0 h1
  obtain ⟨m, h, e⟩ := strip_l1 l p most hm d hd (by omega) (by omega)
  exact ⟨m, p, h, hp, Ev.step (fun k => corporamade_Tape_Natural.l0.eq_2 ..) (Ev.neg (by omega) e)⟩
 | succ c ih =>
  intro d p hp hd h0 h1
  obtain ⟨r, p', hr, r0, r1, hp'⟩ := next_some (n := 10) hp (by omega) (by omega)
  obtain ⟨m, p2, h, hp2, e⟩ := ih (d ++ [r]) p' hp' (hd.append (Dig.cons r0 r1 (Dig.nil _))) (by simp; omega) (by simp; omega)
  refine ⟨m, p2, h, hp2, Ev.step (fun k => corporamade_Tape_Natural.l0.eq_2 ..) (Ev.pos (by omega) (Ev.bindo hr (Ev.pos r0 (Ev.pos (by show r ≤ 10; omega) (Ev.pos (by decide) (Ev.pos ?_ (Ev.pos ?_ ?_)))))))⟩
  ·have : ((⟨#[48, 49, 50, 51, 52, 53, 54, 55, 56, 57]⟩ : ByteArray).extract r.toNat (⟨#[48, 49, 50, 51, 52, 53, 54, 55, 56, 57]⟩ : ByteArray).size).size = 10 - r.toNat := by
    rw [ByteArray.size_extract]; simp [show (⟨#[48, 49, 50, 51, 52, 53, 54, 55, 56, 57]⟩ : ByteArray).size = 10 from rfl]
   show (1 : Int) ≤ _
   rw [this]; omega
  ·rw [digit_piece r0 r1, txt_size hd]
   show d.length + 1 ≤ _
   omega
  ·rw [digit_piece r0 r1, txt_snoc hd r0 r1, w64 (by omega) (by omega), show ((c + 1 : Nat) : Int) - 1 = (c : Int) by omega]
   exact e
theorem tapenat_ev {l : List Int} {p : Int} {most : Nat} (hp : TapeOk l p) (h0 : 1 ≤ most) (hm : most < 1000) :
  ∃ m p', dl m ≤ most ∧ TapeOk l p' ∧ Ev (fun k => corporamade_Tape_Natural.f k l p (most : Int)) (S m, p') := by
 obtain ⟨r, p', hr, r0, r1, hp'⟩ := next_some (n := (most : Int)) hp (by omega) (by omega)
 obtain ⟨c, hc⟩ : ∃ c : Nat, 1 + r = c := ⟨(1 + r).toNat, by omega⟩
 obtain ⟨m, p2, h, hp2, e⟩ := natural_l0 l most hm c [] p' hp' (Dig.nil _) (by simp; omega) (by simp; omega)
 refine ⟨m, p2, h, hp2, ?_⟩
 unfold corporamade_Tape_Natural.f
 refine Ev.bindo hr ?_
 show Ev (fun k => corporamade_Tape_Natural.l0 k (⟨#[]⟩ : ByteArray) (wrap64 (1 + r)) l p') (S m, p2)
 rw [w64 (by omega) (by omega), hc]
 exact e
theorem known36_ev : Ev (fun k => corporalaw36_known.f k) true := by
 unfold corporalaw36_known.f
 have h100 : (⟨#[49, 48, 48]⟩ : ByteArray) = S 100 := str_S (l := [49, 48, 48]) (by rw [S_more (by omega), S_more (by omega), S_digit (by omega)]; decide)
 have h7 : (⟨#[55]⟩ : ByteArray) = S 7 := str_S (l := [55]) (by rw [S_digit (by omega)]; decide)
 have e1 := make_ev (x := -6) (y := 4) (by omega) (by omega) (by omega) (by omega)
 rw [if_neg (by omega)] at e1
 have e2 := natdiv_ev (a := 100) (b := 7) (Lm_small (by omega)) (Lm_small (by omega))
 rw [if_neg (by omega)] at e2
 rw [h100, h7]
 refine Ev.bind e1 (Ev.bind e2 ?_)
 have g : Nat.gcd (-6 : Int).natAbs (4 : Int).natAbs = 2 := by decide
 unfold low
 rw [g]
 refine Ev.pos rfl (Ev.pos ?_ (Ev.pos rfl (Ev.pos ?_ (Ev.some ?_))))
 ·have a : (S ((-6 : Int).natAbs / 2)).toList = [51] := (S_toList (m := 3) (by rw [S_digit (by omega)]; decide)).2 (by decide)
  have b : (S ((4 : Int).natAbs / 2)).toList = [50] := (S_toList (m := 2) (by rw [S_digit (by omega)]; decide)).2 (by decide)
  simp only [a, b]; decide
 ·exact (S_toList (m := 14) (by rw [S_more (by omega), S_digit (by omega)]; decide)).2 (by decide)
 ·have b : (S (100 % 7)).toList = [50] := (S_toList (m := 2) (by rw [S_digit (by omega)]; decide)).2 (by decide)
  simp only [b]; decide
end Go.Proofs.Ytccgfmjcldifcaa.P
