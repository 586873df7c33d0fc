/- Walks of Go functions: what they compute; each theorem's conditions stand in it. -/
import Derived.Test.YtccgfmjcldifcaaT
import Derived.Test.YtccgfmjcldifcaaDB
namespace Go.Proofs.Ytccgfmjcldifcaa.P
open Go.RowKit Go.Proofs.YtccgfmjcldifcaaW.PrintWords Go.Proofs.YtccgfmjcldifcaaW.PrintLast Go.Proofs.YtccgfmjcldifcaaW.PrintMore
attribute [local go_sem] max2_int min2_int max_two min_two max_three min_three max_four min_four
set_option linter.unusedVariables false
set_option linter.unusedSimpArgs false
def corporaref36_small.T3 : Bool × List (List Nat × List Nat) := (true, [([], []), ([0], [0]), ([1], [1]), ([], []), ([3], [3]), ([4], [4]), ([5], [5]), ([6], [6]), ([7], [7]), ([2, 8], [2, 8]), ([9, 2, 0, 1, 2, 3, 4, 5, 6, 7, 8, 9], [9])])
def corporaref36_small.B3 : List Nat := [0, 1, 3, 0, 8, 24, 56, 120, 248, 511, 1023]
theorem corporaref36_small.tab3 : rtab .any (opsOf Try.f126 3) = corporaref36_small.T3 := by kernel_rfl
theorem corporaref36_small.bits3 : waitsOk corporaref36_small.T3.2 corporaref36_small.B3 = true := by kernel_rfl
set_option maxHeartbeats 8000000 in
set_option maxRecDepth 100000 in
theorem corporaref36_small.calls (k : Nat) : ∀ (a0 : Int) (r : ByteArray) (w : World) (h : corporaref36_small.f k a0 = some r),
  Calls Try.prog 126 #[.int .i64 a0] w fun e w' => e = .returned (.string r) ∧ Below w.heap.size w w' := by
 induction k using Nat.strongRecOn with
 | _ k ih =>
 intro a0 r w h
 cases k with
 | zero => exact absurd h (by simp [corporaref36_small.f])
 | succ k =>
 simp only [corporaref36_small.f] at h
 have HB := Aside0.mk (Below.refl w.heap.size w)
 have H : (if a0 < 10 then _ else _) = _ := h
 clear h
 by_cases c2 : a0 < 10
 ·rw [if_pos c2] at H
  have c2b0 : decide (a0 < 10) = true := decide_eq_true c2
  clear c2
  obtain ⟨y360, hy360⟩ : ∃ y_ : List Int, y_ = (([(wrap64 (48 + a0)) % 256] : List Int)) := ⟨_, rfl⟩
  replace H : (some (strOfNums y360)) = some r := by first | (rw [hy360]; with_reducible exact H) | (have H2_ := (Option.bind_some _ _).symm.trans H; rw [hy360]; with_reducible exact H2_) | (have H2_ := (Option.bind_some _ _).symm.trans H; with_reducible exact H2_) | with_reducible exact H | (rw [hy360]; exact H) | exact H
  have Ny360 := Aside0.mk hy360
  clear hy360
  obtain rfl := Option.some.inj H
  go_enter Try.func126, Try.ntmps126
  go_wp2_with (first | ((with_reducible refine gate_dst (N := 8) rfl ?_); refine Kd.R_lit (Kd.int .u8) _ 5 ?hg (N := 8) ?hd (xs := ([(wrap64 (48 + a0)) % 256] : List Int)) (inner := [.int .u8 ((wrap64 (48 + a0)) % 256)]) (ok := fun _ => True) (okp := fun _ => True) ?hr ?hp (fun _ hk => hk) trivial (Below.refl _ _) (Nat.le_refl _) (by simp) ?_; (case hd => rfl); (case hg => rfl); (case hr => first | (go_simp; done) | (go_simp; rfl)); (case hp => exact (Reps.one (show Kd.M (Kd.int .u8) _ _ _ ((wrap64 (48 + a0)) % 256) [.int .u8 ((wrap64 (48 + a0)) % 256)] from rfl) (Reps.none _ _))); intro v361 w3 ho4 hb hg_ hnew_; clear hg_ hnew_; (first | rw [← Ny360.out] at ho4 | (simp only [Int.reduceToNat] at ho4; rw [← Ny360.out] at ho4)); have HO362 := Aside0.mk (Kd.R_lower ho4 (below_size (by first | exact bl HB | exact HB.out))); replace HB := hs HB hb; clear hb ho4; have hcv5 := own_string (P := Try.prog) Try.underlying125 Try.underlying5 Try.underlying9 (Kd.own_of_R HO362.out)))
  go_ret
  exact ⟨er, by first | exact bl HB | exact HB.out⟩
 ·rw [if_neg c2] at H
  have c2b0 : decide (a0 < 10) = false := decide_eq_false c2
  clear c2
  replace H := Option.bind_eq_some_iff.mp H
  obtain ⟨t363, A60, H⟩ := H
  replace H : Option.bind (some (([(wrap64 (48 + (Int.tmod a0 10))) % 256] : List Int) : List Int)) _ = _ := H
  have A6 := Aside0.mk A60
  clear A60
  obtain ⟨y364, hy364⟩ : ∃ y_ : List Int, y_ = (([(wrap64 (48 + (Int.tmod a0 10))) % 256] : List Int)) := ⟨_, rfl⟩
  replace H : (if t363.size + (strOfNums y364).size ≤ 9223372036854775807 then (some (t363 ++ (strOfNums y364))) else (none)) = some r := by first | (rw [hy364]; with_reducible exact H) | (have H2_ := (Option.bind_some _ _).symm.trans H; rw [hy364]; with_reducible exact H2_) | (have H2_ := (Option.bind_some _ _).symm.trans H; with_reducible exact H2_) | with_reducible exact H | (rw [hy364]; exact H) | exact H
  have Ny364 := Aside0.mk hy364
  clear hy364
  by_cases c7 : t363.size + (strOfNums y364).size ≤ 9223372036854775807
  ·rw [if_pos c7] at H
   have c7b0 := eq_true c7
   have c7b1 : decide (t363.size + (strOfNums y364).size ≤ 9223372036854775807) = true := decide_eq_true c7
   try have c7b2 : (9223372036854775807 < t363.size + (strOfNums y364).size) = False := eq_false (Nat.not_lt.2 c7)
   (try have c7w := c7; simp at c7w; have c7v := eq_false (Nat.not_lt.2 c7w); clear c7w)
   obtain rfl := Option.some.inj H
   go_enter Try.func126, Try.ntmps126
   try go_wp2
   replace HB := Aside0.mk (below_drew1 HB.out)
   refine start_ (n := 11) (S := fun w' => True) (ds := []) #[false, false, false, false, false, false, false, false, false, false, false] (by kernel_rfl) rfl rfl trivial (fun hHeld => ?_); refine with_tabW corporaref36_small.tab3 corporaref36_small.bits3 (fun HT_ HW_ => ?_)
   generalize w.drew = w8 at HB hHeld ⊢
   refine pu (i := 0) (N := some 10) ?_
   refine pu (i := 1) (N := some 11) ?_
   refine pu (i := 3) (N := some 13) ?_
   refine pu (i := 4) (N := some 14) ?_
   refine pu (i := 5) (N := some 15) ?_
   refine pu (i := 6) (N := some 16) ?_
   refine join_ (σ := Value) 2 #[true, true, true, true, true, true, true, true, true, false, false] (fun s_ => [(12, .string t363), (17, s_), (18, .string (strOfNums y364))]) (fun s_ w' => (Kd.R (Kd.int .u8) 5 w' w.heap.size (fun _ => True) s_ y364) ∧ (Below w.heap.size w w')) ?_ ?_
   rotate_left
   ·intro hCont
    refine two_ (i := 2) (j := 7) (Ni := some 12) (Nj := some 17) #[true, true, true, true, true, true, true, false, false, false, false] #[true, true, false, true, true, true, true, true, false, false, false] rfl rfl rfl rfl (two_of HT_.out (by kernel_rfl)) (by decide) (by decide) (fun K hK => ?_) (fun K hK => ?_)
    ·skip
     refine goes_ Try.func126 (by kernel_rfl) rfl #[.int .i64 (wrap64 (Int.tdiv a0 10))] (by rfl) rfl rfl ga ?_
     with_reducible refine (ih k (by omega) (wrap64 (Int.tdiv a0 10)) t363 _ A6.out).mono ?_
     rintro e w9 ⟨rfl, hb⟩
     refine ⟨_, rfl, ?_⟩
     replace HB := hs HB hb
     (try clear hb)
     (try clear hb2)
     (try clear hk)
     (try clear hi)
     refine hK.out _ _ trivial (fun hHeld => ?_)
     clear hK K
     refine norm_ (a' := ?_) ?_ ?_
     rotate_left
     ·show Act.put _ (some 12) _ = _
      simp only [Act.put, List.setIfInBounds_toArray, List.set_cons_zero, List.set_cons_succ, i64_w, i32_w]
      rfl
     refine on (i := 7) (N := some 17) (fun K hK => ?_)
     refine Kd.R_lit_step (Kd.int .u8) _ 5 ?hg (N := 17) ?hd (xs := ([(wrap64 (48 + (Int.tmod a0 10))) % 256] : List Int)) (inner := [.int .u8 ((wrap64 (48 + (Int.tmod a0 10))) % 256)]) (ok := fun _ => True) (okp := fun _ => True) ?hr ?hp (fun _ hk => hk) trivial (Below.refl _ _) (Nat.le_refl _) (by simp) ?_; (case hd => rfl); (case hg => rfl); (case hr => first | (go_simp; done) | (go_simp; rfl)); (case hp => exact (Reps.one (show Kd.M (Kd.int .u8) _ _ _ ((wrap64 (48 + (Int.tmod a0 10))) % 256) [.int .u8 ((wrap64 (48 + (Int.tmod a0 10))) % 256)] from rfl) (Reps.none _ _)))
     intro v365 w10 ho11 hb hg_ hnew_
     clear hg_ hnew_
     (first | rw [← Ny364.out] at ho11 | (simp only [Int.reduceToNat] at ho11; rw [← Ny364.out] at ho11))
     have HO366 := Aside0.mk (Kd.R_lower ho11 (below_size (by first | exact bl HB | exact HB.out)))
     replace HB := hs HB hb
     clear hb ho11
     refine hK.out _ _ trivial (fun hHeld => ?_)
     clear hK K
     refine norm_ (a' := ?_) ?_ ?_
     rotate_left
     ·show Act.put _ (some 17) _ = _
      simp only [Act.put, List.setIfInBounds_toArray, List.set_cons_zero, List.set_cons_succ, i64_w, i32_w]
      rfl
     refine on (i := 8) (N := some 18) (fun K hK => ?_)
     have hcv12 := own_string (P := Try.prog) Try.underlying125 Try.underlying5 Try.underlying9 (Kd.own_of_R HO366.out)
     refine value_ (w1 := ?_) (v := ?_) (by rfl) rfl ?_ ?_
     rotate_left 2
     ·go_simp
      constructor
      ·rfl
      ·rfl
     clear hcv12
     refine hK.out _ _ trivial (fun hHeld => ?_)
     clear hK K
     refine norm_ (a' := ?_) ?_ ?_
     rotate_left
     ·show Act.put _ (some 18) _ = _
      simp only [Act.put, List.setIfInBounds_toArray, List.set_cons_zero, List.set_cons_succ, i64_w, i32_w]
      rfl
     exact norm_ (by simp only [putAll, Act.put, List.setIfInBounds_toArray, List.set_cons_zero, List.set_cons_succ]) (hCont (v365) _ ⟨(rl HO366), (by first | exact bl HB | exact HB.out)⟩)
    ·skip
     refine Kd.R_lit_step (Kd.int .u8) _ 5 ?hg (N := 17) ?hd (xs := ([(wrap64 (48 + (Int.tmod a0 10))) % 256] : List Int)) (inner := [.int .u8 ((wrap64 (48 + (Int.tmod a0 10))) % 256)]) (ok := fun _ => True) (okp := fun _ => True) ?hr ?hp (fun _ hk => hk) trivial (Below.refl _ _) (Nat.le_refl _) (by simp) ?_; (case hd => rfl); (case hg => rfl); (case hr => first | (go_simp; done) | (go_simp; rfl)); (case hp => exact (Reps.one (show Kd.M (Kd.int .u8) _ _ _ ((wrap64 (48 + (Int.tmod a0 10))) % 256) [.int .u8 ((wrap64 (48 + (Int.tmod a0 10))) % 256)] from rfl) (Reps.none _ _)))
     intro v365 w9 ho10 hb hg_ hnew_
     clear hg_ hnew_
     (first | rw [← Ny364.out] at ho10 | (simp only [Int.reduceToNat] at ho10; rw [← Ny364.out] at ho10))
     have HO366 := Aside0.mk (Kd.R_lower ho10 (below_size (by first | exact bl HB | exact HB.out)))
     replace HB := hs HB hb
     clear hb ho10
     refine hK.out _ _ trivial (fun hHeld => ?_)
     clear hK K
     refine norm_ (a' := ?_) ?_ ?_
     rotate_left
     ·show Act.put _ (some 17) _ = _
      simp only [Act.put, List.setIfInBounds_toArray, List.set_cons_zero, List.set_cons_succ, i64_w, i32_w]
      rfl
     refine two_ (i := 2) (j := 8) (Ni := some 12) (Nj := some 18) #[true, true, true, true, true, true, true, true, false, false, false] #[true, true, false, true, true, true, true, true, true, false, false] rfl rfl rfl rfl (two_of HT_.out (by kernel_rfl)) (by decide) (by decide) (fun K hK => ?_) (fun K hK => ?_)
     ·skip
      refine goes_ Try.func126 (by kernel_rfl) rfl #[.int .i64 (wrap64 (Int.tdiv a0 10))] (by rfl) rfl rfl ga ?_
      with_reducible refine (ih k (by omega) (wrap64 (Int.tdiv a0 10)) t363 _ A6.out).mono ?_
      rintro e w11 ⟨rfl, hb⟩
      refine ⟨_, rfl, ?_⟩
      replace HO366 := Aside0.mk (Kd.R_below (rl HO366) hb)
      replace HB := hs HB hb
      (try clear hb)
      (try clear hb2)
      (try clear hk)
      (try clear hi)
      refine hK.out _ _ trivial (fun hHeld => ?_)
      clear hK K
      refine norm_ (a' := ?_) ?_ ?_
      rotate_left
      ·show Act.put _ (some 12) _ = _
       simp only [Act.put, List.setIfInBounds_toArray, List.set_cons_zero, List.set_cons_succ, i64_w, i32_w]
       rfl
      refine on (i := 8) (N := some 18) (fun K hK => ?_)
      have hcv12 := own_string (P := Try.prog) Try.underlying125 Try.underlying5 Try.underlying9 (Kd.own_of_R HO366.out)
      refine value_ (w1 := ?_) (v := ?_) (by rfl) rfl ?_ ?_
      rotate_left 2
      ·go_simp
       constructor
       ·rfl
       ·rfl
      clear hcv12
      refine hK.out _ _ trivial (fun hHeld => ?_)
      clear hK K
      refine norm_ (a' := ?_) ?_ ?_
      rotate_left
      ·show Act.put _ (some 18) _ = _
       simp only [Act.put, List.setIfInBounds_toArray, List.set_cons_zero, List.set_cons_succ, i64_w, i32_w]
       rfl
      exact norm_ (by simp only [putAll, Act.put, List.setIfInBounds_toArray, List.set_cons_zero, List.set_cons_succ]) (hCont (v365) _ ⟨(rl HO366), (by first | exact bl HB | exact HB.out)⟩)
     ·skip
      have hcv11 := own_string (P := Try.prog) Try.underlying125 Try.underlying5 Try.underlying9 (Kd.own_of_R HO366.out)
      refine value_ (w1 := ?_) (v := ?_) (by rfl) rfl ?_ ?_
      rotate_left 2
      ·go_simp
       constructor
       ·rfl
       ·rfl
      clear hcv11
      refine hK.out _ _ trivial (fun hHeld => ?_)
      clear hK K
      refine norm_ (a' := ?_) ?_ ?_
      rotate_left
      ·show Act.put _ (some 18) _ = _
       simp only [Act.put, List.setIfInBounds_toArray, List.set_cons_zero, List.set_cons_succ, i64_w, i32_w]
       rfl
      refine on (i := 2) (N := some 12) (fun K hK => ?_)
      refine goes_ Try.func126 (by kernel_rfl) rfl #[.int .i64 (wrap64 (Int.tdiv a0 10))] (by rfl) rfl rfl ga ?_
      with_reducible refine (ih k (by omega) (wrap64 (Int.tdiv a0 10)) t363 _ A6.out).mono ?_
      rintro e w12 ⟨rfl, hb⟩
      refine ⟨_, rfl, ?_⟩
      replace HO366 := Aside0.mk (Kd.R_below (rl HO366) hb)
      replace HB := hs HB hb
      (try clear hb)
      (try clear hb2)
      (try clear hk)
      (try clear hi)
      refine hK.out _ _ trivial (fun hHeld => ?_)
      clear hK K
      refine norm_ (a' := ?_) ?_ ?_
      rotate_left
      ·show Act.put _ (some 12) _ = _
       simp only [Act.put, List.setIfInBounds_toArray, List.set_cons_zero, List.set_cons_succ, i64_w, i32_w]
       rfl
      exact norm_ (by simp only [putAll, Act.put, List.setIfInBounds_toArray, List.set_cons_zero, List.set_cons_succ]) (hCont (v365) _ ⟨(rl HO366), (by first | exact bl HB | exact HB.out)⟩)
   rintro v365 w13 ⟨h0_, h1_⟩
   have n0_ : Aside0 (Kd.R (Kd.int .u8) 5 w13 w.heap.size (fun _ => True) v365 y364) := ⟨h0_⟩
   have n1_ : Aside0 (Below w.heap.size w w13) := ⟨h1_⟩
   clear HB h0_ h1_
   have HO366 := n0_
   have HB := n1_
   clear n0_ n1_
   have hHeld := trivial
   refine norm_ (a' := ?_) ?_ ?_
   rotate_left
   ·simp only [putAll, Act.put, List.setIfInBounds_toArray, List.set_cons_zero, List.set_cons_succ]
    rfl
   refine pu (i := 9) (N := some 19) ?_
   refine pu (i := 10) (N := some 2) ?_
   refine done_ (done_of HT_.out (by kernel_rfl)) ?_
   try go_wp2
   go_ret
   exact ⟨er, by first | exact bl HB | exact HB.out⟩
  ·rw [if_neg c7] at H
   exact absurd H (by simp)
set_option maxHeartbeats 8000000 in
set_option maxRecDepth 100000 in
theorem corporaref36_Text.calls (k : Nat) (A0 : Option Addr) (c0 : Nat) (l0 : List Int) (r : ByteArray) (w : World) (hr0 : Kd.C (Kd.int .i64) w A0 l0.length l0) (hc0 : l0.length ≤ c0) (h : corporaref36_Text.f k l0 = some r) :
  Calls Try.prog 90 #[.slice A0 l0.length c0] w fun e w' => e = .returned (.string r) ∧ Below w.heap.size w w' := by
 have HR0 := Aside0.mk hr0
 have HC0 := Aside0.mk hc0
 clear hr0 hc0
 have HB := Aside0.mk (Below.refl w.heap.size w)
 have H : (if (l0.length : Int) = 0 then _ else _) = _ := h
 clear h
 by_cases c2 : (l0.length : Int) = 0
 ·rw [if_pos c2] at H
  have c2b0 : ((l0.length : Int) == 0) = true := beq_iff_eq.mpr c2
  have c2b1 : ((l0.length : Int) != 0) = false := bne_eq_false_iff_eq.mpr c2
  clear c2
  obtain rfl := Option.some.inj H
  go_enter Try.func90, Try.ntmps90
  go_wp2
  go_ret
  exact ⟨er, by first | exact bl HB | exact HB.out⟩
 ·rw [if_neg c2] at H
  have c2b0 : ((l0.length : Int) == 0) = false := beq_eq_false_iff_ne.mpr c2
  have c2b1 : ((l0.length : Int) != 0) = true := bne_iff_ne.mpr c2
  have c2b2 : ¬ (l0 = []) := fun h_ => c2 (by rw [h_]; rfl)
  obtain ⟨ji3, hji3⟩ : ∃ j_ : Int, (wrap64 ((l0.length : Int) - 1)) = j_ := ⟨_, rfl⟩
  replace H : (if 0 ≤ (ji3) then (if (ji3) < (l0.length : Int) then ((corporaref36_small.f k (rd l0 (ji3))).bind fun t368 => (corporaref36_Text.l0 k l0 t368 (wrap64 ((l0.length : Int) - 2)))) else (none)) else (none)) = some r := by first | (rw [hji3] at H; exact H) | (simp only [hji3] at H ⊢; exact H)
  have hji3w : (IntKind.i64.wrap ((l0.length : Int) - 1)) = ji3 := (i64_w _).trans hji3
  by_cases c4 : 0 ≤ (ji3)
  ·rw [if_pos c4] at H
   have c4b0 : decide (0 ≤ (ji3)) = true := decide_eq_true c4
   clear c4
   by_cases c5 : (ji3) < (l0.length : Int)
   ·rw [if_pos c5] at H
    have c5b0 : decide ((ji3) < (l0.length : Int)) = true := decide_eq_true c5
    clear c5
    replace H := Option.bind_eq_some_iff.mp H
    obtain ⟨t368, A60, H⟩ := H
    replace H : (corporaref36_Text.l0 k l0 t368 (wrap64 ((l0.length : Int) - 2))) = some r := H
    have A6 := Aside0.mk A60
    clear A60
    have H' := Aside0.mk H
    clear H
    have p367 : 0 ≤ ((ji3) : Int) := dt
    have q367 : (ji3) < (l0.length : Int) := dt
    obtain ⟨ad367, e367, hx367_0⟩ := Kd.at_int HR0.out (ji3) p367 q367
    cases e367
    replace p367 := eq_true p367
    replace q367 := eq_true q367
    go_enter Try.func90, Try.ntmps90
    go_wp2_with (first | ((with_reducible refine gate_callee (f := 126) rfl ?_); refine goesL_ (some 15) rfl rfl Try.func126 (by kernel_rfl) rfl #[.int .i64 (rd l0 (ji3))] rfl (by (try simp only [List.map_toArray, List.map_cons, List.map_nil]); first | done | (simp only [hji3]; rfl) | rfl | (simp only [List.length_drop, List.length_take]; rfl)) ?_; (with_reducible refine (corporaref36_small.calls k (rd l0 (ji3)) t368 _ A6.out).mono ?_); rintro e w7 ⟨rfl, hb⟩; refine ⟨_, rfl, ?_⟩; replace HB := hs HB hb; (try clear hb)))
    go_loopg [3, 4] k (fun kq v3 v4 w' => ∃ (x3_1 : ByteArray) (x4_1 : Int), v3 = .string x3_1 ∧ v4 = .int .i64 x4_1 ∧ Aside0 (corporaref36_Text.l0 kq l0 x3_1 x4_1 = some r) ∧ Aside0 (kq ≤ k) ∧ Aside0 (Below w.heap.size w w'))
    case atStart => exact ⟨(t368), (wrap64 ((l0.length : Int) - 2)), sv, sv, H', ⟨Nat.le_refl _⟩, ⟨by first | exact bl HB | exact HB.out⟩⟩
    case round =>
     clear H'
     try clear c2b0
     try clear c2b1
     try clear c2b2
     try clear c4b0
     try clear c5b0
     try clear hx367_0
     try clear p367
     try clear q367
     obtain ⟨x3_1, x4_1, rfl, rfl, HA, HK1, HB⟩ := hrel
     cases gk with
     | zero => exact absurd HA.out (by simp [corporaref36_Text.l0])
     | succ k1 =>
      have H := HA.out
      clear HA
      simp only [corporaref36_Text.l0] at H
      by_cases c8 : x4_1 ≥ 0
      ·rw [if_pos c8] at H
       have c8b0 : decide (0 ≤ x4_1) = true := decide_eq_true c8
       clear c8
       by_cases c9 : 0 ≤ x4_1
       ·rw [if_pos c9] at H
        have c9b0 : decide (0 ≤ x4_1) = true := decide_eq_true c9
        clear c9
        by_cases c10 : x4_1 < (l0.length : Int)
        ·rw [if_pos c10] at H
         have c10b0 : decide (x4_1 < (l0.length : Int)) = true := decide_eq_true c10
         clear c10
         replace H := Option.bind_eq_some_iff.mp H
         obtain ⟨t370, A110, H⟩ := H
         replace H : (if 0 ≤ (t370.size : Int) then _ else _) = _ := H
         have A11 := Aside0.mk A110
         clear A110
         by_cases c12 : 0 ≤ (t370.size : Int)
         ·rw [if_pos c12] at H
          have c12b0 := eq_true c12
          have c12b1 : decide (0 ≤ (t370.size : Int)) = true := decide_eq_true c12
          clear c12
          by_cases c13 : (t370.size : Int) ≤ 4
          ·rw [if_pos c13] at H
           have c13b0 := eq_true c13
           have c13b1 : decide ((t370.size : Int) ≤ 4) = true := decide_eq_true c13
           clear c13
           by_cases c14 : ((⟨#[48, 48, 48, 48]⟩ : ByteArray).extract ((t370.size : Int) : Int).toNat (⟨#[48, 48, 48, 48]⟩ : ByteArray).size).size + t370.size ≤ 9223372036854775807
           ·rw [if_pos c14] at H
            have c14b0 := eq_true c14
            have c14b1 : decide (((⟨#[48, 48, 48, 48]⟩ : ByteArray).extract ((t370.size : Int) : Int).toNat (⟨#[48, 48, 48, 48]⟩ : ByteArray).size).size + t370.size ≤ 9223372036854775807) = true := decide_eq_true c14
            try have c14b2 : (9223372036854775807 < ((⟨#[48, 48, 48, 48]⟩ : ByteArray).extract ((t370.size : Int) : Int).toNat (⟨#[48, 48, 48, 48]⟩ : ByteArray).size).size + t370.size) = False := eq_false (Nat.not_lt.2 c14)
            (try have c14w := c14; simp [show (⟨#[48, 48, 48, 48]⟩ : ByteArray).size = 4 from rfl] at c14w; have c14v := eq_false (Nat.not_lt.2 c14w); clear c14w)
            (try (have h_ := c14v; clear c14b0 c14b1 c14b2; clear h_))
            by_cases c15 : x3_1.size + (((⟨#[48, 48, 48, 48]⟩ : ByteArray).extract ((t370.size : Int) : Int).toNat (⟨#[48, 48, 48, 48]⟩ : ByteArray).size) ++ t370).size ≤ 9223372036854775807
            ·rw [if_pos c15] at H
             have c15b0 := eq_true c15
             have c15b1 : decide (x3_1.size + (((⟨#[48, 48, 48, 48]⟩ : ByteArray).extract ((t370.size : Int) : Int).toNat (⟨#[48, 48, 48, 48]⟩ : ByteArray).size) ++ t370).size ≤ 9223372036854775807) = true := decide_eq_true c15
             try have c15b2 : (9223372036854775807 < x3_1.size + (((⟨#[48, 48, 48, 48]⟩ : ByteArray).extract ((t370.size : Int) : Int).toNat (⟨#[48, 48, 48, 48]⟩ : ByteArray).size) ++ t370).size) = False := eq_false (Nat.not_lt.2 c15)
             (try have c15w := c15; simp [show (⟨#[48, 48, 48, 48]⟩ : ByteArray).size = 4 from rfl] at c15w; have c15v := eq_false (Nat.not_lt.2 c15w); clear c15w)
             (try (have h_ := c15v; clear c15b0 c15b1 c15b2; clear h_))
             have H' := Aside0.mk H
             clear H
             have p369 : 0 ≤ (x4_1 : Int) := dt
             have q369 : x4_1 < (l0.length : Int) := dt
             obtain ⟨ad369, e369, hx369_0⟩ := Kd.at_int HR0.out x4_1 p369 q369
             obtain rfl : ad367 = ad369 := (by injection e369)
             replace hx369_0 := (HB.out.cell (World.block_lt_of_cell? w _ hx369_0)).trans hx369_0
             replace p369 := eq_true p369
             replace q369 := eq_true q369
             go_wp2_with (first | ((with_reducible refine gate_callee (f := 126) rfl ?_); refine goesL_ (some 27) rfl rfl Try.func126 (by kernel_rfl) rfl #[.int .i64 (rd l0 x4_1)] rfl ga ?_; (with_reducible refine (corporaref36_small.calls k1 (rd l0 x4_1) t370 _ A11.out).mono ?_); rintro e w16 ⟨rfl, hb⟩; refine ⟨_, rfl, ?_⟩; replace HB := hs HB hb; (try clear hb)))
             go_roundg k1
             case measure => have := HK1.out; omega
             case rel => exact ⟨(x3_1 ++ (((⟨#[48, 48, 48, 48]⟩ : ByteArray).extract ((t370.size : Int) : Int).toNat (⟨#[48, 48, 48, 48]⟩ : ByteArray).size) ++ t370)), (wrap64 (x4_1 - 1)), sv, sv, (by first | exact H' | (simp only [hji3]; exact H')), ⟨by have := HK1.out; omega⟩, ⟨by first | exact bl HB | exact HB.out⟩⟩
            ·rw [if_neg c15] at H
             exact absurd H (by simp)
           ·rw [if_neg c14] at H
            exact absurd H (by simp)
          ·rw [if_neg c13] at H
           exact absurd H (by simp)
         ·rw [if_neg c12] at H
          exact absurd H (by simp)
        ·rw [if_neg c10] at H
         exact absurd H (by simp)
       ·rw [if_neg c9] at H
        exact absurd H (by simp)
      ·rw [if_neg c8] at H
       have c8b0 : decide (0 ≤ x4_1) = false := decide_eq_false c8
       clear c8
       obtain rfl := Option.some.inj H
       go_wp2
       go_ret
       exact ⟨by first | rfl | (simp [errW_none, errW_some] <;> rfl) | (simp only [← hji3]; first | rfl | (simp [errW_none, errW_some] <;> rfl)) | (simp [*, errW_none, errW_some] <;> rfl), by first | exact bl HB | exact HB.out⟩
   ·rw [if_neg c5] at H
    exact absurd H (by simp)
  ·rw [if_neg c4] at H
   exact absurd H (by simp)
set_option maxHeartbeats 8000000 in
set_option maxRecDepth 100000 in
theorem corporaref36_done.calls (k : Nat) (A0 : Option Addr) (c0 : Nat) (l0 : List Int) (r1 : ByteArray) (r2 : Int) (w : World) (hr0 : Kd.C (Kd.int .i64) w A0 l0.length l0) (hc0 : l0.length ≤ c0) (h : corporaref36_done.f k l0 = some (r1, r2)) :
  Calls Try.prog 99 #[.slice A0 l0.length c0] w fun e w' => e = .returned (.tuple #[.string r1, .int .i64 r2]) ∧ Below w.heap.size w w' := by
 have HR0 := Aside0.mk hr0
 have HC0 := Aside0.mk hc0
 clear hr0 hc0
 have HB := Aside0.mk (Below.refl w.heap.size w)
 have H : Option.bind (corporaref36_Text.f k l0) _ = _ := h
 clear h
 replace H := Option.bind_eq_some_iff.mp H
 obtain ⟨t371, A20, H⟩ := H
 replace H : (if (t371.size : Int) > 20000 then (some ((⟨#[]⟩ : ByteArray), 2)) else (some (t371, 0))) = some (r1, r2) := H
 have A2 := Aside0.mk A20
 clear A20
 by_cases c3 : (t371.size : Int) > 20000
 ·rw [if_pos c3] at H
  have c3b0 : decide (20000 < (t371.size : Int)) = true := decide_eq_true c3
  have c3b1 : decide (20000 < t371.size) = true := decide_eq_true (by omega)
  clear c3
  simp only [Option.some.injEq, Prod.mk.injEq] at H
  obtain ⟨rfl, rfl⟩ := H
  go_enter Try.func99, Try.ntmps99
  go_wp2_with (first | ((with_reducible refine gate_callee (f := 90) rfl ?_); refine goesL_ (some 6) rfl rfl Try.func90 (by kernel_rfl) rfl #[.slice A0 l0.length c0] rfl ga ?_; (with_reducible refine (corporaref36_Text.calls k _ _ l0 t371 _ ?side1 ?side2 A2.out).mono ?_); (case side1 => exact cl HR0.out); (case side2 => exact HC0.out); rintro e w4 ⟨rfl, hb⟩; refine ⟨_, rfl, ?_⟩; replace HB := hs HB hb; (try clear hb)))
  go_ret2
  exact ⟨er, by first | exact bl HB | exact HB.out⟩
 ·rw [if_neg c3] at H
  have c3b0 : decide (20000 < (t371.size : Int)) = false := decide_eq_false c3
  have c3b1 : decide (20000 < t371.size) = false := decide_eq_false (by omega)
  clear c3
  simp only [Option.some.injEq, Prod.mk.injEq] at H
  obtain ⟨rfl, rfl⟩ := H
  go_enter Try.func99, Try.ntmps99
  go_wp2_with (first | ((with_reducible refine gate_callee (f := 90) rfl ?_); refine goesL_ (some 6) rfl rfl Try.func90 (by kernel_rfl) rfl #[.slice A0 l0.length c0] rfl ga ?_; (with_reducible refine (corporaref36_Text.calls k _ _ l0 t371 _ ?side1 ?side2 A2.out).mono ?_); (case side1 => exact cl HR0.out); (case side2 => exact HC0.out); rintro e w5 ⟨rfl, hb⟩; refine ⟨_, rfl, ?_⟩; replace HB := hs HB hb; (try clear hb)))
  go_ret2
  exact ⟨er, by first | exact bl HB | exact HB.out⟩
end Go.Proofs.Ytccgfmjcldifcaa.P
