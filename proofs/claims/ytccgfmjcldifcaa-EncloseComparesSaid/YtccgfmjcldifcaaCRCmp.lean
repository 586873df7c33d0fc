/- Walks of Go functions: what they compute; each theorem's conditions stand in it. -/
import Derived.Test.YtccgfmjcldifcaaT
import Derived.Test.YtccgfmjcldifcaaCRBig
import Derived.Test.YtccgfmjcldifcaaCRLow
import Derived.Test.YtccgfmjcldifcaaCRTimes
import Derived.Test.YtccgfmjcldifcaaDB
import Derived.Test.YtccgfmjcldifcaaDF
namespace Go.Proofs.Ytccgfmjcldifcaa.P
open Go.RowKit Go.Proofs.YtccgfmjcldifcaaW.PrintWords Go.Proofs.YtccgfmjcldifcaaW.PrintLast Go.Proofs.YtccgfmjcldifcaaW.PrintMore
attribute [local go_sem] max2_int min2_int max_two min_two max_three min_three max_four min_four
set_option linter.unusedVariables false
set_option linter.unusedSimpArgs false
def corporaref36_Compare.T7 : Bool × List (List Nat × List Nat) := (true, [([], []), ([0], [0]), ([1], [1]), ([], []), ([3], [3]), ([4, 2], [4]), ([2, 5, 5], [2, 5]), ([], []), ([7], [7]), ([8, 6], [8]), ([], []), ([10], [10]), ([11, 9], [11]), ([9, 12, 12], [9, 12]), ([6, 13, 13], [6, 13]), ([14, 14, 0, 1, 2, 3, 4, 5, 6, 7, 8, 9, 10, 11, 12, 13, 14], [14])])
def corporaref36_Compare.B7 : List Nat := [0, 1, 3, 0, 8, 31, 63, 0, 128, 511, 0, 1024, 4095, 8191, 16383, 32767]
theorem corporaref36_Compare.tab7 : rtab .any (opsOf Try.f70 7) = corporaref36_Compare.T7 := by kernel_rfl
theorem corporaref36_Compare.bits7 : waitsOk corporaref36_Compare.T7.2 corporaref36_Compare.B7 = true := by kernel_rfl
set_option maxHeartbeats 8000000 in
set_option maxRecDepth 100000 in
theorem corporaref36_Compare.calls (k : Nat) (a0_0 : Bool) (a0_1 : ByteArray) (a0_2 : ByteArray) (a1_0 : Bool) (a1_1 : ByteArray) (a1_2 : ByteArray) (r : Int) (w : World) (h : corporaref36_Compare.f k a0_0 a0_1 a0_2 a1_0 a1_1 a1_2 = some r) :
  Calls Try.prog 70 #[.agg #[.bool a0_0, .string a0_1, .string a0_2], .agg #[.bool a1_0, .string a1_1, .string a1_2]] w fun e w' => e = .returned (.int .i64 r) ∧ Below w.heap.size w w' := by
 have hu35 := Try.underlying35
 have HB := Aside0.mk (Below.refl w.heap.size w)
 have H : Option.bind (corporaref36_IsRatio.f k a0_0 a0_1 a0_2) _ = _ := h
 clear h
 have HC3 := Aside0.mk H
 clear H
 go_enter Try.func70, Try.ntmps70
 go_upto_region 1 with (first | ((with_reducible refine gate_dst (N := 2) rfl ?_); refine be (N := 2) (cs := #[.bool a0_0, .string a0_1, .string a0_2]) (t := 35) ?_; intro gb1147 hg w4 hbox hb; have BK1147 := Aside0.mk (hbox); have GW1147 := gw HB hg; have GE1147 := GW1147; replace HB := hs HB hb; clear hb hbox hg) | ((with_reducible refine gate_dst (N := 3) rfl ?_); refine be (N := 3) (cs := #[.bool a1_0, .string a1_1, .string a1_2]) (t := 35) ?_; intro gb1148 hg w5 hbox hb; have BK1148 := Aside0.mk (hbox); have GW1148 := gw HB hg; have GE1148 := GW1148; replace HB := hs HB hb; have NB1147_1148 := na BK1147 hg; have NB1148_1147 := nz NB1147_1148; replace BK1147 := bb BK1147 hb; clear hb hbox hg))
 (try simp only [Act.put, List.setIfInBounds_toArray, List.set_cons_zero, List.set_cons_succ])
 go_cut [13] (fun v13 wc => ∃ (kq : Nat) (x13_2 : Bool), v13 = .bool x13_2 ∧ Aside0 (corporaref36_Compare.j0 kq x13_2 a0_0 a0_1 a0_2 a1_0 a1_1 a1_2 = some r) ∧ Aside0 (kq ≤ k) ∧ Aside0 (wc.heap[gb1147]? = some (.cells #[.bool a0_0, .string a0_1, .string a0_2] 35 (0, 0))) ∧ Aside0 (wc.heap[gb1148]? = some (.cells #[.bool a1_0, .string a1_1, .string a1_2] 35 (0, 0))) ∧ Aside0 (Below w.heap.size w wc))
 case first =>
  have H := HC3.out
  clear HC3
  replace H := Option.bind_eq_some_iff.mp H
  obtain ⟨t1149, A60, H⟩ := H
  replace H : (if t1149 = true then _ else _) = _ := H
  have A6 := Aside0.mk A60
  clear A60
  by_cases c7 : t1149 = true
  ·subst c7
   have H1 : Option.bind (corporaref36_IsRatio.f k a1_0 a1_1 a1_2) _ = _ := (if_pos rfl).symm.trans H
   clear H
   have H := H1
   clear H1
   replace H := Option.bind_eq_some_iff.mp H
   obtain ⟨t1150, A80, H⟩ := H
   replace H : (corporaref36_Compare.j0 k (!t1150) a0_0 a0_1 a0_2 a1_0 a1_1 a1_2) = some r := H
   have A8 := Aside0.mk A80
   clear A80
   have H' := Aside0.mk H
   clear H
   have hnb9 := NB1147_1148.out
   have hnc9 := NB1148_1147.out
   obtain ⟨hcz10_0, hcz10_1, hcz10_2, hfz10_0, hfz10_1, hfz10_2⟩ := z3 BK1147
   go_wp2_with (first | ((with_reducible refine gate_callee (f := 69) rfl ?_); refine goesL_ (some 7) rfl rfl Try.func69 (by kernel_rfl) rfl #[.agg #[.bool a0_0, .string a0_1, .string a0_2]] rfl ga ?_; (with_reducible refine (corporaref36_IsRatio.calls k a0_0 a0_1 a0_2 true _ A6.out).mono ?_); rintro e w11 ⟨rfl, hb⟩; refine ⟨_, rfl, ?_⟩; replace BK1147 := bb BK1147 hb; replace BK1148 := bb BK1148 hb; replace HB := hs HB hb; (try clear hb); obtain ⟨hcz12_0, hcz12_1, hcz12_2, hfz12_0, hfz12_1, hfz12_2⟩ := z3 BK1148) | (go_at_call 69; (with_reducible refine (corporaref36_IsRatio.calls k a1_0 a1_1 a1_2 t1150 _ A8.out).mono ?_); rintro e w13 ⟨rfl, hb⟩; replace BK1147 := bb BK1147 hb; replace BK1148 := bb BK1148 hb; replace HB := hs HB hb; (try clear hb)))
   go_meet
   case rel => exact ⟨_, (!t1150), sv, H', ⟨by first | omega | exact Nat.le_refl _⟩, ⟨bk⟩, ⟨bk⟩, ⟨bs⟩⟩
  ·replace c7 := Bool.eq_false_iff.mpr c7
   subst c7
   have H1 : (corporaref36_Compare.j0 k true a0_0 a0_1 a0_2 a1_0 a1_1 a1_2) = some r := by rw [if_neg (show ¬ (false = true) by decide)] at H; exact H
   clear H
   have H := H1
   clear H1
   have H' := Aside0.mk H
   clear H
   have hnb14 := NB1147_1148.out
   have hnc14 := NB1148_1147.out
   obtain ⟨hcz15_0, hcz15_1, hcz15_2, hfz15_0, hfz15_1, hfz15_2⟩ := z3 BK1147
   go_wp2_with (first | ((with_reducible refine gate_callee (f := 69) rfl ?_); refine goesL_ (some 7) rfl rfl Try.func69 (by kernel_rfl) rfl #[.agg #[.bool a0_0, .string a0_1, .string a0_2]] rfl ga ?_; (with_reducible refine (corporaref36_IsRatio.calls k a0_0 a0_1 a0_2 false _ A6.out).mono ?_); rintro e w16 ⟨rfl, hb⟩; refine ⟨_, rfl, ?_⟩; replace BK1147 := bb BK1147 hb; replace BK1148 := bb BK1148 hb; replace HB := hs HB hb; (try clear hb)))
   go_meet
   case rel => exact ⟨_, (true), sv, H', ⟨by first | omega | exact Nat.le_refl _⟩, ⟨bk⟩, ⟨bk⟩, ⟨bs⟩⟩
 case rest =>
  clear HC3
  try clear c7
  try clear hcz10_0
  try clear hcz10_1
  try clear hcz10_2
  try clear hcz12_0
  try clear hcz12_1
  try clear hcz12_2
  try clear hcz15_0
  try clear hcz15_1
  try clear hcz15_2
  try clear hfz10_0
  try clear hfz10_1
  try clear hfz10_2
  try clear hfz12_0
  try clear hfz12_1
  try clear hfz12_2
  try clear hfz15_0
  try clear hfz15_1
  try clear hfz15_2
  obtain ⟨kq, x13_2, rfl, HA, HJ2, BK1147, BK1148, HB⟩ := hcut
  cases kq with
  | zero => exact absurd HA.out (by simp [corporaref36_Compare.j0])
  | succ kj2 =>
   have H := HA.out
   clear HA
   simp only [corporaref36_Compare.j0] at H
   by_cases c17 : x13_2 = true
   ·subst c17
    have H1 : (some 0) = some r := by rw [if_pos rfl] at H; exact H
    clear H
    have H := H1
    clear H1
    obtain rfl := Option.some.inj H
    go_wp2
    go_ret
    exact ⟨er, bs⟩
   ·replace c17 := Bool.eq_false_iff.mpr c17
    subst c17
    have H1 : (if (a0_0 != a1_0) = true then _ else _) = _ := (if_neg (show ¬ (false = true) by decide)).symm.trans H
    clear H
    have H := H1
    clear H1
    by_cases c18 : (a0_0 != a1_0) = true
    ·rw [if_pos c18] at H
     have c18b0 : (a0_0 != a1_0) = true := c18
     (try (have c18b1 : decide (a0_0 = a1_0) = false := by simpa using c18))
     (try (have c18b2 : (a0_0 == a1_0) = false := by simpa using c18))
     (try (have c18b3 : ¬ (a0_0 = a1_0) := by simpa using c18))
     clear c18
     by_cases c19 : a0_0 = true
     ·subst c19
      have H1 : (some (-1)) = some r := by rw [if_pos rfl] at H; exact H
      clear H
      have H := H1
      clear H1
      obtain rfl := Option.some.inj H
      have hnb20 := NB1147_1148.out
      have hnc20 := NB1148_1147.out
      obtain ⟨hcz21_0, hcz21_1, hcz21_2, hfz21_0, hfz21_1, hfz21_2⟩ := z3 BK1147
      obtain ⟨hcz22_0, hcz22_1, hcz22_2, hfz22_0, hfz22_1, hfz22_2⟩ := z3 BK1148
      go_wp2
      go_ret
      exact ⟨er, bs⟩
     ·replace c19 := Bool.eq_false_iff.mpr c19
      subst c19
      have H1 : (some 1) = some r := by rw [if_neg (show ¬ (false = true) by decide)] at H; exact H
      clear H
      have H := H1
      clear H1
      obtain rfl := Option.some.inj H
      have hnb23 := NB1147_1148.out
      have hnc23 := NB1148_1147.out
      obtain ⟨hcz24_0, hcz24_1, hcz24_2, hfz24_0, hfz24_1, hfz24_2⟩ := z3 BK1147
      obtain ⟨hcz25_0, hcz25_1, hcz25_2, hfz25_0, hfz25_1, hfz25_2⟩ := z3 BK1148
      go_wp2
      go_ret
      exact ⟨er, bs⟩
    ·rw [if_neg c18] at H
     have c18b0 : (a0_0 != a1_0) = false := by simpa using c18
     (try (have c18b1 : decide (a0_0 = a1_0) = true := by simpa using c18))
     (try (have c18b2 : (a0_0 == a1_0) = true := by simpa using c18))
     clear c18
     replace H := Option.bind_eq_some_iff.mp H
     obtain ⟨t1151, A260, H⟩ := H
     replace H : Option.bind (corporaref36_Big.f kj2 a1_2) _ = _ := H
     have A26 := Aside0.mk A260
     clear A260
     replace H := Option.bind_eq_some_iff.mp H
     obtain ⟨t1154, A270, H⟩ := H
     replace H : Option.bind (corporaref36_Times.f kj2 t1151 t1154) _ = _ := H
     have A27 := Aside0.mk A270
     clear A270
     replace H := Option.bind_eq_some_iff.mp H
     obtain ⟨t1157, A280, H⟩ := H
     replace H : Option.bind (corporaref36_Big.f kj2 a1_1) _ = _ := H
     have A28 := Aside0.mk A280
     clear A280
     replace H := Option.bind_eq_some_iff.mp H
     obtain ⟨t1160, A290, H⟩ := H
     replace H : Option.bind (corporaref36_Big.f kj2 a0_2) _ = _ := H
     have A29 := Aside0.mk A290
     clear A290
     replace H := Option.bind_eq_some_iff.mp H
     obtain ⟨t1163, A300, H⟩ := H
     replace H : Option.bind (corporaref36_Times.f kj2 t1160 t1163) _ = _ := H
     have A30 := Aside0.mk A300
     clear A300
     replace H := Option.bind_eq_some_iff.mp H
     obtain ⟨t1166, A310, H⟩ := H
     replace H : ((corporaref36_Less.f kj2 t1157 t1166).bind fun t1169 => (if a0_0 = true then (some (wrap64 (-t1169))) else (some t1169))) = some r := H
     have A31 := Aside0.mk A310
     clear A310
     replace H := Option.bind_eq_some_iff.mp H
     obtain ⟨t1169, A320, H⟩ := H
     replace H : (if a0_0 = true then (some (wrap64 (-t1169))) else (some t1169)) = some r := H
     have A32 := Aside0.mk A320
     clear A320
     by_cases c33 : a0_0 = true
     ·subst c33
      have H1 : (some (wrap64 (-t1169))) = some r := by rw [if_pos rfl] at H; exact H
      clear H
      have H := H1
      clear H1
      obtain rfl := Option.some.inj H
      have hnb34 := NB1147_1148.out
      have hnc34 := NB1148_1147.out
      obtain ⟨hcz35_0, hcz35_1, hcz35_2, hfz35_0, hfz35_1, hfz35_2⟩ := z3 BK1147
      obtain ⟨hcz36_0, hcz36_1, hcz36_2, hfz36_0, hfz36_1, hfz36_2⟩ := z3 BK1148
      try go_wp2
      replace BK1147 := Aside0.mk (blk_drew BK1147.out)
      replace BK1148 := Aside0.mk (blk_drew BK1148.out)
      replace HB := Aside0.mk (below_drew1 HB.out)
      refine start_ (n := 16) (S := fun w' => w'.cell? ⟨gb1147, 0, none⟩ = some (.bool true) ∧ w'.cell? ⟨gb1147, 1, none⟩ = some (.string a0_1) ∧ w'.cell? ⟨gb1147, 2, none⟩ = some (.string a0_2) ∧ w'.cell? ⟨gb1148, 0, none⟩ = some (.bool a1_0) ∧ w'.cell? ⟨gb1148, 1, none⟩ = some (.string a1_1) ∧ w'.cell? ⟨gb1148, 2, none⟩ = some (.string a1_2)) (ds := []) #[false, false, false, false, false, false, false, false, false, false, false, false, false, false, false, false] (by kernel_rfl) rfl rfl ⟨(blk_cell BK1147.out 0).trans rfl, (blk_cell BK1147.out 1).trans rfl, (blk_cell BK1147.out 2).trans rfl, (blk_cell BK1148.out 0).trans rfl, (blk_cell BK1148.out 1).trans rfl, (blk_cell BK1148.out 2).trans rfl⟩ (fun hHeld => ?_); refine with_tabW corporaref36_Compare.tab7 corporaref36_Compare.bits7 (fun HT_ HW_ => ?_)
      generalize wc.drew = w37 at BK1147 BK1148 HB hHeld ⊢
      refine pu (i := 0) (N := some 21) ?_
      refine pu (i := 3) (N := some 24) ?_
      refine pu (i := 7) (N := some 28) ?_
      refine pu (i := 10) (N := some 31) ?_
      refine ta (i := 1) (N := some 22) hHeld ?_
      refine ta (i := 4) (N := some 25) hHeld ?_
      refine ta (i := 8) (N := some 29) hHeld ?_
      refine ta (i := 11) (N := some 32) hHeld ?_
      refine on (i := 2) (N := some 23) (fun K hK => ?_)
      refine goes_ Try.func88 (by kernel_rfl) rfl #[.string a0_1] (by rfl) rfl rfl ga ?_
      with_reducible refine (corporaref36_Big.calls kj2 a0_1 t1151 _ A26.out).mono ?_
      rintro e w38 ⟨v1152, rfl, ho0, hb⟩
      refine ⟨_, rfl, ?_⟩
      have HO1153 := Aside0.mk (Kd.V_lower (Kd.V_mono (ok' := fun k_ => k_ ≠ gb1147 ∧ k_ ≠ gb1148) ho0 (fun k_ hk_ => ⟨(fb BK1147 k_ hk_), (fb BK1148 k_ hk_)⟩)) (below_size bs))
      replace BK1147 := bb BK1147 hb
      replace BK1148 := bb BK1148 hb
      replace HB := hs HB hb
      (try clear hb)
      (try clear hb2)
      (try clear hk)
      (try clear hi)
      (try clear ho0)
      refine hK.out _ _ ⟨(blk_cell BK1147.out 0).trans rfl, (blk_cell BK1147.out 1).trans rfl, (blk_cell BK1147.out 2).trans rfl, (blk_cell BK1148.out 0).trans rfl, (blk_cell BK1148.out 1).trans rfl, (blk_cell BK1148.out 2).trans rfl⟩ (fun hHeld => ?_)
      clear hK K
      refine norm_ (a' := ?_) ?_ ?_
      rotate_left
      ·show Act.put _ (some 23) _ = _
       simp only [Act.put, List.setIfInBounds_toArray, List.set_cons_zero, List.set_cons_succ, i64_w, i32_w]
       rfl
      refine on (i := 5) (N := some 26) (fun K hK => ?_)
      refine goes_ Try.func88 (by kernel_rfl) rfl #[.string a1_2] (by rfl) rfl rfl ga ?_
      with_reducible refine (corporaref36_Big.calls kj2 a1_2 t1154 _ A27.out).mono ?_
      rintro e w39 ⟨v1155, rfl, ho0, hb⟩
      refine ⟨_, rfl, ?_⟩
      replace HO1153 := Aside0.mk (Kd.V_below (vl HO1153) hb)
      have HO1156 := Aside0.mk (Kd.V_lower (Kd.V_mono (ok' := fun k_ => k_ ≠ gb1147 ∧ k_ ≠ gb1148) ho0 (fun k_ hk_ => ⟨(fb BK1147 k_ hk_), (fb BK1148 k_ hk_)⟩)) (below_size bs))
      replace BK1147 := bb BK1147 hb
      replace BK1148 := bb BK1148 hb
      replace HB := hs HB hb
      (try clear hb)
      (try clear hb2)
      (try clear hk)
      (try clear hi)
      (try clear ho0)
      obtain ⟨Ao40, co40, eo40⟩ := Kd.V_slice HO1153.out
      (first | subst eo40 | (injection eo40 with f1_ f2_ f3_; have f4_ := f1_.symm; have f5_ := f3_.symm; clear f1_ f2_ f3_; subst f4_; subst f5_))
      obtain ⟨Ao41, co41, eo41⟩ := Kd.V_slice HO1156.out
      (first | subst eo41 | (injection eo41 with f1_ f2_ f3_; have f4_ := f1_.symm; have f5_ := f3_.symm; clear f1_ f2_ f3_; subst f4_; subst f5_))
      refine hK.out _ _ ⟨(blk_cell BK1147.out 0).trans rfl, (blk_cell BK1147.out 1).trans rfl, (blk_cell BK1147.out 2).trans rfl, (blk_cell BK1148.out 0).trans rfl, (blk_cell BK1148.out 1).trans rfl, (blk_cell BK1148.out 2).trans rfl⟩ (fun hHeld => ?_)
      clear hK K
      refine norm_ (a' := ?_) ?_ ?_
      rotate_left
      ·show Act.put _ (some 26) _ = _
       simp only [Act.put, List.setIfInBounds_toArray, List.set_cons_zero, List.set_cons_succ, i64_w, i32_w]
       rfl
      refine on (i := 6) (N := some 27) (fun K hK => ?_)
      refine goes_ Try.func89 (by kernel_rfl) rfl #[.slice Ao40 t1151.length co40, .slice Ao41 t1154.length co41] (by rfl) rfl rfl ga ?_
      with_reducible refine (corporaref36_Times.calls kj2 _ _ t1151 _ _ t1154 t1157 _ ?side1 ?side2 ?side3 ?side4 A28.out).mono ?_
      (case side1 => exact cl ((Kd.V_reads' HO1153.out).2.2))
      (case side2 => exact (Kd.V_reads' HO1153.out).2.1)
      (case side3 => exact cl ((Kd.V_reads' HO1156.out).2.2))
      (case side4 => exact (Kd.V_reads' HO1156.out).2.1)
      rintro e w42 ⟨v1158, rfl, ho0, hb⟩
      refine ⟨_, rfl, ?_⟩
      replace HO1153 := Aside0.mk (Kd.V_below (vl HO1153) hb)
      replace HO1156 := Aside0.mk (Kd.V_below (vl HO1156) hb)
      have HO1159 := Aside0.mk (Kd.V_lower (Kd.V_mono (ok' := fun k_ => k_ ≠ gb1147 ∧ k_ ≠ gb1148) ho0 (fun k_ hk_ => ⟨(fb BK1147 k_ hk_), (fb BK1148 k_ hk_)⟩)) (below_size bs))
      replace BK1147 := bb BK1147 hb
      replace BK1148 := bb BK1148 hb
      replace HB := hs HB hb
      (try clear hb)
      (try clear hb2)
      (try clear hk)
      (try clear hi)
      (try clear ho0)
      refine hK.out _ _ ⟨(blk_cell BK1147.out 0).trans rfl, (blk_cell BK1147.out 1).trans rfl, (blk_cell BK1147.out 2).trans rfl, (blk_cell BK1148.out 0).trans rfl, (blk_cell BK1148.out 1).trans rfl, (blk_cell BK1148.out 2).trans rfl⟩ (fun hHeld => ?_)
      clear hK K
      refine norm_ (a' := ?_) ?_ ?_
      rotate_left
      ·show Act.put _ (some 27) _ = _
       simp only [Act.put, List.setIfInBounds_toArray, List.set_cons_zero, List.set_cons_succ, i64_w, i32_w]
       rfl
      refine on (i := 9) (N := some 30) (fun K hK => ?_)
      refine goes_ Try.func88 (by kernel_rfl) rfl #[.string a1_1] (by rfl) rfl rfl ga ?_
      with_reducible refine (corporaref36_Big.calls kj2 a1_1 t1160 _ A29.out).mono ?_
      rintro e w43 ⟨v1161, rfl, ho0, hb⟩
      refine ⟨_, rfl, ?_⟩
      replace HO1153 := Aside0.mk (Kd.V_below (vl HO1153) hb)
      replace HO1156 := Aside0.mk (Kd.V_below (vl HO1156) hb)
      replace HO1159 := Aside0.mk (Kd.V_below (vl HO1159) hb)
      have HO1162 := Aside0.mk (Kd.V_lower (Kd.V_mono (ok' := fun k_ => k_ ≠ gb1147 ∧ k_ ≠ gb1148) ho0 (fun k_ hk_ => ⟨(fb BK1147 k_ hk_), (fb BK1148 k_ hk_)⟩)) (below_size bs))
      replace BK1147 := bb BK1147 hb
      replace BK1148 := bb BK1148 hb
      replace HB := hs HB hb
      (try clear hb)
      (try clear hb2)
      (try clear hk)
      (try clear hi)
      (try clear ho0)
      refine hK.out _ _ ⟨(blk_cell BK1147.out 0).trans rfl, (blk_cell BK1147.out 1).trans rfl, (blk_cell BK1147.out 2).trans rfl, (blk_cell BK1148.out 0).trans rfl, (blk_cell BK1148.out 1).trans rfl, (blk_cell BK1148.out 2).trans rfl⟩ (fun hHeld => ?_)
      clear hK K
      refine norm_ (a' := ?_) ?_ ?_
      rotate_left
      ·show Act.put _ (some 30) _ = _
       simp only [Act.put, List.setIfInBounds_toArray, List.set_cons_zero, List.set_cons_succ, i64_w, i32_w]
       rfl
      refine on (i := 12) (N := some 33) (fun K hK => ?_)
      refine goes_ Try.func88 (by kernel_rfl) rfl #[.string a0_2] (by rfl) rfl rfl ga ?_
      with_reducible refine (corporaref36_Big.calls kj2 a0_2 t1163 _ A30.out).mono ?_
      rintro e w44 ⟨v1164, rfl, ho0, hb⟩
      refine ⟨_, rfl, ?_⟩
      replace HO1153 := Aside0.mk (Kd.V_below (vl HO1153) hb)
      replace HO1156 := Aside0.mk (Kd.V_below (vl HO1156) hb)
      replace HO1159 := Aside0.mk (Kd.V_below (vl HO1159) hb)
      replace HO1162 := Aside0.mk (Kd.V_below (vl HO1162) hb)
      have HO1165 := Aside0.mk (Kd.V_lower (Kd.V_mono (ok' := fun k_ => k_ ≠ gb1147 ∧ k_ ≠ gb1148) ho0 (fun k_ hk_ => ⟨(fb BK1147 k_ hk_), (fb BK1148 k_ hk_)⟩)) (below_size bs))
      replace BK1147 := bb BK1147 hb
      replace BK1148 := bb BK1148 hb
      replace HB := hs HB hb
      (try clear hb)
      (try clear hb2)
      (try clear hk)
      (try clear hi)
      (try clear ho0)
      obtain ⟨Ao45, co45, eo45⟩ := Kd.V_slice HO1162.out
      (first | subst eo45 | (injection eo45 with f1_ f2_ f3_; have f4_ := f1_.symm; have f5_ := f3_.symm; clear f1_ f2_ f3_; subst f4_; subst f5_))
      obtain ⟨Ao46, co46, eo46⟩ := Kd.V_slice HO1165.out
      (first | subst eo46 | (injection eo46 with f1_ f2_ f3_; have f4_ := f1_.symm; have f5_ := f3_.symm; clear f1_ f2_ f3_; subst f4_; subst f5_))
      refine hK.out _ _ ⟨(blk_cell BK1147.out 0).trans rfl, (blk_cell BK1147.out 1).trans rfl, (blk_cell BK1147.out 2).trans rfl, (blk_cell BK1148.out 0).trans rfl, (blk_cell BK1148.out 1).trans rfl, (blk_cell BK1148.out 2).trans rfl⟩ (fun hHeld => ?_)
      clear hK K
      refine norm_ (a' := ?_) ?_ ?_
      rotate_left
      ·show Act.put _ (some 33) _ = _
       simp only [Act.put, List.setIfInBounds_toArray, List.set_cons_zero, List.set_cons_succ, i64_w, i32_w]
       rfl
      refine on (i := 13) (N := some 34) (fun K hK => ?_)
      refine goes_ Try.func89 (by kernel_rfl) rfl #[.slice Ao45 t1160.length co45, .slice Ao46 t1163.length co46] (by rfl) rfl rfl ga ?_
      with_reducible refine (corporaref36_Times.calls kj2 _ _ t1160 _ _ t1163 t1166 _ ?side1 ?side2 ?side3 ?side4 A31.out).mono ?_
      (case side1 => exact cl ((Kd.V_reads' HO1162.out).2.2))
      (case side2 => exact (Kd.V_reads' HO1162.out).2.1)
      (case side3 => exact cl ((Kd.V_reads' HO1165.out).2.2))
      (case side4 => exact (Kd.V_reads' HO1165.out).2.1)
      rintro e w47 ⟨v1167, rfl, ho0, hb⟩
      refine ⟨_, rfl, ?_⟩
      replace HO1153 := Aside0.mk (Kd.V_below (vl HO1153) hb)
      replace HO1156 := Aside0.mk (Kd.V_below (vl HO1156) hb)
      replace HO1159 := Aside0.mk (Kd.V_below (vl HO1159) hb)
      replace HO1162 := Aside0.mk (Kd.V_below (vl HO1162) hb)
      replace HO1165 := Aside0.mk (Kd.V_below (vl HO1165) hb)
      have HO1168 := Aside0.mk (Kd.V_lower (Kd.V_mono (ok' := fun k_ => k_ ≠ gb1147 ∧ k_ ≠ gb1148) ho0 (fun k_ hk_ => ⟨(fb BK1147 k_ hk_), (fb BK1148 k_ hk_)⟩)) (below_size bs))
      replace BK1147 := bb BK1147 hb
      replace BK1148 := bb BK1148 hb
      replace HB := hs HB hb
      (try clear hb)
      (try clear hb2)
      (try clear hk)
      (try clear hi)
      (try clear ho0)
      obtain ⟨Ao48, co48, eo48⟩ := Kd.V_slice HO1159.out
      (first | subst eo48 | (injection eo48 with f1_ f2_ f3_; have f4_ := f1_.symm; have f5_ := f3_.symm; clear f1_ f2_ f3_; subst f4_; subst f5_))
      obtain ⟨Ao49, co49, eo49⟩ := Kd.V_slice HO1168.out
      (first | subst eo49 | (injection eo49 with f1_ f2_ f3_; have f4_ := f1_.symm; have f5_ := f3_.symm; clear f1_ f2_ f3_; subst f4_; subst f5_))
      refine hK.out _ _ ⟨(blk_cell BK1147.out 0).trans rfl, (blk_cell BK1147.out 1).trans rfl, (blk_cell BK1147.out 2).trans rfl, (blk_cell BK1148.out 0).trans rfl, (blk_cell BK1148.out 1).trans rfl, (blk_cell BK1148.out 2).trans rfl⟩ (fun hHeld => ?_)
      clear hK K
      refine norm_ (a' := ?_) ?_ ?_
      rotate_left
      ·show Act.put _ (some 34) _ = _
       simp only [Act.put, List.setIfInBounds_toArray, List.set_cons_zero, List.set_cons_succ, i64_w, i32_w]
       rfl
      refine on (i := 14) (N := some 35) (fun K hK => ?_)
      refine goes_ Try.func101 (by kernel_rfl) rfl #[.slice Ao48 t1157.length co48, .slice Ao49 t1166.length co49] (by rfl) rfl rfl ga ?_
      with_reducible refine (corporaref36_Less.calls kj2 _ _ t1157 _ _ t1166 t1169 _ ?side1 ?side2 ?side3 ?side4 A32.out).mono ?_
      (case side1 => exact cl ((Kd.V_reads' HO1159.out).2.2))
      (case side2 => exact (Kd.V_reads' HO1159.out).2.1)
      (case side3 => exact cl ((Kd.V_reads' HO1168.out).2.2))
      (case side4 => exact (Kd.V_reads' HO1168.out).2.1)
      rintro e w' ⟨rfl, ⟨nd, rfl⟩⟩
      refine ⟨_, rfl, ?_⟩
      refine hK.out _ _ ⟨(blk_cell BK1147.out 0).trans rfl, (blk_cell BK1147.out 1).trans rfl, (blk_cell BK1147.out 2).trans rfl, (blk_cell BK1148.out 0).trans rfl, (blk_cell BK1148.out 1).trans rfl, (blk_cell BK1148.out 2).trans rfl⟩ (fun hHeld => ?_)
      clear hK K
      refine norm_ (a' := ?_) ?_ ?_
      rotate_left
      ·show Act.put _ (some 35) _ = _
       simp only [Act.put, List.setIfInBounds_toArray, List.set_cons_zero, List.set_cons_succ, i64_w, i32_w]
       rfl
      refine pu (i := 15) (N := some 5) ?_
      refine done_ (done_of HT_.out (by kernel_rfl)) ?_
      obtain ⟨hcz50_0, hcz50_1, hcz50_2, hfz50_0, hfz50_1, hfz50_2⟩ := z3 BK1147
      try go_wp2
      go_ret
      exact ⟨er, bs⟩
     ·replace c33 := Bool.eq_false_iff.mpr c33
      subst c33
      have H1 : (some t1169) = some r := by rw [if_neg (show ¬ (false = true) by decide)] at H; exact H
      clear H
      have H := H1
      clear H1
      obtain rfl := Option.some.inj H
      have hnb51 := NB1147_1148.out
      have hnc51 := NB1148_1147.out
      obtain ⟨hcz52_0, hcz52_1, hcz52_2, hfz52_0, hfz52_1, hfz52_2⟩ := z3 BK1147
      obtain ⟨hcz53_0, hcz53_1, hcz53_2, hfz53_0, hfz53_1, hfz53_2⟩ := z3 BK1148
      try go_wp2
      replace BK1147 := Aside0.mk (blk_drew BK1147.out)
      replace BK1148 := Aside0.mk (blk_drew BK1148.out)
      replace HB := Aside0.mk (below_drew1 HB.out)
      refine start_ (n := 16) (S := fun w' => w'.cell? ⟨gb1147, 0, none⟩ = some (.bool false) ∧ w'.cell? ⟨gb1147, 1, none⟩ = some (.string a0_1) ∧ w'.cell? ⟨gb1147, 2, none⟩ = some (.string a0_2) ∧ w'.cell? ⟨gb1148, 0, none⟩ = some (.bool a1_0) ∧ w'.cell? ⟨gb1148, 1, none⟩ = some (.string a1_1) ∧ w'.cell? ⟨gb1148, 2, none⟩ = some (.string a1_2)) (ds := []) #[false, false, false, false, false, false, false, false, false, false, false, false, false, false, false, false] (by kernel_rfl) rfl rfl ⟨(blk_cell BK1147.out 0).trans rfl, (blk_cell BK1147.out 1).trans rfl, (blk_cell BK1147.out 2).trans rfl, (blk_cell BK1148.out 0).trans rfl, (blk_cell BK1148.out 1).trans rfl, (blk_cell BK1148.out 2).trans rfl⟩ (fun hHeld => ?_); refine with_tabW corporaref36_Compare.tab7 corporaref36_Compare.bits7 (fun HT_ HW_ => ?_)
      generalize wc.drew = w54 at BK1147 BK1148 HB hHeld ⊢
      refine pu (i := 0) (N := some 21) ?_
      refine pu (i := 3) (N := some 24) ?_
      refine pu (i := 7) (N := some 28) ?_
      refine pu (i := 10) (N := some 31) ?_
      refine ta (i := 1) (N := some 22) hHeld ?_
      refine ta (i := 4) (N := some 25) hHeld ?_
      refine ta (i := 8) (N := some 29) hHeld ?_
      refine ta (i := 11) (N := some 32) hHeld ?_
      refine on (i := 2) (N := some 23) (fun K hK => ?_)
      refine goes_ Try.func88 (by kernel_rfl) rfl #[.string a0_1] (by rfl) rfl rfl ga ?_
      with_reducible refine (corporaref36_Big.calls kj2 a0_1 t1151 _ A26.out).mono ?_
      rintro e w55 ⟨v1152, rfl, ho0, hb⟩
      refine ⟨_, rfl, ?_⟩
      have HO1153 := Aside0.mk (Kd.V_lower (Kd.V_mono (ok' := fun k_ => k_ ≠ gb1147 ∧ k_ ≠ gb1148) ho0 (fun k_ hk_ => ⟨(fb BK1147 k_ hk_), (fb BK1148 k_ hk_)⟩)) (below_size bs))
      replace BK1147 := bb BK1147 hb
      replace BK1148 := bb BK1148 hb
      replace HB := hs HB hb
      (try clear hb)
      (try clear hb2)
      (try clear hk)
      (try clear hi)
      (try clear ho0)
      refine hK.out _ _ ⟨(blk_cell BK1147.out 0).trans rfl, (blk_cell BK1147.out 1).trans rfl, (blk_cell BK1147.out 2).trans rfl, (blk_cell BK1148.out 0).trans rfl, (blk_cell BK1148.out 1).trans rfl, (blk_cell BK1148.out 2).trans rfl⟩ (fun hHeld => ?_)
      clear hK K
      refine norm_ (a' := ?_) ?_ ?_
      rotate_left
      ·show Act.put _ (some 23) _ = _
       simp only [Act.put, List.setIfInBounds_toArray, List.set_cons_zero, List.set_cons_succ, i64_w, i32_w]
       rfl
      refine on (i := 5) (N := some 26) (fun K hK => ?_)
      refine goes_ Try.func88 (by kernel_rfl) rfl #[.string a1_2] (by rfl) rfl rfl ga ?_
      with_reducible refine (corporaref36_Big.calls kj2 a1_2 t1154 _ A27.out).mono ?_
      rintro e w56 ⟨v1155, rfl, ho0, hb⟩
      refine ⟨_, rfl, ?_⟩
      replace HO1153 := Aside0.mk (Kd.V_below (vl HO1153) hb)
      have HO1156 := Aside0.mk (Kd.V_lower (Kd.V_mono (ok' := fun k_ => k_ ≠ gb1147 ∧ k_ ≠ gb1148) ho0 (fun k_ hk_ => ⟨(fb BK1147 k_ hk_), (fb BK1148 k_ hk_)⟩)) (below_size bs))
      replace BK1147 := bb BK1147 hb
      replace BK1148 := bb BK1148 hb
      replace HB := hs HB hb
      (try clear hb)
      (try clear hb2)
      (try clear hk)
      (try clear hi)
      (try clear ho0)
      obtain ⟨Ao57, co57, eo57⟩ := Kd.V_slice HO1153.out
      (first | subst eo57 | (injection eo57 with f1_ f2_ f3_; have f4_ := f1_.symm; have f5_ := f3_.symm; clear f1_ f2_ f3_; subst f4_; subst f5_))
      obtain ⟨Ao58, co58, eo58⟩ := Kd.V_slice HO1156.out
      (first | subst eo58 | (injection eo58 with f1_ f2_ f3_; have f4_ := f1_.symm; have f5_ := f3_.symm; clear f1_ f2_ f3_; subst f4_; subst f5_))
      refine hK.out _ _ ⟨(blk_cell BK1147.out 0).trans rfl, (blk_cell BK1147.out 1).trans rfl, (blk_cell BK1147.out 2).trans rfl, (blk_cell BK1148.out 0).trans rfl, (blk_cell BK1148.out 1).trans rfl, (blk_cell BK1148.out 2).trans rfl⟩ (fun hHeld => ?_)
      clear hK K
      refine norm_ (a' := ?_) ?_ ?_
      rotate_left
      ·show Act.put _ (some 26) _ = _
       simp only [Act.put, List.setIfInBounds_toArray, List.set_cons_zero, List.set_cons_succ, i64_w, i32_w]
       rfl
      refine on (i := 6) (N := some 27) (fun K hK => ?_)
      refine goes_ Try.func89 (by kernel_rfl) rfl #[.slice Ao57 t1151.length co57, .slice Ao58 t1154.length co58] (by rfl) rfl rfl ga ?_
      with_reducible refine (corporaref36_Times.calls kj2 _ _ t1151 _ _ t1154 t1157 _ ?side1 ?side2 ?side3 ?side4 A28.out).mono ?_
      (case side1 => exact cl ((Kd.V_reads' HO1153.out).2.2))
      (case side2 => exact (Kd.V_reads' HO1153.out).2.1)
      (case side3 => exact cl ((Kd.V_reads' HO1156.out).2.2))
      (case side4 => exact (Kd.V_reads' HO1156.out).2.1)
      rintro e w59 ⟨v1158, rfl, ho0, hb⟩
      refine ⟨_, rfl, ?_⟩
      replace HO1153 := Aside0.mk (Kd.V_below (vl HO1153) hb)
      replace HO1156 := Aside0.mk (Kd.V_below (vl HO1156) hb)
      have HO1159 := Aside0.mk (Kd.V_lower (Kd.V_mono (ok' := fun k_ => k_ ≠ gb1147 ∧ k_ ≠ gb1148) ho0 (fun k_ hk_ => ⟨(fb BK1147 k_ hk_), (fb BK1148 k_ hk_)⟩)) (below_size bs))
      replace BK1147 := bb BK1147 hb
      replace BK1148 := bb BK1148 hb
      replace HB := hs HB hb
      (try clear hb)
      (try clear hb2)
      (try clear hk)
      (try clear hi)
      (try clear ho0)
      refine hK.out _ _ ⟨(blk_cell BK1147.out 0).trans rfl, (blk_cell BK1147.out 1).trans rfl, (blk_cell BK1147.out 2).trans rfl, (blk_cell BK1148.out 0).trans rfl, (blk_cell BK1148.out 1).trans rfl, (blk_cell BK1148.out 2).trans rfl⟩ (fun hHeld => ?_)
      clear hK K
      refine norm_ (a' := ?_) ?_ ?_
      rotate_left
      ·show Act.put _ (some 27) _ = _
       simp only [Act.put, List.setIfInBounds_toArray, List.set_cons_zero, List.set_cons_succ, i64_w, i32_w]
       rfl
      refine on (i := 9) (N := some 30) (fun K hK => ?_)
      refine goes_ Try.func88 (by kernel_rfl) rfl #[.string a1_1] (by rfl) rfl rfl ga ?_
      with_reducible refine (corporaref36_Big.calls kj2 a1_1 t1160 _ A29.out).mono ?_
      rintro e w60 ⟨v1161, rfl, ho0, hb⟩
      refine ⟨_, rfl, ?_⟩
      replace HO1153 := Aside0.mk (Kd.V_below (vl HO1153) hb)
      replace HO1156 := Aside0.mk (Kd.V_below (vl HO1156) hb)
      replace HO1159 := Aside0.mk (Kd.V_below (vl HO1159) hb)
      have HO1162 := Aside0.mk (Kd.V_lower (Kd.V_mono (ok' := fun k_ => k_ ≠ gb1147 ∧ k_ ≠ gb1148) ho0 (fun k_ hk_ => ⟨(fb BK1147 k_ hk_), (fb BK1148 k_ hk_)⟩)) (below_size bs))
      replace BK1147 := bb BK1147 hb
      replace BK1148 := bb BK1148 hb
      replace HB := hs HB hb
      (try clear hb)
      (try clear hb2)
      (try clear hk)
      (try clear hi)
      (try clear ho0)
      refine hK.out _ _ ⟨(blk_cell BK1147.out 0).trans rfl, (blk_cell BK1147.out 1).trans rfl, (blk_cell BK1147.out 2).trans rfl, (blk_cell BK1148.out 0).trans rfl, (blk_cell BK1148.out 1).trans rfl, (blk_cell BK1148.out 2).trans rfl⟩ (fun hHeld => ?_)
      clear hK K
      refine norm_ (a' := ?_) ?_ ?_
      rotate_left
      ·show Act.put _ (some 30) _ = _
       simp only [Act.put, List.setIfInBounds_toArray, List.set_cons_zero, List.set_cons_succ, i64_w, i32_w]
       rfl
      refine on (i := 12) (N := some 33) (fun K hK => ?_)
      refine goes_ Try.func88 (by kernel_rfl) rfl #[.string a0_2] (by rfl) rfl rfl ga ?_
      with_reducible refine (corporaref36_Big.calls kj2 a0_2 t1163 _ A30.out).mono ?_
      rintro e w61 ⟨v1164, rfl, ho0, hb⟩
      refine ⟨_, rfl, ?_⟩
      replace HO1153 := Aside0.mk (Kd.V_below (vl HO1153) hb)
      replace HO1156 := Aside0.mk (Kd.V_below (vl HO1156) hb)
      replace HO1159 := Aside0.mk (Kd.V_below (vl HO1159) hb)
      replace HO1162 := Aside0.mk (Kd.V_below (vl HO1162) hb)
      have HO1165 := Aside0.mk (Kd.V_lower (Kd.V_mono (ok' := fun k_ => k_ ≠ gb1147 ∧ k_ ≠ gb1148) ho0 (fun k_ hk_ => ⟨(fb BK1147 k_ hk_), (fb BK1148 k_ hk_)⟩)) (below_size bs))
      replace BK1147 := bb BK1147 hb
      replace BK1148 := bb BK1148 hb
      replace HB := hs HB hb
      (try clear hb)
      (try clear hb2)
      (try clear hk)
      (try clear hi)
      (try clear ho0)
      obtain ⟨Ao62, co62, eo62⟩ := Kd.V_slice HO1162.out
      (first | subst eo62 | (injection eo62 with f1_ f2_ f3_; have f4_ := f1_.symm; have f5_ := f3_.symm; clear f1_ f2_ f3_; subst f4_; subst f5_))
      obtain ⟨Ao63, co63, eo63⟩ := Kd.V_slice HO1165.out
      (first | subst eo63 | (injection eo63 with f1_ f2_ f3_; have f4_ := f1_.symm; have f5_ := f3_.symm; clear f1_ f2_ f3_; subst f4_; subst f5_))
      refine hK.out _ _ ⟨(blk_cell BK1147.out 0).trans rfl, (blk_cell BK1147.out 1).trans rfl, (blk_cell BK1147.out 2).trans rfl, (blk_cell BK1148.out 0).trans rfl, (blk_cell BK1148.out 1).trans rfl, (blk_cell BK1148.out 2).trans rfl⟩ (fun hHeld => ?_)
      clear hK K
      refine norm_ (a' := ?_) ?_ ?_
      rotate_left
      ·show Act.put _ (some 33) _ = _
       simp only [Act.put, List.setIfInBounds_toArray, List.set_cons_zero, List.set_cons_succ, i64_w, i32_w]
       rfl
      refine on (i := 13) (N := some 34) (fun K hK => ?_)
      refine goes_ Try.func89 (by kernel_rfl) rfl #[.slice Ao62 t1160.length co62, .slice Ao63 t1163.length co63] (by rfl) rfl rfl ga ?_
      with_reducible refine (corporaref36_Times.calls kj2 _ _ t1160 _ _ t1163 t1166 _ ?side1 ?side2 ?side3 ?side4 A31.out).mono ?_
      (case side1 => exact cl ((Kd.V_reads' HO1162.out).2.2))
      (case side2 => exact (Kd.V_reads' HO1162.out).2.1)
      (case side3 => exact cl ((Kd.V_reads' HO1165.out).2.2))
      (case side4 => exact (Kd.V_reads' HO1165.out).2.1)
      rintro e w64 ⟨v1167, rfl, ho0, hb⟩
      refine ⟨_, rfl, ?_⟩
      replace HO1153 := Aside0.mk (Kd.V_below (vl HO1153) hb)
      replace HO1156 := Aside0.mk (Kd.V_below (vl HO1156) hb)
      replace HO1159 := Aside0.mk (Kd.V_below (vl HO1159) hb)
      replace HO1162 := Aside0.mk (Kd.V_below (vl HO1162) hb)
      replace HO1165 := Aside0.mk (Kd.V_below (vl HO1165) hb)
      have HO1168 := Aside0.mk (Kd.V_lower (Kd.V_mono (ok' := fun k_ => k_ ≠ gb1147 ∧ k_ ≠ gb1148) ho0 (fun k_ hk_ => ⟨(fb BK1147 k_ hk_), (fb BK1148 k_ hk_)⟩)) (below_size bs))
      replace BK1147 := bb BK1147 hb
      replace BK1148 := bb BK1148 hb
      replace HB := hs HB hb
      (try clear hb)
      (try clear hb2)
      (try clear hk)
      (try clear hi)
      (try clear ho0)
      obtain ⟨Ao65, co65, eo65⟩ := Kd.V_slice HO1159.out
      (first | subst eo65 | (injection eo65 with f1_ f2_ f3_; have f4_ := f1_.symm; have f5_ := f3_.symm; clear f1_ f2_ f3_; subst f4_; subst f5_))
      obtain ⟨Ao66, co66, eo66⟩ := Kd.V_slice HO1168.out
      (first | subst eo66 | (injection eo66 with f1_ f2_ f3_; have f4_ := f1_.symm; have f5_ := f3_.symm; clear f1_ f2_ f3_; subst f4_; subst f5_))
      refine hK.out _ _ ⟨(blk_cell BK1147.out 0).trans rfl, (blk_cell BK1147.out 1).trans rfl, (blk_cell BK1147.out 2).trans rfl, (blk_cell BK1148.out 0).trans rfl, (blk_cell BK1148.out 1).trans rfl, (blk_cell BK1148.out 2).trans rfl⟩ (fun hHeld => ?_)
      clear hK K
      refine norm_ (a' := ?_) ?_ ?_
      rotate_left
      ·show Act.put _ (some 34) _ = _
       simp only [Act.put, List.setIfInBounds_toArray, List.set_cons_zero, List.set_cons_succ, i64_w, i32_w]
       rfl
      refine on (i := 14) (N := some 35) (fun K hK => ?_)
      refine goes_ Try.func101 (by kernel_rfl) rfl #[.slice Ao65 t1157.length co65, .slice Ao66 t1166.length co66] (by rfl) rfl rfl ga ?_
      with_reducible refine (corporaref36_Less.calls kj2 _ _ t1157 _ _ t1166 t1169 _ ?side1 ?side2 ?side3 ?side4 A32.out).mono ?_
      (case side1 => exact cl ((Kd.V_reads' HO1159.out).2.2))
      (case side2 => exact (Kd.V_reads' HO1159.out).2.1)
      (case side3 => exact cl ((Kd.V_reads' HO1168.out).2.2))
      (case side4 => exact (Kd.V_reads' HO1168.out).2.1)
      rintro e w' ⟨rfl, ⟨nd, rfl⟩⟩
      refine ⟨_, rfl, ?_⟩
      refine hK.out _ _ ⟨(blk_cell BK1147.out 0).trans rfl, (blk_cell BK1147.out 1).trans rfl, (blk_cell BK1147.out 2).trans rfl, (blk_cell BK1148.out 0).trans rfl, (blk_cell BK1148.out 1).trans rfl, (blk_cell BK1148.out 2).trans rfl⟩ (fun hHeld => ?_)
      clear hK K
      refine norm_ (a' := ?_) ?_ ?_
      rotate_left
      ·show Act.put _ (some 35) _ = _
       simp only [Act.put, List.setIfInBounds_toArray, List.set_cons_zero, List.set_cons_succ, i64_w, i32_w]
       rfl
      refine pu (i := 15) (N := some 5) ?_
      refine done_ (done_of HT_.out (by kernel_rfl)) ?_
      obtain ⟨hcz67_0, hcz67_1, hcz67_2, hfz67_0, hfz67_1, hfz67_2⟩ := z3 BK1147
      try go_wp2
      go_ret
      exact ⟨er, bs⟩
end Go.Proofs.Ytccgfmjcldifcaa.P
