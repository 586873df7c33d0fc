/- Walks of Go functions: what they compute; each theorem's conditions stand in it. -/
import Derived.Test.YtccgfmjcldifcaaT
import Derived.Test.YtccgfmjcldifcaaCAdd
import Derived.Test.YtccgfmjcldifcaaCCmp
import Derived.Test.YtccgfmjcldifcaaCMul
import Derived.Test.YtccgfmjcldifcaaDA
import Derived.Test.YtccgfmjcldifcaaDE
namespace Go.Proofs.Ytccgfmjcldifcaa.P
open Go.RowKit Go.Proofs.YtccgfmjcldifcaaW.PrintWords Go.Proofs.YtccgfmjcldifcaaW.PrintLast Go.Proofs.YtccgfmjcldifcaaW.PrintMore
attribute [local go_sem] max2_int min2_int max_two min_two max_three min_three max_four min_four
set_option linter.unusedVariables false
set_option linter.unusedSimpArgs false
def ratio_plus.T1 : Bool × List (List Nat × List Nat) := (true, [([], []), ([0], [0]), ([], []), ([2], [2]), ([1, 3], [1, 3]), ([], []), ([5], [5]), ([], []), ([7], [7]), ([6, 8, 4], [6, 8]), ([], []), ([10], [10]), ([], []), ([12], [12]), ([11, 13, 9], [11, 13]), ([4, 14, 0, 1, 2, 3, 4], [4]), ([9, 15, 0, 1, 2, 3, 4, 5, 6, 7, 8, 9, 15], [9]), ([14, 16, 0, 1, 2, 3, 4, 5, 6, 7, 8, 9, 10, 11, 12, 13, 14, 15, 16], [14])])
def ratio_plus.B1 : List Nat := [0, 1, 0, 4, 15, 0, 32, 0, 128, 511, 0, 1024, 0, 4096, 16383, 32767, 65535, 131071]
theorem ratio_plus.tab1 : rtab .any (opsOf Try.f105 1) = ratio_plus.T1 := by kernel_rfl
theorem ratio_plus.bits1 : waitsOk ratio_plus.T1.2 ratio_plus.B1 = true := by kernel_rfl
def ratio_plus.T3 : Bool × List (List Nat × List Nat) := (true, [([], []), ([0], [0]), ([], []), ([], []), ([2, 3], [2, 3]), ([], []), ([1, 4, 5], [1, 4, 5]), ([6, 4, 0, 1, 2, 3, 4, 5, 6], [6])])
def ratio_plus.B3 : List Nat := [0, 1, 0, 0, 12, 0, 63, 127]
theorem ratio_plus.tab3 : rtab .any (opsOf Try.f105 3) = ratio_plus.T3 := by kernel_rfl
theorem ratio_plus.bits3 : waitsOk ratio_plus.T3.2 ratio_plus.B3 = true := by kernel_rfl
def ratio_plus.T5 : Bool × List (List Nat × List Nat) := (true, [([], []), ([0], [0]), ([], []), ([], []), ([2, 3], [2, 3]), ([], []), ([1, 4, 5], [1, 4, 5]), ([6, 4, 0, 1, 2, 3, 4, 5, 6], [6])])
def ratio_plus.B5 : List Nat := [0, 1, 0, 0, 12, 0, 63, 127]
theorem ratio_plus.tab5 : rtab .any (opsOf Try.f105 5) = ratio_plus.T5 := by kernel_rfl
theorem ratio_plus.bits5 : waitsOk ratio_plus.T5.2 ratio_plus.B5 = true := by kernel_rfl
def ratio_plus.T6 : Bool × List (List Nat × List Nat) := (true, [([], []), ([0], [0]), ([], []), ([], []), ([2, 3], [2, 3]), ([], []), ([1, 4, 5], [1, 4, 5]), ([6, 4, 0, 1, 2, 3, 4, 5, 6], [6])])
def ratio_plus.B6 : List Nat := [0, 1, 0, 0, 12, 0, 63, 127]
theorem ratio_plus.tab6 : rtab .any (opsOf Try.f105 6) = ratio_plus.T6 := by kernel_rfl
theorem ratio_plus.bits6 : waitsOk ratio_plus.T6.2 ratio_plus.B6 = true := by kernel_rfl
set_option maxHeartbeats 8000000 in
set_option maxRecDepth 100000 in
theorem ratio_plus.calls (k : Nat) (a0_0 : Bool) (A0_1 : Option Addr) (c0_1 : Nat) (l0_1 : List Int) (A0_2 : Option Addr) (c0_2 : Nat) (l0_2 : List Int) (a1_0 : Bool) (A1_1 : Option Addr) (c1_1 : Nat) (l1_1 : List Int) (A1_2 : Option Addr) (c1_2 : Nat) (l1_2 : List Int) (r1 : Bool) (r2 : List Int) (r3 : List Int) (w : World) (hr0_1 : Kd.C (Kd.int .u32) w A0_1 l0_1.length l0_1) (hc0_1 : l0_1.length ≤ c0_1) (hr0_2 : Kd.C (Kd.int .u32) w A0_2 l0_2.length l0_2) (hc0_2 : l0_2.length ≤ c0_2) (hr1_1 : Kd.C (Kd.int .u32) w A1_1 l1_1.length l1_1) (hc1_1 : l1_1.length ≤ c1_1) (hr1_2 : Kd.C (Kd.int .u32) w A1_2 l1_2.length l1_2) (hc1_2 : l1_2.length ≤ c1_2) (h : ratio_plus.f k a0_0 l0_1 l0_2 a1_0 l1_1 l1_2 = some (r1, r2, r3)) :
  Calls Try.prog 105 #[.agg #[.bool a0_0, .slice A0_1 l0_1.length c0_1, .slice A0_2 l0_2.length c0_2], .agg #[.bool a1_0, .slice A1_1 l1_1.length c1_1, .slice A1_2 l1_2.length c1_2]] w fun e w' => ∃ v1_ v2_ : Value, e = .returned (.agg #[.bool r1, v1_, v2_]) ∧ Kd.V (Kd.int .u32) 117 w' w.heap.size (fun k_ => (w.heap.size ≤ k_)) v1_ r2 ∧ Kd.V (Kd.int .u32) 117 w' w.heap.size (fun k_ => (w.heap.size ≤ k_)) v2_ r3 ∧ Below w.heap.size w w' := by
 have hu88 := Try.underlying88
 have HR0_1 := Aside0.mk hr0_1
 have HC0_1 := Aside0.mk hc0_1
 clear hr0_1 hc0_1
 have HR0_2 := Aside0.mk hr0_2
 have HC0_2 := Aside0.mk hc0_2
 clear hr0_2 hc0_2
 have HR1_1 := Aside0.mk hr1_1
 have HC1_1 := Aside0.mk hc1_1
 clear hr1_1 hc1_1
 have HR1_2 := Aside0.mk hr1_2
 have HC1_2 := Aside0.mk hc1_2
 clear hr1_2 hc1_2
 have HB := Aside0.mk (Below.refl w.heap.size w)
 have H : Option.bind (bignat_Nat_Mul.f k l0_1 l1_2) _ = _ := h
 clear h
 replace H := Option.bind_eq_some_iff.mp H
 obtain ⟨t986, A30, H⟩ := H
 replace H : Option.bind (bignat_Nat_Mul.f k l1_1 l0_2) _ = _ := H
 have A3 := Aside0.mk A30
 clear A30
 replace H := Option.bind_eq_some_iff.mp H
 obtain ⟨t989, A40, H⟩ := H
 replace H : Option.bind (bignat_Nat_Mul.f k l0_2 l1_2) _ = _ := H
 have A4 := Aside0.mk A40
 clear A40
 replace H := Option.bind_eq_some_iff.mp H
 obtain ⟨t992, A50, H⟩ := H
 replace H : (if (a0_0 == a1_0) = true then _ else _) = _ := H
 have A5 := Aside0.mk A50
 clear A50
 have HH_ := Aside0.mk H
 clear H
 go_enter Try.func105, Try.ntmps105
 try go_wp2_with (first | ((with_reducible refine gate_dst (N := 2) rfl ?_); refine be (N := 2) (cs := #[.bool a0_0, .slice A0_1 l0_1.length c0_1, .slice A0_2 l0_2.length c0_2]) (t := 88) ?_; intro gb983 hg w8 hbox hb; have BK983 := Aside0.mk (hbox); have GW983 := gw HB hg; have GE983 := GW983; replace HB := hs HB hb; clear hb hbox hg) | ((with_reducible refine gate_dst (N := 3) rfl ?_); refine be (N := 3) (cs := #[.bool a1_0, .slice A1_1 l1_1.length c1_1, .slice A1_2 l1_2.length c1_2]) (t := 88) ?_; intro gb984 hg w9 hbox hb; have BK984 := Aside0.mk (hbox); have GW984 := gw HB hg; have GE984 := GW984; replace HB := hs HB hb; have NB983_984 := na BK983 hg; have NB984_983 := nz NB983_984; replace BK983 := bb BK983 hb; clear hb hbox hg) | ((with_reducible refine gate_dst (N := 4) rfl ?_); refine be (N := 4) (cs := #[.bool false, .slice none 0 0, .slice none 0 0]) (t := 88) ?_; intro gb985 hg w10 hbox hb; have BK985 := Aside0.mk (hbox); have GW985 := gw HB hg; have GE985 := GW985; replace HB := hs HB hb; have NB983_985 := na BK983 hg; have NB985_983 := nz NB983_985; replace BK983 := bb BK983 hb; have NB984_985 := na BK984 hg; have NB985_984 := nz NB984_985; replace BK984 := bb BK984 hb; clear hb hbox hg))
 replace BK983 := Aside0.mk (blk_drew BK983.out)
 replace BK984 := Aside0.mk (blk_drew BK984.out)
 replace BK985 := Aside0.mk (blk_drew BK985.out)
 replace HB := Aside0.mk (below_drew1 HB.out)
 refine start_ (n := 18) (S := fun w' => w'.cell? ⟨gb983, 0, none⟩ = some (.bool a0_0) ∧ w'.cell? ⟨gb983, 1, none⟩ = some (.slice A0_1 l0_1.length c0_1) ∧ w'.cell? ⟨gb983, 2, none⟩ = some (.slice A0_2 l0_2.length c0_2) ∧ w'.cell? ⟨gb984, 0, none⟩ = some (.bool a1_0) ∧ w'.cell? ⟨gb984, 1, none⟩ = some (.slice A1_1 l1_1.length c1_1) ∧ w'.cell? ⟨gb984, 2, none⟩ = some (.slice A1_2 l1_2.length c1_2)) (ds := []) #[false, false, false, false, false, false, false, false, false, false, false, false, false, false, false, false, false, false] (by kernel_rfl) rfl rfl ⟨(blk_cell BK983.out 0).trans rfl, (blk_cell BK983.out 1).trans rfl, (blk_cell BK983.out 2).trans rfl, (blk_cell BK984.out 0).trans rfl, (blk_cell BK984.out 1).trans rfl, (blk_cell BK984.out 2).trans rfl⟩ (fun hHeld => ?_); refine with_tabW ratio_plus.tab1 ratio_plus.bits1 (fun HT_ HW_ => ?_)
 generalize w10.drew = w11 at BK983 BK984 BK985 HB hHeld ⊢
 refine pu (i := 0) (N := some 8) ?_
 refine pu (i := 2) (N := some 10) ?_
 refine pu (i := 5) (N := some 13) ?_
 refine pu (i := 7) (N := some 15) ?_
 refine pu (i := 10) (N := some 18) ?_
 refine pu (i := 12) (N := some 20) ?_
 refine ta (i := 1) (N := some 9) hHeld ?_
 refine ta (i := 3) (N := some 11) hHeld ?_
 refine ta (i := 6) (N := some 14) hHeld ?_
 refine ta (i := 8) (N := some 16) hHeld ?_
 refine ta (i := 11) (N := some 19) hHeld ?_
 refine ta (i := 13) (N := some 21) hHeld ?_
 refine on (i := 4) (N := some 12) (fun K hK => ?_)
 refine goes_ Try.func78 (by kernel_rfl) rfl #[.slice A0_1 l0_1.length c0_1, .slice A1_2 l1_2.length c1_2] (by rfl) rfl rfl ga ?_
 with_reducible refine (bignat_Nat_Mul.calls k _ _ l0_1 _ _ l1_2 t986 _ ?side1 ?side2 ?side3 ?side4 A3.out).mono ?_
 (case side1 => exact cl ((Kd.C_below HR0_1.out HB.out)))
 (case side2 => exact HC0_1.out)
 (case side3 => exact cl ((Kd.C_below HR1_2.out HB.out)))
 (case side4 => exact HC1_2.out)
 rintro e w12 ⟨v987, rfl, ho0, hb⟩
 refine ⟨_, rfl, ?_⟩
 have HO988 := Aside0.mk (Kd.V_lower (Kd.V_mono (ok' := fun k_ => (w.heap.size ≤ k_) ∧ k_ ≠ gb983 ∧ k_ ≠ gb984 ∧ k_ ≠ gb985) ho0 (fun k_ hk_ => ⟨(Nat.le_trans (below_size bs) hk_), (fb BK983 k_ hk_), (fb BK984 k_ hk_), (fb BK985 k_ hk_)⟩)) (below_size bs))
 replace BK983 := bb BK983 hb
 replace BK984 := bb BK984 hb
 replace BK985 := bb BK985 hb
 replace HB := hs HB hb
 (try clear hb)
 (try clear hb2)
 (try clear hk)
 (try clear hi)
 (try clear ho0)
 refine hK.out _ _ ⟨(blk_cell BK983.out 0).trans rfl, (blk_cell BK983.out 1).trans rfl, (blk_cell BK983.out 2).trans rfl, (blk_cell BK984.out 0).trans rfl, (blk_cell BK984.out 1).trans rfl, (blk_cell BK984.out 2).trans rfl⟩ (fun hHeld => ?_)
 clear hK K
 refine norm_ (a' := ?_) ?_ ?_
 rotate_left
 ·show Act.put _ (some 12) _ = _
  simp only [Act.put, List.setIfInBounds_toArray, List.set_cons_zero, List.set_cons_succ, i64_w, i32_w]
  rfl
 refine on (i := 9) (N := some 17) (fun K hK => ?_)
 refine goes_ Try.func78 (by kernel_rfl) rfl #[.slice A1_1 l1_1.length c1_1, .slice A0_2 l0_2.length c0_2] (by rfl) rfl rfl ga ?_
 with_reducible refine (bignat_Nat_Mul.calls k _ _ l1_1 _ _ l0_2 t989 _ ?side1 ?side2 ?side3 ?side4 A4.out).mono ?_
 (case side1 => exact cl ((Kd.C_below HR1_1.out HB.out)))
 (case side2 => exact HC1_1.out)
 (case side3 => exact cl ((Kd.C_below HR0_2.out HB.out)))
 (case side4 => exact HC0_2.out)
 rintro e w13 ⟨v990, rfl, ho0, hb⟩
 refine ⟨_, rfl, ?_⟩
 replace HO988 := Aside0.mk (Kd.V_below (vl HO988) hb)
 have HO991 := Aside0.mk (Kd.V_lower (Kd.V_mono (ok' := fun k_ => (w.heap.size ≤ k_) ∧ k_ ≠ gb983 ∧ k_ ≠ gb984 ∧ k_ ≠ gb985) ho0 (fun k_ hk_ => ⟨(Nat.le_trans (below_size bs) hk_), (fb BK983 k_ hk_), (fb BK984 k_ hk_), (fb BK985 k_ hk_)⟩)) (below_size bs))
 replace BK983 := bb BK983 hb
 replace BK984 := bb BK984 hb
 replace BK985 := bb BK985 hb
 replace HB := hs HB hb
 (try clear hb)
 (try clear hb2)
 (try clear hk)
 (try clear hi)
 (try clear ho0)
 refine hK.out _ _ ⟨(blk_cell BK983.out 0).trans rfl, (blk_cell BK983.out 1).trans rfl, (blk_cell BK983.out 2).trans rfl, (blk_cell BK984.out 0).trans rfl, (blk_cell BK984.out 1).trans rfl, (blk_cell BK984.out 2).trans rfl⟩ (fun hHeld => ?_)
 clear hK K
 refine norm_ (a' := ?_) ?_ ?_
 rotate_left
 ·show Act.put _ (some 17) _ = _
  simp only [Act.put, List.setIfInBounds_toArray, List.set_cons_zero, List.set_cons_succ, i64_w, i32_w]
  rfl
 refine on (i := 14) (N := some 22) (fun K hK => ?_)
 refine goes_ Try.func78 (by kernel_rfl) rfl #[.slice A0_2 l0_2.length c0_2, .slice A1_2 l1_2.length c1_2] (by rfl) rfl rfl ga ?_
 with_reducible refine (bignat_Nat_Mul.calls k _ _ l0_2 _ _ l1_2 t992 _ ?side1 ?side2 ?side3 ?side4 A5.out).mono ?_
 (case side1 => exact cl ((Kd.C_below HR0_2.out HB.out)))
 (case side2 => exact HC0_2.out)
 (case side3 => exact cl ((Kd.C_below HR1_2.out HB.out)))
 (case side4 => exact HC1_2.out)
 rintro e w14 ⟨v993, rfl, ho0, hb⟩
 refine ⟨_, rfl, ?_⟩
 replace HO988 := Aside0.mk (Kd.V_below (vl HO988) hb)
 replace HO991 := Aside0.mk (Kd.V_below (vl HO991) hb)
 have HO994 := Aside0.mk (Kd.V_lower (Kd.V_mono (ok' := fun k_ => (w.heap.size ≤ k_) ∧ k_ ≠ gb983 ∧ k_ ≠ gb984 ∧ k_ ≠ gb985) ho0 (fun k_ hk_ => ⟨(Nat.le_trans (below_size bs) hk_), (fb BK983 k_ hk_), (fb BK984 k_ hk_), (fb BK985 k_ hk_)⟩)) (below_size bs))
 replace BK983 := bb BK983 hb
 replace BK984 := bb BK984 hb
 replace BK985 := bb BK985 hb
 replace HB := hs HB hb
 (try clear hb)
 (try clear hb2)
 (try clear hk)
 (try clear hi)
 (try clear ho0)
 refine hK.out _ _ ⟨(blk_cell BK983.out 0).trans rfl, (blk_cell BK983.out 1).trans rfl, (blk_cell BK983.out 2).trans rfl, (blk_cell BK984.out 0).trans rfl, (blk_cell BK984.out 1).trans rfl, (blk_cell BK984.out 2).trans rfl⟩ (fun hHeld => ?_)
 clear hK K
 refine norm_ (a' := ?_) ?_ ?_
 rotate_left
 ·show Act.put _ (some 22) _ = _
  simp only [Act.put, List.setIfInBounds_toArray, List.set_cons_zero, List.set_cons_succ, i64_w, i32_w]
  rfl
 refine pu (i := 15) (N := some 5) ?_
 refine pu (i := 16) (N := some 6) ?_
 refine pu (i := 17) (N := some 7) ?_
 refine done_ (done_of HT_.out (by kernel_rfl)) ?_
 have H := HH_.out
 clear HH_
 by_cases c6 : (a0_0 == a1_0) = true
 ·rw [if_pos c6] at H
  have c6b0 : (a0_0 == a1_0) = true := c6
  (try (have c6b1 : decide (a0_0 = a1_0) = true := by simpa using c6))
  (try (have c6b2 : (a0_0 == a1_0) = true := by simpa using c6))
  clear c6
  replace H := Option.bind_eq_some_iff.mp H
  obtain ⟨t995, A70, H⟩ := H
  replace H : (some (a0_0, t995, t992)) = some (r1, r2, r3) := H
  have A7 := Aside0.mk A70
  clear A70
  simp only [Option.some.injEq, Prod.mk.injEq] at H
  obtain ⟨rfl, rfl, rfl⟩ := H
  have hnb15 := NB983_984.out
  have hnc15 := NB984_983.out
  have hnb16 := NB983_985.out
  have hnc16 := NB985_983.out
  obtain ⟨hcz17_0, hcz17_1, hcz17_2, hfz17_0, hfz17_1, hfz17_2⟩ := z3 BK983
  have hnb18 := NB984_985.out
  have hnc18 := NB985_984.out
  obtain ⟨hcz19_0, hcz19_1, hcz19_2, hfz19_0, hfz19_1, hfz19_2⟩ := z3 BK984
  try go_wp2
  replace HO988 := Aside0.mk (Kd.V_drew HO988.out)
  replace HO991 := Aside0.mk (Kd.V_drew HO991.out)
  replace HO994 := Aside0.mk (Kd.V_drew HO994.out)
  replace BK983 := Aside0.mk (blk_drew BK983.out)
  replace BK984 := Aside0.mk (blk_drew BK984.out)
  replace BK985 := Aside0.mk (blk_drew BK985.out)
  replace HB := Aside0.mk (below_drew1 HB.out)
  obtain ⟨Ao21, co21, eo21⟩ := Kd.V_slice HO988.out
  (first | subst eo21 | (injection eo21 with f1_ f2_ f3_; have f4_ := f1_.symm; have f5_ := f3_.symm; clear f1_ f2_ f3_; subst f4_; subst f5_))
  obtain ⟨Ao22, co22, eo22⟩ := Kd.V_slice HO991.out
  (first | subst eo22 | (injection eo22 with f1_ f2_ f3_; have f4_ := f1_.symm; have f5_ := f3_.symm; clear f1_ f2_ f3_; subst f4_; subst f5_))
  refine start_ (n := 8) (S := fun w' => w'.cell? ⟨gb983, 0, none⟩ = some (.bool a0_0) ∧ w'.cell? ⟨gb983, 1, none⟩ = some (.slice A0_1 l0_1.length c0_1) ∧ w'.cell? ⟨gb983, 2, none⟩ = some (.slice A0_2 l0_2.length c0_2)) (ds := []) #[false, false, false, false, false, false, false, false] (by kernel_rfl) rfl rfl ⟨(blk_cell BK983.out 0).trans rfl, (blk_cell BK983.out 1).trans rfl, (blk_cell BK983.out 2).trans rfl⟩ (fun hHeld => ?_); refine with_tabW ratio_plus.tab3 ratio_plus.bits3 (fun HT_ HW_ => ?_)
  generalize w14.drew = w20 at HO988 HO991 HO994 BK983 BK984 BK985 HB hHeld ⊢
  refine pu (i := 0) (N := some 29) ?_
  refine pu (i := 2) (N := some 31) ?_
  refine pu (i := 3) (N := some 32) ?_
  refine pu (i := 5) (N := some 34) ?_
  refine ta (i := 1) (N := some 30) hHeld ?_
  refine on (i := 4) (N := some 33) (fun K hK => ?_)
  refine goes_ Try.func79 (by kernel_rfl) rfl #[.slice Ao21 t986.length co21, .slice Ao22 t989.length co22] (by rfl) rfl rfl ga ?_
  with_reducible refine (bignat_Nat_Add.calls k _ _ t986 _ _ t989 t995 _ ?side1 ?side2 ?side3 ?side4 A7.out).mono ?_
  (case side1 => exact cl ((Kd.V_reads' HO988.out).2.2))
  (case side2 => exact (Kd.V_reads' HO988.out).2.1)
  (case side3 => exact cl ((Kd.V_reads' HO991.out).2.2))
  (case side4 => exact (Kd.V_reads' HO991.out).2.1)
  rintro e w23 ⟨v996, rfl, ho0, hb⟩
  refine ⟨_, rfl, ?_⟩
  replace HO988 := Aside0.mk (Kd.V_below (vl HO988) hb)
  replace HO991 := Aside0.mk (Kd.V_below (vl HO991) hb)
  replace HO994 := Aside0.mk (Kd.V_below (vl HO994) hb)
  have HO997 := Aside0.mk (Kd.V_lower (Kd.V_mono (ok' := fun k_ => (w.heap.size ≤ k_) ∧ k_ ≠ gb983 ∧ k_ ≠ gb984 ∧ k_ ≠ gb985) ho0 (fun k_ hk_ => ⟨(Nat.le_trans (below_size bs) hk_), (fb BK983 k_ hk_), (fb BK984 k_ hk_), (fb BK985 k_ hk_)⟩)) (below_size bs))
  replace BK983 := bb BK983 hb
  replace BK984 := bb BK984 hb
  replace BK985 := bb BK985 hb
  replace HB := hs HB hb
  (try clear hb)
  (try clear hb2)
  (try clear hk)
  (try clear hi)
  (try clear ho0)
  obtain ⟨Ao24, co24, eo24⟩ := Kd.V_slice HO994.out
  (first | subst eo24 | (injection eo24 with f1_ f2_ f3_; have f4_ := f1_.symm; have f5_ := f3_.symm; clear f1_ f2_ f3_; subst f4_; subst f5_))
  obtain ⟨Ao25, co25, eo25⟩ := Kd.V_slice HO997.out
  (first | subst eo25 | (injection eo25 with f1_ f2_ f3_; have f4_ := f1_.symm; have f5_ := f3_.symm; clear f1_ f2_ f3_; subst f4_; subst f5_))
  refine hK.out _ _ ⟨(blk_cell BK983.out 0).trans rfl, (blk_cell BK983.out 1).trans rfl, (blk_cell BK983.out 2).trans rfl⟩ (fun hHeld => ?_)
  clear hK K
  refine norm_ (a' := ?_) ?_ ?_
  rotate_left
  ·show Act.put _ (some 33) _ = _
   simp only [Act.put, List.setIfInBounds_toArray, List.set_cons_zero, List.set_cons_succ, i64_w, i32_w]
   rfl
  refine pu (i := 6) (N := some 35) ?_
  refine on (i := 7) (N := none) (fun K hK => ?_)
  have hs26 : w23.cell? ⟨gb985, 0, none⟩ = some (.bool false) := (blk_cell BK985.out 0).trans rfl
  have hfs26 := blk_frozen BK985.out 0
  have hns26_0 := NB983_985.out
  have hns26_1 := NB984_985.out
  have hms26_0 := NB985_983.out
  have hms26_1 := NB985_984.out
  have hs27 : w23.cell? ⟨gb985, 1, none⟩ = some (.slice none 0 0) := (blk_cell BK985.out 1).trans rfl
  have hfs27 := blk_frozen BK985.out 1
  have hns27_0 := NB983_985.out
  have hns27_1 := NB984_985.out
  have hms27_0 := NB985_983.out
  have hms27_1 := NB985_984.out
  have hs28 : w23.cell? ⟨gb985, 2, none⟩ = some (.slice none 0 0) := (blk_cell BK985.out 2).trans rfl
  have hfs28 := blk_frozen BK985.out 2
  have hns28_0 := NB983_985.out
  have hns28_1 := NB984_985.out
  have hms28_0 := NB985_983.out
  have hms28_1 := NB985_984.out
  refine skip_ (w1 := ?_) (by rfl) rfl ?_ ?_
  rotate_left
  ·go_simp
   rfl
  refine hK.out _ _ ⟨((cell_far (p := ⟨gb985, _, none⟩) NB983_985.out _).trans (((cell_far (p := ⟨gb985, _, none⟩) NB983_985.out _).trans (((cell_far (p := ⟨gb985, _, none⟩) NB983_985.out _).trans hHeld.1))))), ((cell_far (p := ⟨gb985, _, none⟩) NB983_985.out _).trans (((cell_far (p := ⟨gb985, _, none⟩) NB983_985.out _).trans (((cell_far (p := ⟨gb985, _, none⟩) NB983_985.out _).trans hHeld.2.1))))), ((cell_far (p := ⟨gb985, _, none⟩) NB983_985.out _).trans (((cell_far (p := ⟨gb985, _, none⟩) NB983_985.out _).trans (((cell_far (p := ⟨gb985, _, none⟩) NB983_985.out _).trans hHeld.2.2)))))⟩ (fun hHeld => ?_)
  clear hK K
  refine done_ (done_of HT_.out (by kernel_rfl)) ?_
  try go_wp2
  refine bodyPost_ret (results_cell_row rfl _ _ gb985 88 #[.bool a0_0, .slice Ao25 t995.length co25, .slice Ao24 t992.length co24] (0, 0) _ rfl bw Try.underlying88 rfl (by kernel_rfl)) rfl ?_
  exact ⟨_, _, er, by (with_reducible repeat (first | apply Kd.V_alloc | apply Kd.V_drewN | apply Kd.V_drew)); exact Kd.V_mono (Kd.V_far (p := ⟨gb985, 2, none⟩) (Kd.V_far (p := ⟨gb985, 1, none⟩) (Kd.V_far (p := ⟨gb985, 0, none⟩) (Kd.V_mono HO997.out (fun k_ hk => (⟨hk, hk.2.2.2⟩ : _ ∧ k_ ≠ gb985))) (fun _ hk => hk.2) (.bool a0_0)) (fun _ hk => hk.2) (.slice Ao25 t995.length co25)) (fun _ hk => hk.2) (.slice Ao24 t992.length co24)) (fun _ hk => hk.1.1), by (with_reducible repeat (first | apply Kd.V_alloc | apply Kd.V_drewN | apply Kd.V_drew)); exact Kd.V_mono (Kd.V_far (p := ⟨gb985, 2, none⟩) (Kd.V_far (p := ⟨gb985, 1, none⟩) (Kd.V_far (p := ⟨gb985, 0, none⟩) (Kd.V_mono HO994.out (fun k_ hk => (⟨hk, hk.2.2.2⟩ : _ ∧ k_ ≠ gb985))) (fun _ hk => hk.2) (.bool a0_0)) (fun _ hk => hk.2) (.slice Ao25 t995.length co25)) (fun _ hk => hk.2) (.slice Ao24 t992.length co24)) (fun _ hk => hk.1.1), bs⟩
 ·rw [if_neg c6] at H
  have c6b0 : (a0_0 == a1_0) = false := by simpa using c6
  (try (have c6b1 : decide (a0_0 = a1_0) = false := by simpa using c6))
  (try (have c6b2 : (a0_0 == a1_0) = false := by simpa using c6))
  (try (have c6b3 : ¬ (a0_0 = a1_0) := by simpa using c6))
  clear c6
  replace H := Option.bind_eq_some_iff.mp H
  obtain ⟨t998, A290, H⟩ := H
  replace H : (if t998 ≥ 0 then _ else _) = _ := H
  have A29 := Aside0.mk A290
  clear A290
  by_cases c30 : t998 ≥ 0
  ·rw [if_pos c30] at H
   have c30b0 : decide (0 ≤ t998) = true := decide_eq_true c30
   clear c30
   replace H := Option.bind_eq_some_iff.mp H
   obtain ⟨t999, A310, H⟩ := H
   replace H : (some (a0_0, t999, t992)) = some (r1, r2, r3) := H
   have A31 := Aside0.mk A310
   clear A310
   simp only [Option.some.injEq, Prod.mk.injEq] at H
   obtain ⟨rfl, rfl, rfl⟩ := H
   have hnb39 := NB983_984.out
   have hnc39 := NB984_983.out
   have hnb40 := NB983_985.out
   have hnc40 := NB985_983.out
   obtain ⟨hcz41_0, hcz41_1, hcz41_2, hfz41_0, hfz41_1, hfz41_2⟩ := z3 BK983
   have hnb42 := NB984_985.out
   have hnc42 := NB985_984.out
   obtain ⟨hcz43_0, hcz43_1, hcz43_2, hfz43_0, hfz43_1, hfz43_2⟩ := z3 BK984
   obtain ⟨Ao44, co44, eo44⟩ := Kd.V_slice HO988.out
   subst eo44
   obtain ⟨Ao45, co45, eo45⟩ := Kd.V_slice HO991.out
   subst eo45
   try go_wp2_with (first | ((with_reducible refine gate_callee (f := 94) rfl ?_); refine goesL_ (some 39) rfl rfl Try.func94 (by kernel_rfl) rfl #[.slice Ao44 t986.length co44, .slice Ao45 t989.length co45] rfl ga ?_; (with_reducible refine (bignat_Nat_Cmp.calls k _ _ t986 _ _ t989 t998 _ ?side1 ?side2 ?side3 ?side4 A29.out).mono ?_); (case side1 => exact cl ((Kd.V_reads' HO988.out).2.2)); (case side2 => exact (Kd.V_reads' HO988.out).2.1); (case side3 => exact cl ((Kd.V_reads' HO991.out).2.2)); (case side4 => exact (Kd.V_reads' HO991.out).2.1); rintro e w' ⟨rfl, ⟨nd, rfl⟩⟩; refine ⟨_, rfl, ?_⟩; (try (rw [drewN_self w14]; generalize hq_ : World.drewN w14 _ = w14; have n0_ : Aside0 (Kd.V (Kd.int .u32) 117 w14 w.heap.size (fun k_ => (w.heap.size ≤ k_) ∧ k_ ≠ gb983 ∧ k_ ≠ gb984 ∧ k_ ≠ gb985) (.slice Ao44 t986.length co44) t986) := ⟨by rw [← hq_]; exact (vl HO988)⟩; have n1_ : Aside0 (Kd.V (Kd.int .u32) 117 w14 w.heap.size (fun k_ => (w.heap.size ≤ k_) ∧ k_ ≠ gb983 ∧ k_ ≠ gb984 ∧ k_ ≠ gb985) (.slice Ao45 t989.length co45) t989) := ⟨by rw [← hq_]; exact (vl HO991)⟩; have n2_ : Aside0 (Kd.V (Kd.int .u32) 117 w14 w.heap.size (fun k_ => (w.heap.size ≤ k_) ∧ k_ ≠ gb983 ∧ k_ ≠ gb984 ∧ k_ ≠ gb985) v993 t992) := ⟨by rw [← hq_]; exact (vl HO994)⟩; have n3_ : Aside0 (w14.heap[gb983]? = some (.cells #[.bool a0_0, .slice A0_1 l0_1.length c0_1, .slice A0_2 l0_2.length c0_2] 88 (0, 0))) := ⟨by rw [← hq_]; exact bk⟩; have n4_ : Aside0 (w14.heap[gb984]? = some (.cells #[.bool a1_0, .slice A1_1 l1_1.length c1_1, .slice A1_2 l1_2.length c1_2] 88 (0, 0))) := ⟨by rw [← hq_]; exact bk⟩; have n5_ : Aside0 (w14.heap[gb985]? = some (.cells #[.bool false, .slice none 0 0, .slice none 0 0] 88 (0, 0))) := ⟨by rw [← hq_]; exact bk⟩; have n6_ : Aside0 (Below w.heap.size w w14) := ⟨by rw [← hq_]; exact bs⟩; clear HO988 HO991 HO994 BK983 BK984 BK985 HB hq_; have HO988 := n0_; have HO991 := n1_; have HO994 := n2_; have BK983 := n3_; have BK984 := n4_; have BK985 := n5_; have HB := n6_; clear n0_ n1_ n2_ n3_ n4_ n5_ n6_))))
   replace HO988 := Aside0.mk (Kd.V_drew HO988.out)
   replace HO991 := Aside0.mk (Kd.V_drew HO991.out)
   replace HO994 := Aside0.mk (Kd.V_drew HO994.out)
   replace BK983 := Aside0.mk (blk_drew BK983.out)
   replace BK984 := Aside0.mk (blk_drew BK984.out)
   replace BK985 := Aside0.mk (blk_drew BK985.out)
   replace HB := Aside0.mk (below_drew1 HB.out)
   refine start_ (n := 8) (S := fun w' => w'.cell? ⟨gb983, 0, none⟩ = some (.bool a0_0) ∧ w'.cell? ⟨gb983, 1, none⟩ = some (.slice A0_1 l0_1.length c0_1) ∧ w'.cell? ⟨gb983, 2, none⟩ = some (.slice A0_2 l0_2.length c0_2)) (ds := []) #[false, false, false, false, false, false, false, false] (by kernel_rfl) rfl rfl ⟨(blk_cell BK983.out 0).trans rfl, (blk_cell BK983.out 1).trans rfl, (blk_cell BK983.out 2).trans rfl⟩ (fun hHeld => ?_); refine with_tabW ratio_plus.tab5 ratio_plus.bits5 (fun HT_ HW_ => ?_)
   generalize w14.drew = w46 at HO988 HO991 HO994 BK983 BK984 BK985 HB hHeld ⊢
   refine pu (i := 0) (N := some 41) ?_
   refine pu (i := 2) (N := some 43) ?_
   refine pu (i := 3) (N := some 44) ?_
   refine pu (i := 5) (N := some 46) ?_
   refine ta (i := 1) (N := some 42) hHeld ?_
   refine on (i := 4) (N := some 45) (fun K hK => ?_)
   refine goes_ Try.func96 (by kernel_rfl) rfl #[.slice Ao44 t986.length co44, .slice Ao45 t989.length co45] (by rfl) rfl rfl ga ?_
   with_reducible refine (bignat_Nat_Sub.calls k _ _ t986 _ _ t989 t999 _ ?side1 ?side2 ?side3 ?side4 A31.out).mono ?_
   (case side1 => exact cl ((Kd.V_reads' HO988.out).2.2))
   (case side2 => exact (Kd.V_reads' HO988.out).2.1)
   (case side3 => exact cl ((Kd.V_reads' HO991.out).2.2))
   (case side4 => exact (Kd.V_reads' HO991.out).2.1)
   rintro e w47 ⟨v1000, rfl, ho0, hb⟩
   refine ⟨_, rfl, ?_⟩
   replace HO988 := Aside0.mk (Kd.V_below (vl HO988) hb)
   replace HO991 := Aside0.mk (Kd.V_below (vl HO991) hb)
   replace HO994 := Aside0.mk (Kd.V_below (vl HO994) hb)
   have HO1001 := Aside0.mk (Kd.V_lower (Kd.V_mono (ok' := fun k_ => (w.heap.size ≤ k_) ∧ k_ ≠ gb983 ∧ k_ ≠ gb984 ∧ k_ ≠ gb985) ho0 (fun k_ hk_ => ⟨(Nat.le_trans (below_size bs) hk_), (fb BK983 k_ hk_), (fb BK984 k_ hk_), (fb BK985 k_ hk_)⟩)) (below_size bs))
   replace BK983 := bb BK983 hb
   replace BK984 := bb BK984 hb
   replace BK985 := bb BK985 hb
   replace HB := hs HB hb
   (try clear hb)
   (try clear hb2)
   (try clear hk)
   (try clear hi)
   (try clear ho0)
   obtain ⟨Ao48, co48, eo48⟩ := Kd.V_slice HO994.out
   (first | subst eo48 | (injection eo48 with f1_ f2_ f3_; have f4_ := f1_.symm; have f5_ := f3_.symm; clear f1_ f2_ f3_; subst f4_; subst f5_))
   obtain ⟨Ao49, co49, eo49⟩ := Kd.V_slice HO1001.out
   (first | subst eo49 | (injection eo49 with f1_ f2_ f3_; have f4_ := f1_.symm; have f5_ := f3_.symm; clear f1_ f2_ f3_; subst f4_; subst f5_))
   refine hK.out _ _ ⟨(blk_cell BK983.out 0).trans rfl, (blk_cell BK983.out 1).trans rfl, (blk_cell BK983.out 2).trans rfl⟩ (fun hHeld => ?_)
   clear hK K
   refine norm_ (a' := ?_) ?_ ?_
   rotate_left
   ·show Act.put _ (some 45) _ = _
    simp only [Act.put, List.setIfInBounds_toArray, List.set_cons_zero, List.set_cons_succ, i64_w, i32_w]
    rfl
   refine pu (i := 6) (N := some 47) ?_
   refine on (i := 7) (N := none) (fun K hK => ?_)
   have hs50 : w47.cell? ⟨gb985, 0, none⟩ = some (.bool false) := (blk_cell BK985.out 0).trans rfl
   have hfs50 := blk_frozen BK985.out 0
   have hns50_0 := NB983_985.out
   have hns50_1 := NB984_985.out
   have hms50_0 := NB985_983.out
   have hms50_1 := NB985_984.out
   have hs51 : w47.cell? ⟨gb985, 1, none⟩ = some (.slice none 0 0) := (blk_cell BK985.out 1).trans rfl
   have hfs51 := blk_frozen BK985.out 1
   have hns51_0 := NB983_985.out
   have hns51_1 := NB984_985.out
   have hms51_0 := NB985_983.out
   have hms51_1 := NB985_984.out
   have hs52 : w47.cell? ⟨gb985, 2, none⟩ = some (.slice none 0 0) := (blk_cell BK985.out 2).trans rfl
   have hfs52 := blk_frozen BK985.out 2
   have hns52_0 := NB983_985.out
   have hns52_1 := NB984_985.out
   have hms52_0 := NB985_983.out
   have hms52_1 := NB985_984.out
   refine skip_ (w1 := ?_) (by rfl) rfl ?_ ?_
   rotate_left
   ·go_simp
    rfl
   refine hK.out _ _ ⟨((cell_far (p := ⟨gb985, _, none⟩) NB983_985.out _).trans (((cell_far (p := ⟨gb985, _, none⟩) NB983_985.out _).trans (((cell_far (p := ⟨gb985, _, none⟩) NB983_985.out _).trans hHeld.1))))), ((cell_far (p := ⟨gb985, _, none⟩) NB983_985.out _).trans (((cell_far (p := ⟨gb985, _, none⟩) NB983_985.out _).trans (((cell_far (p := ⟨gb985, _, none⟩) NB983_985.out _).trans hHeld.2.1))))), ((cell_far (p := ⟨gb985, _, none⟩) NB983_985.out _).trans (((cell_far (p := ⟨gb985, _, none⟩) NB983_985.out _).trans (((cell_far (p := ⟨gb985, _, none⟩) NB983_985.out _).trans hHeld.2.2)))))⟩ (fun hHeld => ?_)
   clear hK K
   refine done_ (done_of HT_.out (by kernel_rfl)) ?_
   try go_wp2
   refine bodyPost_ret (results_cell_row rfl _ _ gb985 88 #[.bool a0_0, .slice Ao49 t999.length co49, .slice Ao48 t992.length co48] (0, 0) _ rfl bw Try.underlying88 rfl (by kernel_rfl)) rfl ?_
   exact ⟨_, _, er, by (with_reducible repeat (first | apply Kd.V_alloc | apply Kd.V_drewN | apply Kd.V_drew)); exact Kd.V_mono (Kd.V_far (p := ⟨gb985, 2, none⟩) (Kd.V_far (p := ⟨gb985, 1, none⟩) (Kd.V_far (p := ⟨gb985, 0, none⟩) (Kd.V_mono HO1001.out (fun k_ hk => (⟨hk, hk.2.2.2⟩ : _ ∧ k_ ≠ gb985))) (fun _ hk => hk.2) (.bool a0_0)) (fun _ hk => hk.2) (.slice Ao49 t999.length co49)) (fun _ hk => hk.2) (.slice Ao48 t992.length co48)) (fun _ hk => hk.1.1), by (with_reducible repeat (first | apply Kd.V_alloc | apply Kd.V_drewN | apply Kd.V_drew)); exact Kd.V_mono (Kd.V_far (p := ⟨gb985, 2, none⟩) (Kd.V_far (p := ⟨gb985, 1, none⟩) (Kd.V_far (p := ⟨gb985, 0, none⟩) (Kd.V_mono HO994.out (fun k_ hk => (⟨hk, hk.2.2.2⟩ : _ ∧ k_ ≠ gb985))) (fun _ hk => hk.2) (.bool a0_0)) (fun _ hk => hk.2) (.slice Ao49 t999.length co49)) (fun _ hk => hk.2) (.slice Ao48 t992.length co48)) (fun _ hk => hk.1.1), bs⟩
  ·rw [if_neg c30] at H
   have c30b0 : decide (0 ≤ t998) = false := decide_eq_false c30
   clear c30
   replace H := Option.bind_eq_some_iff.mp H
   obtain ⟨t1002, A530, H⟩ := H
   replace H : (some (a1_0, t1002, t992)) = some (r1, r2, r3) := H
   have A53 := Aside0.mk A530
   clear A530
   simp only [Option.some.injEq, Prod.mk.injEq] at H
   obtain ⟨rfl, rfl, rfl⟩ := H
   have hnb61 := NB983_984.out
   have hnc61 := NB984_983.out
   have hnb62 := NB983_985.out
   have hnc62 := NB985_983.out
   obtain ⟨hcz63_0, hcz63_1, hcz63_2, hfz63_0, hfz63_1, hfz63_2⟩ := z3 BK983
   have hnb64 := NB984_985.out
   have hnc64 := NB985_984.out
   obtain ⟨hcz65_0, hcz65_1, hcz65_2, hfz65_0, hfz65_1, hfz65_2⟩ := z3 BK984
   obtain ⟨Ao66, co66, eo66⟩ := Kd.V_slice HO988.out
   subst eo66
   obtain ⟨Ao67, co67, eo67⟩ := Kd.V_slice HO991.out
   subst eo67
   try go_wp2_with (first | ((with_reducible refine gate_callee (f := 94) rfl ?_); refine goesL_ (some 39) rfl rfl Try.func94 (by kernel_rfl) rfl #[.slice Ao66 t986.length co66, .slice Ao67 t989.length co67] rfl ga ?_; (with_reducible refine (bignat_Nat_Cmp.calls k _ _ t986 _ _ t989 t998 _ ?side1 ?side2 ?side3 ?side4 A29.out).mono ?_); (case side1 => exact cl ((Kd.V_reads' HO988.out).2.2)); (case side2 => exact (Kd.V_reads' HO988.out).2.1); (case side3 => exact cl ((Kd.V_reads' HO991.out).2.2)); (case side4 => exact (Kd.V_reads' HO991.out).2.1); rintro e w' ⟨rfl, ⟨nd, rfl⟩⟩; refine ⟨_, rfl, ?_⟩; (try (rw [drewN_self w14]; generalize hq_ : World.drewN w14 _ = w14; have n0_ : Aside0 (Kd.V (Kd.int .u32) 117 w14 w.heap.size (fun k_ => (w.heap.size ≤ k_) ∧ k_ ≠ gb983 ∧ k_ ≠ gb984 ∧ k_ ≠ gb985) (.slice Ao66 t986.length co66) t986) := ⟨by rw [← hq_]; exact (vl HO988)⟩; have n1_ : Aside0 (Kd.V (Kd.int .u32) 117 w14 w.heap.size (fun k_ => (w.heap.size ≤ k_) ∧ k_ ≠ gb983 ∧ k_ ≠ gb984 ∧ k_ ≠ gb985) (.slice Ao67 t989.length co67) t989) := ⟨by rw [← hq_]; exact (vl HO991)⟩; have n2_ : Aside0 (Kd.V (Kd.int .u32) 117 w14 w.heap.size (fun k_ => (w.heap.size ≤ k_) ∧ k_ ≠ gb983 ∧ k_ ≠ gb984 ∧ k_ ≠ gb985) v993 t992) := ⟨by rw [← hq_]; exact (vl HO994)⟩; have n3_ : Aside0 (w14.heap[gb983]? = some (.cells #[.bool a0_0, .slice A0_1 l0_1.length c0_1, .slice A0_2 l0_2.length c0_2] 88 (0, 0))) := ⟨by rw [← hq_]; exact bk⟩; have n4_ : Aside0 (w14.heap[gb984]? = some (.cells #[.bool a1_0, .slice A1_1 l1_1.length c1_1, .slice A1_2 l1_2.length c1_2] 88 (0, 0))) := ⟨by rw [← hq_]; exact bk⟩; have n5_ : Aside0 (w14.heap[gb985]? = some (.cells #[.bool false, .slice none 0 0, .slice none 0 0] 88 (0, 0))) := ⟨by rw [← hq_]; exact bk⟩; have n6_ : Aside0 (Below w.heap.size w w14) := ⟨by rw [← hq_]; exact bs⟩; clear HO988 HO991 HO994 BK983 BK984 BK985 HB hq_; have HO988 := n0_; have HO991 := n1_; have HO994 := n2_; have BK983 := n3_; have BK984 := n4_; have BK985 := n5_; have HB := n6_; clear n0_ n1_ n2_ n3_ n4_ n5_ n6_))))
   replace HO988 := Aside0.mk (Kd.V_drew HO988.out)
   replace HO991 := Aside0.mk (Kd.V_drew HO991.out)
   replace HO994 := Aside0.mk (Kd.V_drew HO994.out)
   replace BK983 := Aside0.mk (blk_drew BK983.out)
   replace BK984 := Aside0.mk (blk_drew BK984.out)
   replace BK985 := Aside0.mk (blk_drew BK985.out)
   replace HB := Aside0.mk (below_drew1 HB.out)
   refine start_ (n := 8) (S := fun w' => w'.cell? ⟨gb984, 0, none⟩ = some (.bool a1_0) ∧ w'.cell? ⟨gb984, 1, none⟩ = some (.slice A1_1 l1_1.length c1_1) ∧ w'.cell? ⟨gb984, 2, none⟩ = some (.slice A1_2 l1_2.length c1_2)) (ds := []) #[false, false, false, false, false, false, false, false] (by kernel_rfl) rfl rfl ⟨(blk_cell BK984.out 0).trans rfl, (blk_cell BK984.out 1).trans rfl, (blk_cell BK984.out 2).trans rfl⟩ (fun hHeld => ?_); refine with_tabW ratio_plus.tab6 ratio_plus.bits6 (fun HT_ HW_ => ?_)
   generalize w14.drew = w68 at HO988 HO991 HO994 BK983 BK984 BK985 HB hHeld ⊢
   refine pu (i := 0) (N := some 48) ?_
   refine pu (i := 2) (N := some 50) ?_
   refine pu (i := 3) (N := some 51) ?_
   refine pu (i := 5) (N := some 53) ?_
   refine ta (i := 1) (N := some 49) hHeld ?_
   refine on (i := 4) (N := some 52) (fun K hK => ?_)
   refine goes_ Try.func96 (by kernel_rfl) rfl #[.slice Ao67 t989.length co67, .slice Ao66 t986.length co66] (by rfl) rfl rfl ga ?_
   with_reducible refine (bignat_Nat_Sub.calls k _ _ t989 _ _ t986 t1002 _ ?side1 ?side2 ?side3 ?side4 A53.out).mono ?_
   (case side1 => exact cl ((Kd.V_reads' HO991.out).2.2))
   (case side2 => exact (Kd.V_reads' HO991.out).2.1)
   (case side3 => exact cl ((Kd.V_reads' HO988.out).2.2))
   (case side4 => exact (Kd.V_reads' HO988.out).2.1)
   rintro e w69 ⟨v1003, rfl, ho0, hb⟩
   refine ⟨_, rfl, ?_⟩
   replace HO988 := Aside0.mk (Kd.V_below (vl HO988) hb)
   replace HO991 := Aside0.mk (Kd.V_below (vl HO991) hb)
   replace HO994 := Aside0.mk (Kd.V_below (vl HO994) hb)
   have HO1004 := Aside0.mk (Kd.V_lower (Kd.V_mono (ok' := fun k_ => (w.heap.size ≤ k_) ∧ k_ ≠ gb983 ∧ k_ ≠ gb984 ∧ k_ ≠ gb985) ho0 (fun k_ hk_ => ⟨(Nat.le_trans (below_size bs) hk_), (fb BK983 k_ hk_), (fb BK984 k_ hk_), (fb BK985 k_ hk_)⟩)) (below_size bs))
   replace BK983 := bb BK983 hb
   replace BK984 := bb BK984 hb
   replace BK985 := bb BK985 hb
   replace HB := hs HB hb
   (try clear hb)
   (try clear hb2)
   (try clear hk)
   (try clear hi)
   (try clear ho0)
   obtain ⟨Ao70, co70, eo70⟩ := Kd.V_slice HO994.out
   (first | subst eo70 | (injection eo70 with f1_ f2_ f3_; have f4_ := f1_.symm; have f5_ := f3_.symm; clear f1_ f2_ f3_; subst f4_; subst f5_))
   obtain ⟨Ao71, co71, eo71⟩ := Kd.V_slice HO1004.out
   (first | subst eo71 | (injection eo71 with f1_ f2_ f3_; have f4_ := f1_.symm; have f5_ := f3_.symm; clear f1_ f2_ f3_; subst f4_; subst f5_))
   refine hK.out _ _ ⟨(blk_cell BK984.out 0).trans rfl, (blk_cell BK984.out 1).trans rfl, (blk_cell BK984.out 2).trans rfl⟩ (fun hHeld => ?_)
   clear hK K
   refine norm_ (a' := ?_) ?_ ?_
   rotate_left
   ·show Act.put _ (some 52) _ = _
    simp only [Act.put, List.setIfInBounds_toArray, List.set_cons_zero, List.set_cons_succ, i64_w, i32_w]
    rfl
   refine pu (i := 6) (N := some 54) ?_
   refine on (i := 7) (N := none) (fun K hK => ?_)
   have hs72 : w69.cell? ⟨gb985, 0, none⟩ = some (.bool false) := (blk_cell BK985.out 0).trans rfl
   have hfs72 := blk_frozen BK985.out 0
   have hns72_0 := NB983_985.out
   have hns72_1 := NB984_985.out
   have hms72_0 := NB985_983.out
   have hms72_1 := NB985_984.out
   have hs73 : w69.cell? ⟨gb985, 1, none⟩ = some (.slice none 0 0) := (blk_cell BK985.out 1).trans rfl
   have hfs73 := blk_frozen BK985.out 1
   have hns73_0 := NB983_985.out
   have hns73_1 := NB984_985.out
   have hms73_0 := NB985_983.out
   have hms73_1 := NB985_984.out
   have hs74 : w69.cell? ⟨gb985, 2, none⟩ = some (.slice none 0 0) := (blk_cell BK985.out 2).trans rfl
   have hfs74 := blk_frozen BK985.out 2
   have hns74_0 := NB983_985.out
   have hns74_1 := NB984_985.out
   have hms74_0 := NB985_983.out
   have hms74_1 := NB985_984.out
   refine skip_ (w1 := ?_) (by rfl) rfl ?_ ?_
   rotate_left
   ·go_simp
    rfl
   refine hK.out _ _ ⟨((cell_far (p := ⟨gb985, _, none⟩) NB984_985.out _).trans (((cell_far (p := ⟨gb985, _, none⟩) NB984_985.out _).trans (((cell_far (p := ⟨gb985, _, none⟩) NB984_985.out _).trans hHeld.1))))), ((cell_far (p := ⟨gb985, _, none⟩) NB984_985.out _).trans (((cell_far (p := ⟨gb985, _, none⟩) NB984_985.out _).trans (((cell_far (p := ⟨gb985, _, none⟩) NB984_985.out _).trans hHeld.2.1))))), ((cell_far (p := ⟨gb985, _, none⟩) NB984_985.out _).trans (((cell_far (p := ⟨gb985, _, none⟩) NB984_985.out _).trans (((cell_far (p := ⟨gb985, _, none⟩) NB984_985.out _).trans hHeld.2.2)))))⟩ (fun hHeld => ?_)
   clear hK K
   refine done_ (done_of HT_.out (by kernel_rfl)) ?_
   try go_wp2
   refine bodyPost_ret (results_cell_row rfl _ _ gb985 88 #[.bool a1_0, .slice Ao71 t1002.length co71, .slice Ao70 t992.length co70] (0, 0) _ rfl bw Try.underlying88 rfl (by kernel_rfl)) rfl ?_
   exact ⟨_, _, er, by (with_reducible repeat (first | apply Kd.V_alloc | apply Kd.V_drewN | apply Kd.V_drew)); exact Kd.V_mono (Kd.V_far (p := ⟨gb985, 2, none⟩) (Kd.V_far (p := ⟨gb985, 1, none⟩) (Kd.V_far (p := ⟨gb985, 0, none⟩) (Kd.V_mono HO1004.out (fun k_ hk => (⟨hk, hk.2.2.2⟩ : _ ∧ k_ ≠ gb985))) (fun _ hk => hk.2) (.bool a1_0)) (fun _ hk => hk.2) (.slice Ao71 t1002.length co71)) (fun _ hk => hk.2) (.slice Ao70 t992.length co70)) (fun _ hk => hk.1.1), by (with_reducible repeat (first | apply Kd.V_alloc | apply Kd.V_drewN | apply Kd.V_drew)); exact Kd.V_mono (Kd.V_far (p := ⟨gb985, 2, none⟩) (Kd.V_far (p := ⟨gb985, 1, none⟩) (Kd.V_far (p := ⟨gb985, 0, none⟩) (Kd.V_mono HO994.out (fun k_ hk => (⟨hk, hk.2.2.2⟩ : _ ∧ k_ ≠ gb985))) (fun _ hk => hk.2) (.bool a1_0)) (fun _ hk => hk.2) (.slice Ao71 t1002.length co71)) (fun _ hk => hk.2) (.slice Ao70 t992.length co70)) (fun _ hk => hk.1.1), bs⟩
end Go.Proofs.Ytccgfmjcldifcaa.P
