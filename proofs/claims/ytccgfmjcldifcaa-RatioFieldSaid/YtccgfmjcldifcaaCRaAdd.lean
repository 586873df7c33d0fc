/- What each Go function computes, as plain Lean functions, and the walks that show it; each theorem's conditions stand in it. -/
import Derived.Test.YtccgfmjcldifcaaT
import Derived.Test.YtccgfmjcldifcaaCIsRatio
import Derived.Test.YtccgfmjcldifcaaCLow
import Derived.Test.YtccgfmjcldifcaaCPlus
import Derived.Test.YtccgfmjcldifcaaDA
import Derived.Test.YtccgfmjcldifcaaDE
namespace Go.Proofs.Ytccgfmjcldifcaa.P
open Go.RowKit Go.Proofs.YtccgfmjcldifcaaW.PrintWords Go.Proofs.YtccgfmjcldifcaaW.PrintLast Go.Proofs.YtccgfmjcldifcaaW.PrintMore
attribute [local go_sem] max2_int min2_int max_two min_two max_three min_three max_four min_four   -- for this text's walks alone
set_option linter.unusedVariables false
set_option linter.unusedSimpArgs false
def ratio_Add.T4 : Bool × List (List Nat × List Nat) := (true, [([], []), ([0], [0]), ([1], [1]), ([], []), ([3], [3]), ([4], [4]), ([2, 5], [2, 5]), ([6, 6], [6]), ([7], [7]), ([7], [7]), ([8, 7, 0, 1, 2, 3, 4, 5, 6, 7, 8, 9], [8]), ([9, 10, 0, 1, 2, 3, 4, 5, 6, 7, 8, 9, 10], [9])])
def ratio_Add.B4 : List Nat := [0, 1, 3, 0, 8, 24, 63, 127, 255, 255, 1023, 2047]
theorem ratio_Add.tab4 : rtab .any (opsOf Try.f42 4) = ratio_Add.T4 := by kernel_rfl
theorem ratio_Add.bits4 : waitsOk ratio_Add.T4.2 ratio_Add.B4 = true := by kernel_rfl
set_option maxHeartbeats 8000000 in
set_option maxRecDepth 100000 in
theorem ratio_Add.calls (k : Nat) (a0_0 : Bool) (a0_1 : ByteArray) (a0_2 : ByteArray) (a1_0 : Bool) (a1_1 : ByteArray) (a1_2 : ByteArray) (r1 : Bool) (r2 : ByteArray) (r3 : ByteArray) (r4 : Int) (w : World) (h : ratio_Add.f k a0_0 a0_1 a0_2 a1_0 a1_1 a1_2 = some (r1, r2, r3, r4)) :
  Calls Try.prog 42 #[.agg #[.bool a0_0, .string a0_1, .string a0_2], .agg #[.bool a1_0, .string a1_1, .string a1_2]] w fun e w' => e = .returned (.tuple #[.agg #[.bool r1, .string r2, .string r3], .int .i64 r4]) ∧ Below w.heap.size w w' := by
 have hu35 := Try.underlying35
 have hu88 := Try.underlying88
 have HB := Aside0.mk (Below.refl w.heap.size w)
 have H : Option.bind (ratio_read.f k (([(⟨a0_0, a0_1, a0_2⟩ : S35), (⟨a1_0, a1_1, a1_2⟩ : S35)] : List (S35)))) _ = _ := h
 clear h
 obtain ⟨y1008, hy1008⟩ : ∃ y_ : List (S35), y_ = (([(⟨a0_0, a0_1, a0_2⟩ : S35), (⟨a1_0, a1_1, a1_2⟩ : S35)] : List (S35))) := ⟨_, rfl⟩
 replace H : ((ratio_read.f k y1008).bind fun bt1011 => (if bt1011.2 = true then (if 0 < (bt1011.1.length : Int) then (if 1 < (bt1011.1.length : Int) then ((ratio_plus.f k ((rd_T88 bt1011.1 0).f0) ((rd_T88 bt1011.1 0).f1) ((rd_T88 bt1011.1 0).f2) ((rd_T88 bt1011.1 1).f0) ((rd_T88 bt1011.1 1).f1) ((rd_T88 bt1011.1 1).f2)).bind fun bt1017 => ((ratio_number_lowest.f k bt1017.1 bt1017.2.1 bt1017.2.2).bind fun bt1024 => (some (bt1024.1, bt1024.2.1, bt1024.2.2.1, bt1024.2.2.2)))) else (none)) else (none)) else (some (false, (⟨#[]⟩ : ByteArray), (⟨#[]⟩ : ByteArray), 1)))) = some (r1, r2, r3, r4) := by first | (rw [hy1008]; with_reducible exact H) | (have H2_ := (Option.bind_some _ _).symm.trans H; rw [hy1008]; with_reducible exact H2_) | (have H2_ := (Option.bind_some _ _).symm.trans H; with_reducible exact H2_) | with_reducible exact H | (rw [hy1008]; exact H) | exact H
 have Ny1008 := Aside0.mk hy1008
 clear hy1008
 replace H := Option.bind_eq_some_iff.mp H
 obtain ⟨⟨t1011, t1012⟩, A30, H⟩ := H
 replace H : (if t1012 = true then _ else _) = _ := H
 have A3 := Aside0.mk A30
 clear A30
 by_cases c4 : t1012 = true
 ·subst c4
  have H1 : (if 0 < (t1011.length : Int) then _ else _) = _ := (if_pos rfl).symm.trans H
  clear H
  have H := H1
  clear H1
  by_cases c5 : 0 < (t1011.length : Int)
  ·rw [if_pos c5] at H
   have c5b0 : decide (0 < (t1011.length : Int)) = true := decide_eq_true c5
   have c5b1 : decide (0 < t1011.length) = true := decide_eq_true (by omega)
   clear c5
   by_cases c6 : 1 < (t1011.length : Int)
   ·rw [if_pos c6] at H
    have c6b0 : decide (1 < (t1011.length : Int)) = true := decide_eq_true c6
    have c6b1 : decide (1 < t1011.length) = true := decide_eq_true (by omega)
    clear c6
    replace H := Option.bind_eq_some_iff.mp H
    obtain ⟨⟨t1017, t1018, t1021⟩, A70, H⟩ := H
    replace H : Option.bind (ratio_number_lowest.f k t1017 t1018 t1021) _ = _ := H
    have A7 := Aside0.mk A70
    clear A70
    replace H := Option.bind_eq_some_iff.mp H
    obtain ⟨⟨t1024, t1025, t1026, t1027⟩, A80, H⟩ := H
    replace H : (some (t1024, t1025, t1026, t1027)) = some (r1, r2, r3, r4) := H
    have A8 := Aside0.mk A80
    clear A80
    simp only [Option.some.injEq, Prod.mk.injEq] at H
    obtain ⟨rfl, rfl, rfl, rfl⟩ := H
    go_enter Try.func42, Try.ntmps42
    try go_wp2_with (first | ((with_reducible refine gate_dst (N := 2) rfl ?_); refine be (N := 2) (cs := #[.bool a0_0, .string a0_1, .string a0_2]) (t := 35) ?_; intro gb1005 hg w9 hbox hb; have BK1005 := Aside0.mk (hbox); have GW1005 := gw HB hg; have GE1005 := GW1005; replace HB := hs HB hb; clear hb hbox hg) | ((with_reducible refine gate_dst (N := 3) rfl ?_); refine be (N := 3) (cs := #[.bool a1_0, .string a1_1, .string a1_2]) (t := 35) ?_; intro gb1006 hg w10 hbox hb; have BK1006 := Aside0.mk (hbox); have GW1006 := gw HB hg; have GE1006 := GW1006; replace HB := hs HB hb; have NB1005_1006 := na BK1005 hg; have NB1006_1005 := nz NB1005_1006; replace BK1005 := bb BK1005 hb; clear hb hbox hg) | ((with_reducible refine gate_dst (N := 4) rfl ?_); refine be (N := 4) (cs := #[.bool false, .string (⟨#[]⟩ : ByteArray), .string (⟨#[]⟩ : ByteArray)]) (t := 35) ?_; intro gb1007 hg w11 hbox hb; have BK1007 := Aside0.mk (hbox); have GW1007 := gw HB hg; have GE1007 := GW1007; replace HB := hs HB hb; have NB1005_1007 := na BK1005 hg; have NB1007_1005 := nz NB1005_1007; replace BK1005 := bb BK1005 hb; have NB1006_1007 := na BK1006 hg; have NB1007_1006 := nz NB1006_1007; replace BK1006 := bb BK1006 hb; clear hb hbox hg; have hnb12 := NB1005_1006.out; have hnc12 := NB1006_1005.out; have hnb13 := NB1005_1007.out; have hnc13 := NB1007_1005.out; obtain ⟨hcz14_0, hcz14_1, hcz14_2, hfz14_0, hfz14_1, hfz14_2⟩ := z3 BK1005; have hnb15 := NB1006_1007.out; have hnc15 := NB1007_1006.out; obtain ⟨hcz16_0, hcz16_1, hcz16_2, hfz16_0, hfz16_1, hfz16_2⟩ := z3 BK1006) | ((with_reducible refine gate_dst (N := 11) rfl ?_); refine Kd.R_lit k35 _ 35 ?hg (N := 11) ?hd (xs := ([(⟨a0_0, a0_1, a0_2⟩ : S35), (⟨a1_0, a1_1, a1_2⟩ : S35)] : List (S35))) (inner := [.bool a0_0, .string a0_1, .string a0_2, .bool a1_0, .string a1_1, .string a1_2]) (ok := fun _ => True) (okp := fun _ => True) ?hr ?hp (fun _ hk => hk) trivial (Below.refl _ _) (Nat.le_refl _) (by simp) ?_; (case hd => rfl); (case hg => rfl); (case hr => first | (go_simp; done) | (go_simp; rfl)); (case hp => exact (Reps.c3 (show Kd.M k35 _ _ _ (⟨a0_0, a0_1, a0_2⟩ : S35) [.bool a0_0, .string a0_1, .string a0_2] from (k35_mkM _ _ _ (⟨a0_0, a0_1, a0_2⟩ : S35) )) (Reps.c3 (show Kd.M k35 _ _ _ (⟨a1_0, a1_1, a1_2⟩ : S35) [.bool a1_0, .string a1_1, .string a1_2] from (k35_mkM _ _ _ (⟨a1_0, a1_1, a1_2⟩ : S35) )) (Reps.none _ _)))); intro v1009 w17 ho18 hb hg_ hnew_; clear hg_ hnew_; (first | rw [← Ny1008.out] at ho18 | (simp only [Int.reduceToNat] at ho18; rw [← Ny1008.out] at ho18)); have HO1010 := Aside0.mk (Kd.R_lower (Kd.R_newB (Kd.R_newB (Kd.R_newB ho18 (g := gb1005) (o := .cells #[.bool a0_0, .string a0_1, .string a0_2] 35 (0, 0)) bk) (g := gb1006) (o := .cells #[.bool a1_0, .string a1_1, .string a1_2] 35 (0, 0)) bk) (g := gb1007) (o := .cells #[.bool false, .string (⟨#[]⟩ : ByteArray), .string (⟨#[]⟩ : ByteArray)] 35 (0, 0)) bk) (below_size bs)); replace BK1005 := bb BK1005 hb; replace BK1006 := bb BK1006 hb; replace BK1007 := bb BK1007 hb; replace HB := hs HB hb; clear hb ho18; obtain ⟨Ao19, co19, eo19⟩ := Kd.R_slice HO1010.out; subst eo19) | ((with_reducible refine gate_callee (f := 82) rfl ?_); refine goesL_ (some 12) rfl rfl Try.func82 (by kernel_rfl) rfl #[.slice Ao19 y1008.length co19] rfl ga ?_; (with_reducible refine (ratio_read.calls k _ _ y1008 t1011 true _ ?side1 ?side2 A3.out).mono ?_); (case side1 => exact cl ((Kd.R_reads' HO1010.out).2.2)); (case side2 => exact (Kd.R_reads' HO1010.out).2.1); rintro e w20 ⟨v1013, rfl, ho0, hb⟩; refine ⟨_, rfl, ?_⟩; replace HO1010 := Aside0.mk (Kd.R_below (rl HO1010) hb); have HO1014 := Aside0.mk (Kd.S_lower ho0 (below_size bs)); replace BK1005 := bb BK1005 hb; replace BK1006 := bb BK1006 hb; replace BK1007 := bb BK1007 hb; replace HB := hs HB hb; (try clear hb); (try clear ho0)))
    replace HO1010 := Aside0.mk (Kd.R_drew HO1010.out)
    replace HO1014 := Aside0.mk (Kd.S_drew HO1014.out)
    replace BK1005 := Aside0.mk (blk_drew BK1005.out)
    replace BK1006 := Aside0.mk (blk_drew BK1006.out)
    replace BK1007 := Aside0.mk (blk_drew BK1007.out)
    replace HB := Aside0.mk (below_drew1 HB.out)
    obtain ⟨Ao22, co22, eo22⟩ := Kd.S_slice HO1014.out
    (first | subst eo22 | (injection eo22 with f1_ f2_ f3_; have f4_ := f1_.symm; have f5_ := f3_.symm; clear f1_ f2_ f3_; subst f4_; subst f5_))
    have q1015 : 0 < (t1011.length : Int) := dt
    obtain ⟨ad1015, A1015_1, c1015_1, A1015_2, c1015_2, e1015, hx1015_0, hx1015_1, hx1015_2, HR1015_1, HC1015_1, HR1015_2, HC1015_2, HL1015_1, HL1015_2⟩ := r88z HO1014.out q1015
    cases e1015
    have qi1015 : (0 < t1011.length) = True := eq_true (by omega)
    have p1015 : (0 ≤ (0 : Int)) = True := eq_true (by omega)
    replace q1015 := eq_true q1015
    have q1016 : 1 < (t1011.length : Int) := dt
    obtain ⟨ad1016, A1016_1, c1016_1, A1016_2, c1016_2, e1016, hx1016_0, hx1016_1, hx1016_2, HR1016_1, HC1016_1, HR1016_2, HC1016_2, HL1016_1, HL1016_2⟩ := r88o HO1014.out q1016
    obtain rfl : ad1015 = ad1016 := (by injection e1016)
    have qi1016 : (1 < t1011.length) = True := eq_true (by omega)
    have p1016 : (0 ≤ (1 : Int)) = True := eq_true (by omega)
    replace q1016 := eq_true q1016
    refine start_ (n := 12) (S := fun w' => w'.cell? ad1015 = some (.bool ((rd_T88 t1011 0).f0)) ∧ w'.cell? ⟨ad1015.block, ad1015.off + 1, none⟩ = some (.slice A1015_1 ((rd_T88 t1011 0).f1).length c1015_1) ∧ w'.cell? ⟨ad1015.block, ad1015.off + 2, none⟩ = some (.slice A1015_2 ((rd_T88 t1011 0).f2).length c1015_2) ∧ w'.cell? ⟨ad1015.block, ad1015.off + 3, none⟩ = some (.bool ((rd_T88 t1011 1).f0)) ∧ w'.cell? ⟨ad1015.block, ad1015.off + 3 + 1, none⟩ = some (.slice A1016_1 ((rd_T88 t1011 1).f1).length c1016_1) ∧ w'.cell? ⟨ad1015.block, ad1015.off + 3 + 2, none⟩ = some (.slice A1016_2 ((rd_T88 t1011 1).f2).length c1016_2)) (ds := []) #[false, false, false, false, false, false, false, false, false, false, false, false] (by kernel_rfl) rfl rfl ⟨hx1015_0, hx1015_1, hx1015_2, hx1016_0, hx1016_1, hx1016_2⟩ (fun hHeld => ?_); refine with_tabW ratio_Add.tab4 ratio_Add.bits4 (fun HT_ HW_ => ?_)
    generalize w20.drew = w21 at HO1010 HO1014 BK1005 BK1006 BK1007 HB HL1015_1 HL1015_2 HL1016_1 HL1016_2 HR1015_1 HR1015_2 HR1016_1 HR1016_2 hx1015_0 hx1015_1 hx1015_2 hx1016_0 hx1016_1 hx1016_2 hHeld ⊢
    refine pure_ (i := 0) (N := some 18) (v := ?_) (a' := ?_) #[true, false, false, false, false, false, false, false, false, false, false, false] rfl rfl (any_of HT_.out (by kernel_rfl)) (fun _ _ _ h => h) (Or.inl ⟨by rfl, ?_⟩) ?_ ?_
    rotate_left
    ·intro w'
     go_simp
     with_reducible rfl
    rotate_left
    ·simp only [Act.put, List.setIfInBounds_toArray, List.set_cons_zero, List.set_cons_succ, i64_w, i32_w]
     rfl
    refine pure_ (i := 1) (N := some 19) (v := ?_) (a' := ?_) #[true, true, false, false, false, false, false, false, false, false, false, false] rfl rfl (any_of HT_.out (by kernel_rfl)) (fun _ _ _ h => h) (Or.inl ⟨by rfl, ?_⟩) ?_ ?_
    rotate_left
    ·intro w'
     go_simp
     with_reducible rfl
    rotate_left
    ·simp only [Act.put, List.setIfInBounds_toArray, List.set_cons_zero, List.set_cons_succ, i64_w, i32_w]
     rfl
    refine pure_ (i := 3) (N := some 21) (v := ?_) (a' := ?_) #[true, true, false, true, false, false, false, false, false, false, false, false] rfl rfl (any_of HT_.out (by kernel_rfl)) (fun _ _ _ h => h) (Or.inl ⟨by rfl, ?_⟩) ?_ ?_
    rotate_left
    ·intro w'
     go_simp
     with_reducible rfl
    rotate_left
    ·simp only [Act.put, List.setIfInBounds_toArray, List.set_cons_zero, List.set_cons_succ, i64_w, i32_w]
     rfl
    refine pure_ (i := 4) (N := some 22) (v := ?_) (a' := ?_) #[true, true, false, true, true, false, false, false, false, false, false, false] rfl rfl (any_of HT_.out (by kernel_rfl)) (fun _ _ _ h => h) (Or.inl ⟨by rfl, ?_⟩) ?_ ?_
    rotate_left
    ·intro w'
     go_simp
     with_reducible rfl
    rotate_left
    ·simp only [Act.put, List.setIfInBounds_toArray, List.set_cons_zero, List.set_cons_succ, i64_w, i32_w]
     rfl
    refine take_ (i := 2) (N := some 20) (v := ?_) (a' := ?_) #[true, true, true, true, true, false, false, false, false, false, false, false] rfl rfl (take_ofW HT_.out HW_.out (by kernel_rfl)) (fun _ _ _ h => h) (Or.inl ⟨by rfl, ?_⟩) hHeld ?_ ?_
    rotate_left
    ·rintro w' ⟨s0, s1, s2, s3, s4, s5⟩
     go_simp
     with_reducible rfl
    rotate_left
    ·simp only [Act.put, List.setIfInBounds_toArray, List.set_cons_zero, List.set_cons_succ, i64_w, i32_w]
     rfl
    refine take_ (i := 5) (N := some 23) (v := ?_) (a' := ?_) #[true, true, true, true, true, true, false, false, false, false, false, false] rfl rfl (take_ofW HT_.out HW_.out (by kernel_rfl)) (fun _ _ _ h => h) (Or.inl ⟨by rfl, ?_⟩) hHeld ?_ ?_
    rotate_left
    ·rintro w' ⟨s0, s1, s2, s3, s4, s5⟩
     go_simp
     with_reducible rfl
    rotate_left
    ·simp only [Act.put, List.setIfInBounds_toArray, List.set_cons_zero, List.set_cons_succ, i64_w, i32_w]
     rfl
    refine one_ (i := 6) (N := some 24) #[true, true, true, true, true, true, true, false, false, false, false, false] rfl rfl (one_of HT_.out (by kernel_rfl)) (by decide) (fun K hK => ?_)
    refine goes_ Try.func105 (by kernel_rfl) rfl #[.agg #[.bool ((rd_T88 t1011 0).f0), .slice A1015_1 ((rd_T88 t1011 0).f1).length c1015_1, .slice A1015_2 ((rd_T88 t1011 0).f2).length c1015_2], .agg #[.bool ((rd_T88 t1011 1).f0), .slice A1016_1 ((rd_T88 t1011 1).f1).length c1016_1, .slice A1016_2 ((rd_T88 t1011 1).f2).length c1016_2]] (by rfl) rfl rfl ga ?_
    with_reducible refine (ratio_plus.calls k ((rd_T88 t1011 0).f0) _ _ ((rd_T88 t1011 0).f1) _ _ ((rd_T88 t1011 0).f2) ((rd_T88 t1011 1).f0) _ _ ((rd_T88 t1011 1).f1) _ _ ((rd_T88 t1011 1).f2) t1017 t1018 t1021 _ ?side1 ?side2 ?side3 ?side4 ?side5 ?side6 ?side7 ?side8 A7.out).mono ?_
    (case side1 => repeat (first | exact (cl HR1015_1.out) | (with_reducible refine Kd.C_alloc ?_ _) | (with_reducible refine Kd.C_drewN ?_ _) | (with_reducible refine Kd.C_drew ?_)))
    (case side2 => exact HC1015_1.out)
    (case side3 => repeat (first | exact (cl HR1015_2.out) | (with_reducible refine Kd.C_alloc ?_ _) | (with_reducible refine Kd.C_drewN ?_ _) | (with_reducible refine Kd.C_drew ?_)))
    (case side4 => exact HC1015_2.out)
    (case side5 => repeat (first | exact (cl HR1016_1.out) | (with_reducible refine Kd.C_alloc ?_ _) | (with_reducible refine Kd.C_drewN ?_ _) | (with_reducible refine Kd.C_drew ?_)))
    (case side6 => exact HC1016_1.out)
    (case side7 => repeat (first | exact (cl HR1016_2.out) | (with_reducible refine Kd.C_alloc ?_ _) | (with_reducible refine Kd.C_drewN ?_ _) | (with_reducible refine Kd.C_drew ?_)))
    (case side8 => exact HC1016_2.out)
    rintro e w23 ⟨v1019, v1022, rfl, ho0, ho1, hb⟩
    have HS0_ := (hb.cell (World.block_lt_of_cell? _ _ (hHeld.1))).trans (hHeld.1)
    have HS1_ := (hb.cell (World.block_lt_of_cell? _ _ (hHeld.2.1))).trans (hHeld.2.1)
    have HS2_ := (hb.cell (World.block_lt_of_cell? _ _ (hHeld.2.2.1))).trans (hHeld.2.2.1)
    have HS3_ := (hb.cell (World.block_lt_of_cell? _ _ (hHeld.2.2.2.1))).trans (hHeld.2.2.2.1)
    have HS4_ := (hb.cell (World.block_lt_of_cell? _ _ (hHeld.2.2.2.2.1))).trans (hHeld.2.2.2.2.1)
    have HS5_ := (hb.cell (World.block_lt_of_cell? _ _ (hHeld.2.2.2.2.2))).trans (hHeld.2.2.2.2.2)
    refine ⟨_, rfl, ?_⟩
    replace HL1015_1 := Aside0.mk (Kd.R_below (rl HL1015_1) hb)
    replace HL1015_2 := Aside0.mk (Kd.R_below (rl HL1015_2) hb)
    replace HL1016_1 := Aside0.mk (Kd.R_below (rl HL1016_1) hb)
    replace HL1016_2 := Aside0.mk (Kd.R_below (rl HL1016_2) hb)
    have HO1020 := Aside0.mk (Kd.V_lower (Kd.V_mono (ok' := fun k_ => some k_ ≠ (.slice Ao19 y1008.length co19 : Value).ownBlock ∧ some k_ ≠ (.slice (some ad1015) t1011.length co22 : Value).ownBlock ∧ k_ ≠ gb1005 ∧ k_ ≠ gb1006 ∧ k_ ≠ gb1007) ho0 (fun k_ hk_ => ⟨(Kd.fresh' (Kd.R_lt (rl HO1010)) k_ hk_), (Kd.fresh' (Kd.S_lt (by (with_reducible repeat (first | apply Kd.S_alloc | apply Kd.S_drewN | apply Kd.S_drew)); exact HO1014.out)) k_ hk_), (fb BK1005 k_ hk_), (fb BK1006 k_ hk_), (fb BK1007 k_ hk_)⟩)) (below_size bs))
    have HO1023 := Aside0.mk (Kd.V_lower (Kd.V_mono (ok' := fun k_ => some k_ ≠ (.slice Ao19 y1008.length co19 : Value).ownBlock ∧ some k_ ≠ (.slice (some ad1015) t1011.length co22 : Value).ownBlock ∧ k_ ≠ gb1005 ∧ k_ ≠ gb1006 ∧ k_ ≠ gb1007) ho1 (fun k_ hk_ => ⟨(Kd.fresh' (Kd.R_lt (rl HO1010)) k_ hk_), (Kd.fresh' (Kd.S_lt (by (with_reducible repeat (first | apply Kd.S_alloc | apply Kd.S_drewN | apply Kd.S_drew)); exact HO1014.out)) k_ hk_), (fb BK1005 k_ hk_), (fb BK1006 k_ hk_), (fb BK1007 k_ hk_)⟩)) (below_size bs))
    replace HO1010 := Aside0.mk (Kd.R_below (rl HO1010) hb)
    replace HO1014 := Aside0.mk (Kd.S_below (by (with_reducible repeat (first | apply Kd.S_alloc | apply Kd.S_drewN | apply Kd.S_drew)); exact HO1014.out) hb)
    replace BK1005 := bb BK1005 hb
    replace BK1006 := bb BK1006 hb
    replace BK1007 := bb BK1007 hb
    replace HR1015_1 := Aside0.mk (Kd.C_below (cl HR1015_1.out) hb)
    replace HR1015_2 := Aside0.mk (Kd.C_below (cl HR1015_2.out) hb)
    replace HR1016_1 := Aside0.mk (Kd.C_below (cl HR1016_1.out) hb)
    replace HR1016_2 := Aside0.mk (Kd.C_below (cl HR1016_2.out) hb)
    replace HB := hs HB hb
    (try clear hb)
    (try clear hb2)
    (try clear hk)
    (try clear hi)
    (try clear ho0)
    (try clear ho1)
    obtain ⟨Ao24, co24, eo24⟩ := Kd.V_slice HO1020.out
    (first | subst eo24 | (injection eo24 with f1_ f2_ f3_; have f4_ := f1_.symm; have f5_ := f3_.symm; clear f1_ f2_ f3_; subst f4_; subst f5_))
    obtain ⟨Ao25, co25, eo25⟩ := Kd.V_slice HO1023.out
    (first | subst eo25 | (injection eo25 with f1_ f2_ f3_; have f4_ := f1_.symm; have f5_ := f3_.symm; clear f1_ f2_ f3_; subst f4_; subst f5_))
    refine hK.out _ _ ⟨HS0_, HS1_, HS2_, HS3_, HS4_, HS5_⟩ (fun hHeld => ?_)
    clear hK K
    refine norm_ (a' := ?_) ?_ ?_
    rotate_left
    ·show Act.put _ (some 24) _ = _
     simp only [Act.put, List.setIfInBounds_toArray, List.set_cons_zero, List.set_cons_succ, i64_w, i32_w]
     rfl
    refine one_ (i := 7) (N := some 25) #[true, true, true, true, true, true, true, true, false, false, false, false] rfl rfl (one_of HT_.out (by kernel_rfl)) (by decide) (fun K hK => ?_)
    refine goes_ Try.func83 (by kernel_rfl) rfl #[.agg #[.bool t1017, .slice Ao24 t1018.length co24, .slice Ao25 t1021.length co25]] (by rfl) rfl rfl ga ?_
    with_reducible refine (ratio_number_lowest.calls k t1017 _ _ t1018 _ _ t1021 t1024 t1025 t1026 t1027 _ ?side1 ?side2 ?side3 ?side4 A8.out).mono ?_
    (case side1 => exact cl ((Kd.V_reads' HO1020.out).2.2))
    (case side2 => exact (Kd.V_reads' HO1020.out).2.1)
    (case side3 => exact cl ((Kd.V_reads' HO1023.out).2.2))
    (case side4 => exact (Kd.V_reads' HO1023.out).2.1)
    rintro e w26 ⟨rfl, hb⟩
    have HS0_ := (hb.cell (World.block_lt_of_cell? _ _ (hHeld.1))).trans (hHeld.1)
    have HS1_ := (hb.cell (World.block_lt_of_cell? _ _ (hHeld.2.1))).trans (hHeld.2.1)
    have HS2_ := (hb.cell (World.block_lt_of_cell? _ _ (hHeld.2.2.1))).trans (hHeld.2.2.1)
    have HS3_ := (hb.cell (World.block_lt_of_cell? _ _ (hHeld.2.2.2.1))).trans (hHeld.2.2.2.1)
    have HS4_ := (hb.cell (World.block_lt_of_cell? _ _ (hHeld.2.2.2.2.1))).trans (hHeld.2.2.2.2.1)
    have HS5_ := (hb.cell (World.block_lt_of_cell? _ _ (hHeld.2.2.2.2.2))).trans (hHeld.2.2.2.2.2)
    refine ⟨_, rfl, ?_⟩
    replace HO1010 := Aside0.mk (Kd.R_below (rl HO1010) hb)
    replace HO1014 := Aside0.mk (Kd.S_below (by (with_reducible repeat (first | apply Kd.S_alloc | apply Kd.S_drewN | apply Kd.S_drew)); exact HO1014.out) hb)
    replace HL1015_1 := Aside0.mk (Kd.R_below (rl HL1015_1) hb)
    replace HL1015_2 := Aside0.mk (Kd.R_below (rl HL1015_2) hb)
    replace HL1016_1 := Aside0.mk (Kd.R_below (rl HL1016_1) hb)
    replace HL1016_2 := Aside0.mk (Kd.R_below (rl HL1016_2) hb)
    replace HO1020 := Aside0.mk (Kd.V_below (vl HO1020) hb)
    replace HO1023 := Aside0.mk (Kd.V_below (vl HO1023) hb)
    replace BK1005 := bb BK1005 hb
    replace BK1006 := bb BK1006 hb
    replace BK1007 := bb BK1007 hb
    replace HR1015_1 := Aside0.mk (Kd.C_below (cl HR1015_1.out) hb)
    replace HR1015_2 := Aside0.mk (Kd.C_below (cl HR1015_2.out) hb)
    replace HR1016_1 := Aside0.mk (Kd.C_below (cl HR1016_1.out) hb)
    replace HR1016_2 := Aside0.mk (Kd.C_below (cl HR1016_2.out) hb)
    replace HB := hs HB hb
    (try clear hb)
    (try clear hb2)
    (try clear hk)
    (try clear hi)
    refine hK.out _ _ ⟨HS0_, HS1_, HS2_, HS3_, HS4_, HS5_⟩ (fun hHeld => ?_)
    clear hK K
    refine norm_ (a' := ?_) ?_ ?_
    rotate_left
    ·show Act.put _ (some 25) _ = _
     simp only [Act.put, List.setIfInBounds_toArray, List.set_cons_zero, List.set_cons_succ, i64_w, i32_w]
     rfl
    refine pure_ (i := 8) (N := some 26) (v := ?_) (a' := ?_) #[true, true, true, true, true, true, true, true, true, false, false, false] rfl rfl (any_of HT_.out (by kernel_rfl)) (fun _ _ _ h => h) (Or.inl ⟨by rfl, ?_⟩) ?_ ?_
    rotate_left
    ·intro w'
     go_simp
     with_reducible rfl
    rotate_left
    ·simp only [Act.put, List.setIfInBounds_toArray, List.set_cons_zero, List.set_cons_succ, i64_w, i32_w]
     rfl
    refine pure_ (i := 9) (N := some 27) (v := ?_) (a' := ?_) #[true, true, true, true, true, true, true, true, true, true, false, false] rfl rfl (any_of HT_.out (by kernel_rfl)) (fun _ _ _ h => h) (Or.inl ⟨by rfl, ?_⟩) ?_ ?_
    rotate_left
    ·intro w'
     go_simp
     with_reducible rfl
    rotate_left
    ·simp only [Act.put, List.setIfInBounds_toArray, List.set_cons_zero, List.set_cons_succ, i64_w, i32_w]
     rfl
    refine one_ (i := 10) (N := none) #[true, true, true, true, true, true, true, true, true, true, true, false] rfl rfl (one_of HT_.out (by kernel_rfl)) (by decide) (fun K hK => ?_)
    have hs27 : w26.cell? ⟨gb1007, 0, none⟩ = some (.bool false) := (blk_cell BK1007.out 0).trans rfl
    have hfs27 := blk_frozen BK1007.out 0
    have hns27_0 := NB1005_1007.out
    have hns27_1 := NB1006_1007.out
    have hms27_0 := NB1007_1005.out
    have hms27_1 := NB1007_1006.out
    have hs28 : w26.cell? ⟨gb1007, 1, none⟩ = some (.string (⟨#[]⟩ : ByteArray)) := (blk_cell BK1007.out 1).trans rfl
    have hfs28 := blk_frozen BK1007.out 1
    have hns28_0 := NB1005_1007.out
    have hns28_1 := NB1006_1007.out
    have hms28_0 := NB1007_1005.out
    have hms28_1 := NB1007_1006.out
    have hs29 : w26.cell? ⟨gb1007, 2, none⟩ = some (.string (⟨#[]⟩ : ByteArray)) := (blk_cell BK1007.out 2).trans rfl
    have hfs29 := blk_frozen BK1007.out 2
    have hns29_0 := NB1005_1007.out
    have hns29_1 := NB1006_1007.out
    have hms29_0 := NB1007_1005.out
    have hms29_1 := NB1007_1006.out
    refine skip_ (w1 := ?_) (by rfl) rfl ?_ ?_
    rotate_left
    ·go_simp
     rfl
    have F_ := Kd.S_ne HO1014.out BK1007.out (by decide); refine hK.out _ _ ⟨(cf F_ (cf F_ (cf F_ hHeld.1))), (cf F_ (cf F_ (cf F_ hHeld.2.1))), (cf F_ (cf F_ (cf F_ hHeld.2.2.1))), (cf F_ (cf F_ (cf F_ hHeld.2.2.2.1))), (cf F_ (cf F_ (cf F_ hHeld.2.2.2.2.1))), (cf F_ (cf F_ (cf F_ hHeld.2.2.2.2.2)))⟩ (fun hHeld => ?_)
    clear hK K
    refine pure_ (i := 11) (N := some 5) (v := ?_) (a' := ?_) #[true, true, true, true, true, true, true, true, true, true, true, true] rfl rfl (any_of HT_.out (by kernel_rfl)) (fun _ _ _ h => h) (Or.inl ⟨by rfl, ?_⟩) ?_ ?_
    rotate_left
    ·intro w'
     go_simp
     with_reducible rfl
    rotate_left
    ·simp only [Act.put, List.setIfInBounds_toArray, List.set_cons_zero, List.set_cons_succ, i64_w, i32_w]
     rfl
    refine done_ (done_of HT_.out (by kernel_rfl)) ?_
    try go_wp2
    refine bodyPost_ret (results_ct rfl _ _ gb1007 35 #[.bool t1024, .string t1025, .string t1026] (0, 0) _ rfl bw Try.underlying35 rfl (by kernel_rfl)) rfl ?_
    exact ⟨by first | rfl | (simp [errW_none, errW_some] <;> rfl) | (simp [*, errW_none, errW_some] <;> rfl), bs⟩
   ·rw [if_neg c6] at H
    exact absurd H (by simp)
  ·rw [if_neg c5] at H
   exact absurd H (by simp)
 ·replace c4 := Bool.eq_false_iff.mpr c4
  subst c4
  have H1 : (some (false, (⟨#[]⟩ : ByteArray), (⟨#[]⟩ : ByteArray), 1)) = some (r1, r2, r3, r4) := by rw [if_neg (show ¬ (false = true) by decide)] at H; exact H
  clear H
  have H := H1
  clear H1
  simp only [Option.some.injEq, Prod.mk.injEq] at H
  obtain ⟨rfl, rfl, rfl, rfl⟩ := H
  go_enter Try.func42, Try.ntmps42
  go_wp2_with (first | ((with_reducible refine gate_dst (N := 2) rfl ?_); refine be (N := 2) (cs := #[.bool a0_0, .string a0_1, .string a0_2]) (t := 35) ?_; intro gb1005 hg w30 hbox hb; have BK1005 := Aside0.mk (hbox); have GW1005 := gw HB hg; have GE1005 := GW1005; replace HB := hs HB hb; clear hb hbox hg) | ((with_reducible refine gate_dst (N := 3) rfl ?_); refine be (N := 3) (cs := #[.bool a1_0, .string a1_1, .string a1_2]) (t := 35) ?_; intro gb1006 hg w31 hbox hb; have BK1006 := Aside0.mk (hbox); have GW1006 := gw HB hg; have GE1006 := GW1006; replace HB := hs HB hb; have NB1005_1006 := na BK1005 hg; have NB1006_1005 := nz NB1005_1006; replace BK1005 := bb BK1005 hb; clear hb hbox hg) | ((with_reducible refine gate_dst (N := 4) rfl ?_); refine be (N := 4) (cs := #[.bool false, .string (⟨#[]⟩ : ByteArray), .string (⟨#[]⟩ : ByteArray)]) (t := 35) ?_; intro gb1007 hg w32 hbox hb; have BK1007 := Aside0.mk (hbox); have GW1007 := gw HB hg; have GE1007 := GW1007; replace HB := hs HB hb; have NB1005_1007 := na BK1005 hg; have NB1007_1005 := nz NB1005_1007; replace BK1005 := bb BK1005 hb; have NB1006_1007 := na BK1006 hg; have NB1007_1006 := nz NB1006_1007; replace BK1006 := bb BK1006 hb; clear hb hbox hg; have hnb33 := NB1005_1006.out; have hnc33 := NB1006_1005.out; have hnb34 := NB1005_1007.out; have hnc34 := NB1007_1005.out; obtain ⟨hcz35_0, hcz35_1, hcz35_2, hfz35_0, hfz35_1, hfz35_2⟩ := z3 BK1005; have hnb36 := NB1006_1007.out; have hnc36 := NB1007_1006.out; obtain ⟨hcz37_0, hcz37_1, hcz37_2, hfz37_0, hfz37_1, hfz37_2⟩ := z3 BK1006) | ((with_reducible refine gate_dst (N := 11) rfl ?_); refine Kd.R_lit k35 _ 35 ?hg (N := 11) ?hd (xs := ([(⟨a0_0, a0_1, a0_2⟩ : S35), (⟨a1_0, a1_1, a1_2⟩ : S35)] : List (S35))) (inner := [.bool a0_0, .string a0_1, .string a0_2, .bool a1_0, .string a1_1, .string a1_2]) (ok := fun _ => True) (okp := fun _ => True) ?hr ?hp (fun _ hk => hk) trivial (Below.refl _ _) (Nat.le_refl _) (by simp) ?_; (case hd => rfl); (case hg => rfl); (case hr => first | (go_simp; done) | (go_simp; rfl)); (case hp => exact (Reps.c3 (show Kd.M k35 _ _ _ (⟨a0_0, a0_1, a0_2⟩ : S35) [.bool a0_0, .string a0_1, .string a0_2] from (k35_mkM _ _ _ (⟨a0_0, a0_1, a0_2⟩ : S35) )) (Reps.c3 (show Kd.M k35 _ _ _ (⟨a1_0, a1_1, a1_2⟩ : S35) [.bool a1_0, .string a1_1, .string a1_2] from (k35_mkM _ _ _ (⟨a1_0, a1_1, a1_2⟩ : S35) )) (Reps.none _ _)))); intro v1009 w38 ho39 hb hg_ hnew_; clear hg_ hnew_; (first | rw [← Ny1008.out] at ho39 | (simp only [Int.reduceToNat] at ho39; rw [← Ny1008.out] at ho39)); have HO1010 := Aside0.mk (Kd.R_lower (Kd.R_newB (Kd.R_newB (Kd.R_newB ho39 (g := gb1005) (o := .cells #[.bool a0_0, .string a0_1, .string a0_2] 35 (0, 0)) bk) (g := gb1006) (o := .cells #[.bool a1_0, .string a1_1, .string a1_2] 35 (0, 0)) bk) (g := gb1007) (o := .cells #[.bool false, .string (⟨#[]⟩ : ByteArray), .string (⟨#[]⟩ : ByteArray)] 35 (0, 0)) bk) (below_size bs)); replace BK1005 := bb BK1005 hb; replace BK1006 := bb BK1006 hb; replace BK1007 := bb BK1007 hb; replace HB := hs HB hb; clear hb ho39; obtain ⟨Ao40, co40, eo40⟩ := Kd.R_slice HO1010.out; subst eo40) | ((with_reducible refine gate_callee (f := 82) rfl ?_); refine goesL_ (some 12) rfl rfl Try.func82 (by kernel_rfl) rfl #[.slice Ao40 y1008.length co40] rfl ga ?_; (with_reducible refine (ratio_read.calls k _ _ y1008 t1011 false _ ?side1 ?side2 A3.out).mono ?_); (case side1 => exact cl ((Kd.R_reads' HO1010.out).2.2)); (case side2 => exact (Kd.R_reads' HO1010.out).2.1); rintro e w41 ⟨v1013, rfl, ho0, hb⟩; refine ⟨_, rfl, ?_⟩; replace HO1010 := Aside0.mk (Kd.R_below (rl HO1010) hb); have HO1014 := Aside0.mk (Kd.S_lower ho0 (below_size bs)); replace BK1005 := bb BK1005 hb; replace BK1006 := bb BK1006 hb; replace BK1007 := bb BK1007 hb; replace HB := hs HB hb; (try clear hb); (try clear ho0); obtain ⟨hcz42_0, hcz42_1, hcz42_2, hfz42_0, hfz42_1, hfz42_2⟩ := z3 BK1007))
  refine bodyPost_ret (results_ct rfl _ _ gb1007 35 #[.bool false, .string (⟨#[]⟩ : ByteArray), .string (⟨#[]⟩ : ByteArray)] (0, 0) _ rfl bw Try.underlying35 rfl (by kernel_rfl)) rfl ?_
  exact ⟨by first | rfl | (simp [errW_none, errW_some] <;> rfl) | (simp [*, errW_none, errW_some] <;> rfl), bs⟩
end Go.Proofs.Ytccgfmjcldifcaa.P
