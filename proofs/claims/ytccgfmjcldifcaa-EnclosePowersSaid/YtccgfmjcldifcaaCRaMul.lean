/- Walks of Go functions: what they compute; each theorem's conditions stand in it. -/
import Derived.Test.YtccgfmjcldifcaaT
import Derived.Test.YtccgfmjcldifcaaCIsRatio
import Derived.Test.YtccgfmjcldifcaaCLow
import Derived.Test.YtccgfmjcldifcaaCMul
import Derived.Test.YtccgfmjcldifcaaDA
import Derived.Test.YtccgfmjcldifcaaDE
namespace Go.Proofs.Ytccgfmjcldifcaa.P
open Go.RowKit Go.Proofs.YtccgfmjcldifcaaW.PrintWords Go.Proofs.YtccgfmjcldifcaaW.PrintLast Go.Proofs.YtccgfmjcldifcaaW.PrintMore
attribute [local go_sem] max2_int min2_int max_two min_two max_three min_three max_four min_four
set_option linter.unusedVariables false
set_option linter.unusedSimpArgs false
def ratio_Mul.T4 : Bool × List (List Nat × List Nat) := (true, [([], []), ([0], [0]), ([1], [1]), ([2], [2]), ([], []), ([4], [4]), ([5], [5]), ([6], [6]), ([3, 7], [3, 7]), ([], []), ([9], [9]), ([10], [10]), ([11], [11]), ([], []), ([13], [13]), ([14], [14]), ([15], [15]), ([12, 16], [12, 16]), ([], []), ([18], [18]), ([19], [19]), ([20], [20]), ([], []), ([22], [22]), ([23], [23]), ([24], [24]), ([21, 25, 17], [21, 25]), ([8, 17, 26], [8, 17, 26]), ([27, 26], [27]), ([28], [28]), ([28], [28]), ([29, 28, 0, 1, 2, 3, 4, 5, 6, 7, 8, 9, 10, 11, 12, 13, 14, 15, 16, 17, 18, 19, 20, 21, 22, 23, 24, 25, 26, 27, 28, 29, 30], [29]), ([30, 31, 0, 1, 2, 3, 4, 5, 6, 7, 8, 9, 10, 11, 12, 13, 14, 15, 16, 17, 18, 19, 20, 21, 22, 23, 24, 25, 26, 27, 28, 29, 30, 31], [30])])
def ratio_Mul.B4 : List Nat := [0, 1, 3, 7, 0, 16, 48, 112, 255, 0, 512, 1536, 3584, 0, 8192, 24576, 57344, 130560, 0, 262144, 786432, 1835008, 0, 4194304, 12582912, 29360128, 67108352, 134217727, 268435455, 536870911, 536870911, 2147483647, 4294967295]
theorem ratio_Mul.tab4 : rtab .any (opsOf Try.f26 4) = ratio_Mul.T4 := by kernel_rfl
theorem ratio_Mul.bits4 : waitsOk ratio_Mul.T4.2 ratio_Mul.B4 = true := by kernel_rfl
set_option maxHeartbeats 8000000 in
set_option maxRecDepth 100000 in
theorem ratio_Mul.calls (k : Nat) (a0_0 : Bool) (a0_1 : ByteArray) (a0_2 : ByteArray) (a1_0 : Bool) (a1_1 : ByteArray) (a1_2 : ByteArray) (r1 : Bool) (r2 : ByteArray) (r3 : ByteArray) (r4 : Int) (w : World) (h : ratio_Mul.f k a0_0 a0_1 a0_2 a1_0 a1_1 a1_2 = some (r1, r2, r3, r4)) :
  Calls Try.prog 26 #[.agg #[.bool a0_0, .string a0_1, .string a0_2], .agg #[.bool a1_0, .string a1_1, .string a1_2]] w fun e w' => e = .returned (.tuple #[.agg #[.bool r1, .string r2, .string r3], .int .i64 r4]) ∧ Below w.heap.size w w' := by
 have hu35 := Try.underlying35
 have hu88 := Try.underlying88
 have HB := Aside0.mk (Below.refl w.heap.size w)
 have H : Option.bind (ratio_read.f k (([(⟨a0_0, a0_1, a0_2⟩ : S35), (⟨a1_0, a1_1, a1_2⟩ : S35)] : List (S35)))) _ = _ := h
 clear h
 obtain ⟨y539, hy539⟩ : ∃ y_ : List (S35), y_ = (([(⟨a0_0, a0_1, a0_2⟩ : S35), (⟨a1_0, a1_1, a1_2⟩ : S35)] : List (S35))) := ⟨_, rfl⟩
 replace H : ((ratio_read.f k y539).bind fun bt542 => (if bt542.2 = true then (if 0 < (bt542.1.length : Int) then (if 1 < (bt542.1.length : Int) then ((bignat_Nat_Mul.f k ((rd_T88 bt542.1 0).f1) ((rd_T88 bt542.1 1).f1)).bind fun t550 => ((bignat_Nat_Mul.f k ((rd_T88 bt542.1 0).f2) ((rd_T88 bt542.1 1).f2)).bind fun t555 => ((ratio_number_lowest.f k (((rd_T88 bt542.1 0).f0) != ((rd_T88 bt542.1 1).f0)) t550 t555).bind fun bt558 => (some (bt558.1, bt558.2.1, bt558.2.2.1, bt558.2.2.2))))) else (none)) else (none)) else (some (false, (⟨#[]⟩ : ByteArray), (⟨#[]⟩ : ByteArray), 1)))) = some (r1, r2, r3, r4) := by first | (rw [hy539]; with_reducible exact H) | (have H2_ := (Option.bind_some _ _).symm.trans H; rw [hy539]; with_reducible exact H2_) | (have H2_ := (Option.bind_some _ _).symm.trans H; with_reducible exact H2_) | with_reducible exact H | (rw [hy539]; exact H) | exact H
 have Ny539 := Aside0.mk hy539
 clear hy539
 replace H := Option.bind_eq_some_iff.mp H
 obtain ⟨⟨t542, t543⟩, A30, H⟩ := H
 replace H : (if t543 = true then _ else _) = _ := H
 have A3 := Aside0.mk A30
 clear A30
 by_cases c4 : t543 = true
 ·subst c4
  have H1 : (if 0 < (t542.length : Int) then _ else _) = _ := (if_pos rfl).symm.trans H
  clear H
  have H := H1
  clear H1
  by_cases c5 : 0 < (t542.length : Int)
  ·rw [if_pos c5] at H
   have c5b0 : decide (0 < (t542.length : Int)) = true := decide_eq_true c5
   have c5b1 : decide (0 < t542.length) = true := decide_eq_true (by omega)
   clear c5
   by_cases c6 : 1 < (t542.length : Int)
   ·rw [if_pos c6] at H
    have c6b0 : decide (1 < (t542.length : Int)) = true := decide_eq_true c6
    have c6b1 : decide (1 < t542.length) = true := decide_eq_true (by omega)
    clear c6
    replace H := Option.bind_eq_some_iff.mp H
    obtain ⟨t550, A70, H⟩ := H
    replace H : Option.bind (bignat_Nat_Mul.f k ((rd_T88 t542 0).f2) ((rd_T88 t542 1).f2)) _ = _ := H
    have A7 := Aside0.mk A70
    clear A70
    replace H := Option.bind_eq_some_iff.mp H
    obtain ⟨t555, A80, H⟩ := H
    replace H : Option.bind (ratio_number_lowest.f k (((rd_T88 t542 0).f0) != ((rd_T88 t542 1).f0)) t550 t555) _ = _ := H
    have A8 := Aside0.mk A80
    clear A80
    replace H := Option.bind_eq_some_iff.mp H
    obtain ⟨⟨t558, t559, t560, t561⟩, A90, H⟩ := H
    replace H : (some (t558, t559, t560, t561)) = some (r1, r2, r3, r4) := H
    have A9 := Aside0.mk A90
    clear A90
    simp only [Option.some.injEq, Prod.mk.injEq] at H
    obtain ⟨rfl, rfl, rfl, rfl⟩ := H
    go_enter Try.func26, Try.ntmps26
    try go_wp2_with (first | ((with_reducible refine gate_dst (N := 2) rfl ?_); refine be (N := 2) (cs := #[.bool a0_0, .string a0_1, .string a0_2]) (t := 35) ?_; intro gb536 hg w10 hbox hb; have BK536 := Aside0.mk (hbox); have GW536 := gw HB hg; have GE536 := GW536; replace HB := hs HB hb; clear hb hbox hg) | ((with_reducible refine gate_dst (N := 3) rfl ?_); refine be (N := 3) (cs := #[.bool a1_0, .string a1_1, .string a1_2]) (t := 35) ?_; intro gb537 hg w11 hbox hb; have BK537 := Aside0.mk (hbox); have GW537 := gw HB hg; have GE537 := GW537; replace HB := hs HB hb; have NB536_537 := na BK536 hg; have NB537_536 := nz NB536_537; replace BK536 := bb BK536 hb; clear hb hbox hg) | ((with_reducible refine gate_dst (N := 4) rfl ?_); refine be (N := 4) (cs := #[.bool false, .string (⟨#[]⟩ : ByteArray), .string (⟨#[]⟩ : ByteArray)]) (t := 35) ?_; intro gb538 hg w12 hbox hb; have BK538 := Aside0.mk (hbox); have GW538 := gw HB hg; have GE538 := GW538; replace HB := hs HB hb; have NB536_538 := na BK536 hg; have NB538_536 := nz NB536_538; replace BK536 := bb BK536 hb; have NB537_538 := na BK537 hg; have NB538_537 := nz NB537_538; replace BK537 := bb BK537 hb; clear hb hbox hg; have hnb13 := NB536_537.out; have hnc13 := NB537_536.out; have hnb14 := NB536_538.out; have hnc14 := NB538_536.out; obtain ⟨hcz15_0, hcz15_1, hcz15_2, hfz15_0, hfz15_1, hfz15_2⟩ := z3 BK536; have hnb16 := NB537_538.out; have hnc16 := NB538_537.out; obtain ⟨hcz17_0, hcz17_1, hcz17_2, hfz17_0, hfz17_1, hfz17_2⟩ := z3 BK537) | ((with_reducible refine gate_dst (N := 11) rfl ?_); refine Kd.R_lit k35 _ 35 ?hg (N := 11) ?hd (xs := ([(⟨a0_0, a0_1, a0_2⟩ : S35), (⟨a1_0, a1_1, a1_2⟩ : S35)] : List (S35))) (inner := [.bool a0_0, .string a0_1, .string a0_2, .bool a1_0, .string a1_1, .string a1_2]) (ok := fun _ => True) (okp := fun _ => True) ?hr ?hp (fun _ hk => hk) trivial (Below.refl _ _) (Nat.le_refl _) (by simp) ?_; (case hd => rfl); (case hg => rfl); (case hr => first | (go_simp; done) | (go_simp; rfl)); (case hp => exact (Reps.c3 (show Kd.M k35 _ _ _ (⟨a0_0, a0_1, a0_2⟩ : S35) [.bool a0_0, .string a0_1, .string a0_2] from (k35_mkM _ _ _ (⟨a0_0, a0_1, a0_2⟩ : S35) )) (Reps.c3 (show Kd.M k35 _ _ _ (⟨a1_0, a1_1, a1_2⟩ : S35) [.bool a1_0, .string a1_1, .string a1_2] from (k35_mkM _ _ _ (⟨a1_0, a1_1, a1_2⟩ : S35) )) (Reps.none _ _)))); intro v540 w18 ho19 hb hg_ hnew_; clear hg_ hnew_; (first | rw [← Ny539.out] at ho19 | (simp only [Int.reduceToNat] at ho19; rw [← Ny539.out] at ho19)); have HO541 := Aside0.mk (Kd.R_lower (Kd.R_newB (Kd.R_newB (Kd.R_newB ho19 (g := gb536) (o := .cells #[.bool a0_0, .string a0_1, .string a0_2] 35 (0, 0)) bk) (g := gb537) (o := .cells #[.bool a1_0, .string a1_1, .string a1_2] 35 (0, 0)) bk) (g := gb538) (o := .cells #[.bool false, .string (⟨#[]⟩ : ByteArray), .string (⟨#[]⟩ : ByteArray)] 35 (0, 0)) bk) (below_size bs)); replace BK536 := bb BK536 hb; replace BK537 := bb BK537 hb; replace BK538 := bb BK538 hb; replace HB := hs HB hb; clear hb ho19; obtain ⟨Ao20, co20, eo20⟩ := Kd.R_slice HO541.out; subst eo20) | ((with_reducible refine gate_callee (f := 82) rfl ?_); refine goesL_ (some 12) rfl rfl Try.func82 (by kernel_rfl) rfl #[.slice Ao20 y539.length co20] rfl ga ?_; (with_reducible refine (ratio_read.calls k _ _ y539 t542 true _ ?side1 ?side2 A3.out).mono ?_); (case side1 => exact cl ((Kd.R_reads' HO541.out).2.2)); (case side2 => exact (Kd.R_reads' HO541.out).2.1); rintro e w21 ⟨v544, rfl, ho0, hb⟩; refine ⟨_, rfl, ?_⟩; replace HO541 := Aside0.mk (Kd.R_below (rl HO541) hb); have HO545 := Aside0.mk (Kd.S_lower ho0 (below_size bs)); replace BK536 := bb BK536 hb; replace BK537 := bb BK537 hb; replace BK538 := bb BK538 hb; replace HB := hs HB hb; (try clear hb); (try clear ho0)))
    replace HO541 := Aside0.mk (Kd.R_drew HO541.out)
    replace HO545 := Aside0.mk (Kd.S_drew HO545.out)
    replace BK536 := Aside0.mk (blk_drew BK536.out)
    replace BK537 := Aside0.mk (blk_drew BK537.out)
    replace BK538 := Aside0.mk (blk_drew BK538.out)
    replace HB := Aside0.mk (below_drew1 HB.out)
    obtain ⟨Ao23, co23, eo23⟩ := Kd.S_slice HO545.out
    (first | subst eo23 | (injection eo23 with f1_ f2_ f3_; have f4_ := f1_.symm; have f5_ := f3_.symm; clear f1_ f2_ f3_; subst f4_; subst f5_))
    have q546 : 0 < (t542.length : Int) := dt
    obtain ⟨ad546, A546_1, c546_1, A546_2, c546_2, e546, hx546_0, hx546_1, hx546_2, HR546_1, HC546_1, HR546_2, HC546_2, HL546_1, HL546_2⟩ := r88z HO545.out q546
    cases e546
    have qi546 : (0 < t542.length) = True := eq_true (by omega)
    have p546 : (0 ≤ (0 : Int)) = True := eq_true (by omega)
    replace q546 := eq_true q546
    have q547 : 1 < (t542.length : Int) := dt
    obtain ⟨ad547, A547_1, c547_1, A547_2, c547_2, e547, hx547_0, hx547_1, hx547_2, HR547_1, HC547_1, HR547_2, HC547_2, HL547_1, HL547_2⟩ := r88o HO545.out q547
    obtain rfl : ad546 = ad547 := (by injection e547)
    have qi547 : (1 < t542.length) = True := eq_true (by omega)
    have p547 : (0 ≤ (1 : Int)) = True := eq_true (by omega)
    replace q547 := eq_true q547
    have q548 : 0 < (t542.length : Int) := dt
    obtain ⟨ad548, A548_1, c548_1, A548_2, c548_2, e548, hx548_0, hx548_1, hx548_2, HR548_1, HC548_1, HR548_2, HC548_2, HL548_1, HL548_2⟩ := r88z HO545.out q548
    obtain rfl : ad546 = ad548 := (by injection e548)
    have qi548 : (0 < t542.length) = True := eq_true (by omega)
    have p548 : (0 ≤ (0 : Int)) = True := eq_true (by omega)
    replace q548 := eq_true q548
    obtain ⟨rfl, rfl⟩ := se hx546_1 hx548_1
    obtain ⟨rfl, rfl⟩ := se hx546_2 hx548_2
    have q549 : 1 < (t542.length : Int) := dt
    obtain ⟨ad549, A549_1, c549_1, A549_2, c549_2, e549, hx549_0, hx549_1, hx549_2, HR549_1, HC549_1, HR549_2, HC549_2, HL549_1, HL549_2⟩ := r88o HO545.out q549
    obtain rfl : ad546 = ad549 := (by injection e549)
    have qi549 : (1 < t542.length) = True := eq_true (by omega)
    have p549 : (0 ≤ (1 : Int)) = True := eq_true (by omega)
    replace q549 := eq_true q549
    obtain ⟨rfl, rfl⟩ := se hx547_1 hx549_1
    obtain ⟨rfl, rfl⟩ := se hx547_2 hx549_2
    have q553 : 0 < (t542.length : Int) := dt
    obtain ⟨ad553, A553_1, c553_1, A553_2, c553_2, e553, hx553_0, hx553_1, hx553_2, HR553_1, HC553_1, HR553_2, HC553_2, HL553_1, HL553_2⟩ := r88z HO545.out q553
    obtain rfl : ad546 = ad553 := (by injection e553)
    have qi553 : (0 < t542.length) = True := eq_true (by omega)
    have p553 : (0 ≤ (0 : Int)) = True := eq_true (by omega)
    replace q553 := eq_true q553
    obtain ⟨rfl, rfl⟩ := se hx546_1 hx553_1
    obtain ⟨rfl, rfl⟩ := se hx546_2 hx553_2
    have q554 : 1 < (t542.length : Int) := dt
    obtain ⟨ad554, A554_1, c554_1, A554_2, c554_2, e554, hx554_0, hx554_1, hx554_2, HR554_1, HC554_1, HR554_2, HC554_2, HL554_1, HL554_2⟩ := r88o HO545.out q554
    obtain rfl : ad546 = ad554 := (by injection e554)
    have qi554 : (1 < t542.length) = True := eq_true (by omega)
    have p554 : (0 ≤ (1 : Int)) = True := eq_true (by omega)
    replace q554 := eq_true q554
    obtain ⟨rfl, rfl⟩ := se hx547_1 hx554_1
    obtain ⟨rfl, rfl⟩ := se hx547_2 hx554_2
    refine start_ (n := 33) (S := fun w' => w'.cell? ad546 = some (.bool ((rd_T88 t542 0).f0)) ∧ w'.cell? ⟨ad546.block, ad546.off + 1, none⟩ = some (.slice A546_1 ((rd_T88 t542 0).f1).length c546_1) ∧ w'.cell? ⟨ad546.block, ad546.off + 2, none⟩ = some (.slice A546_2 ((rd_T88 t542 0).f2).length c546_2) ∧ w'.cell? ⟨ad546.block, ad546.off + 3, none⟩ = some (.bool ((rd_T88 t542 1).f0)) ∧ w'.cell? ⟨ad546.block, ad546.off + 3 + 1, none⟩ = some (.slice A547_1 ((rd_T88 t542 1).f1).length c547_1) ∧ w'.cell? ⟨ad546.block, ad546.off + 3 + 2, none⟩ = some (.slice A547_2 ((rd_T88 t542 1).f2).length c547_2) ∧ w'.cell? ad546 = some (.bool ((rd_T88 t542 0).f0)) ∧ w'.cell? ⟨ad546.block, ad546.off + 1, none⟩ = some (.slice A546_1 ((rd_T88 t542 0).f1).length c546_1) ∧ w'.cell? ⟨ad546.block, ad546.off + 2, none⟩ = some (.slice A546_2 ((rd_T88 t542 0).f2).length c546_2) ∧ w'.cell? ⟨ad546.block, ad546.off + 3, none⟩ = some (.bool ((rd_T88 t542 1).f0)) ∧ w'.cell? ⟨ad546.block, ad546.off + 3 + 1, none⟩ = some (.slice A547_1 ((rd_T88 t542 1).f1).length c547_1) ∧ w'.cell? ⟨ad546.block, ad546.off + 3 + 2, none⟩ = some (.slice A547_2 ((rd_T88 t542 1).f2).length c547_2) ∧ w'.cell? ad546 = some (.bool ((rd_T88 t542 0).f0)) ∧ w'.cell? ⟨ad546.block, ad546.off + 1, none⟩ = some (.slice A546_1 ((rd_T88 t542 0).f1).length c546_1) ∧ w'.cell? ⟨ad546.block, ad546.off + 2, none⟩ = some (.slice A546_2 ((rd_T88 t542 0).f2).length c546_2) ∧ w'.cell? ⟨ad546.block, ad546.off + 3, none⟩ = some (.bool ((rd_T88 t542 1).f0)) ∧ w'.cell? ⟨ad546.block, ad546.off + 3 + 1, none⟩ = some (.slice A547_1 ((rd_T88 t542 1).f1).length c547_1) ∧ w'.cell? ⟨ad546.block, ad546.off + 3 + 2, none⟩ = some (.slice A547_2 ((rd_T88 t542 1).f2).length c547_2)) (ds := []) #[false, false, false, false, false, false, false, false, false, false, false, false, false, false, false, false, false, false, false, false, false, false, false, false, false, false, false, false, false, false, false, false, false] (by kernel_rfl) rfl rfl ⟨hx546_0, hx546_1, hx546_2, hx547_0, hx547_1, hx547_2, hx548_0, hx548_1, hx548_2, hx549_0, hx549_1, hx549_2, hx553_0, hx553_1, hx553_2, hx554_0, hx554_1, hx554_2⟩ (fun hHeld => ?_); refine with_tabW ratio_Mul.tab4 ratio_Mul.bits4 (fun HT_ HW_ => ?_)
    generalize w21.drew = w22 at HO541 HO545 BK536 BK537 BK538 HB HL546_1 HL546_2 HL547_1 HL547_2 HL548_1 HL548_2 HL549_1 HL549_2 HL553_1 HL553_2 HL554_1 HL554_2 HR546_1 HR546_2 HR547_1 HR547_2 HR548_1 HR548_2 HR549_1 HR549_2 HR553_1 HR553_2 HR554_1 HR554_2 hx546_0 hx546_1 hx546_2 hx547_0 hx547_1 hx547_2 hx548_0 hx548_1 hx548_2 hx549_0 hx549_1 hx549_2 hx553_0 hx553_1 hx553_2 hx554_0 hx554_1 hx554_2 hHeld ⊢
    refine pu (i := 0) (N := some 18) ?_
    refine pu (i := 1) (N := some 19) ?_
    refine pu (i := 2) (N := some 20) ?_
    refine pu (i := 4) (N := some 22) ?_
    refine pu (i := 5) (N := some 23) ?_
    refine pu (i := 6) (N := some 24) ?_
    refine pu (i := 9) (N := some 27) ?_
    refine pu (i := 10) (N := some 28) ?_
    refine pu (i := 11) (N := some 29) ?_
    refine pu (i := 13) (N := some 31) ?_
    refine pu (i := 14) (N := some 32) ?_
    refine pu (i := 15) (N := some 33) ?_
    refine pu (i := 18) (N := some 36) ?_
    refine pu (i := 19) (N := some 37) ?_
    refine pu (i := 20) (N := some 38) ?_
    refine pu (i := 22) (N := some 40) ?_
    refine pu (i := 23) (N := some 41) ?_
    refine pu (i := 24) (N := some 42) ?_
    refine ta (i := 3) (N := some 21) hHeld ?_
    refine ta (i := 7) (N := some 25) hHeld ?_
    refine pu (i := 8) (N := some 26) ?_
    refine ta (i := 12) (N := some 30) hHeld ?_
    refine ta (i := 16) (N := some 34) hHeld ?_
    refine ta (i := 21) (N := some 39) hHeld ?_
    refine ta (i := 25) (N := some 43) hHeld ?_
    refine on (i := 17) (N := some 35) (fun K hK => ?_)
    refine goes_ Try.func78 (by kernel_rfl) rfl #[.slice A546_1 ((rd_T88 t542 0).f1).length c546_1, .slice A547_1 ((rd_T88 t542 1).f1).length c547_1] (by rfl) rfl rfl ga ?_
    with_reducible refine (bignat_Nat_Mul.calls k _ _ ((rd_T88 t542 0).f1) _ _ ((rd_T88 t542 1).f1) t550 _ ?side1 ?side2 ?side3 ?side4 A7.out).mono ?_
    (case side1 => repeat (first | exact (cl HR548_1.out) | (with_reducible refine Kd.C_alloc ?_ _) | (with_reducible refine Kd.C_drewN ?_ _) | (with_reducible refine Kd.C_drew ?_)))
    (case side2 => exact HC548_1.out)
    (case side3 => repeat (first | exact (cl HR549_1.out) | (with_reducible refine Kd.C_alloc ?_ _) | (with_reducible refine Kd.C_drewN ?_ _) | (with_reducible refine Kd.C_drew ?_)))
    (case side4 => exact HC549_1.out)
    rintro e w24 ⟨v551, rfl, ho0, hb⟩
    have HS0_ := (hb.cell (World.block_lt_of_cell? _ _ (hHeld.1))).trans (hHeld.1)
    have HS1_ := (hb.cell (World.block_lt_of_cell? _ _ (hHeld.2.1))).trans (hHeld.2.1)
    have HS2_ := (hb.cell (World.block_lt_of_cell? _ _ (hHeld.2.2.1))).trans (hHeld.2.2.1)
    have HS3_ := (hb.cell (World.block_lt_of_cell? _ _ (hHeld.2.2.2.1))).trans (hHeld.2.2.2.1)
    have HS4_ := (hb.cell (World.block_lt_of_cell? _ _ (hHeld.2.2.2.2.1))).trans (hHeld.2.2.2.2.1)
    have HS5_ := (hb.cell (World.block_lt_of_cell? _ _ (hHeld.2.2.2.2.2.1))).trans (hHeld.2.2.2.2.2.1)
    have HS6_ := (hb.cell (World.block_lt_of_cell? _ _ (hHeld.2.2.2.2.2.2.1))).trans (hHeld.2.2.2.2.2.2.1)
    have HS7_ := (hb.cell (World.block_lt_of_cell? _ _ (hHeld.2.2.2.2.2.2.2.1))).trans (hHeld.2.2.2.2.2.2.2.1)
    have HS8_ := (hb.cell (World.block_lt_of_cell? _ _ (hHeld.2.2.2.2.2.2.2.2.1))).trans (hHeld.2.2.2.2.2.2.2.2.1)
    have HS9_ := (hb.cell (World.block_lt_of_cell? _ _ (hHeld.2.2.2.2.2.2.2.2.2.1))).trans (hHeld.2.2.2.2.2.2.2.2.2.1)
    have HS10_ := (hb.cell (World.block_lt_of_cell? _ _ (hHeld.2.2.2.2.2.2.2.2.2.2.1))).trans (hHeld.2.2.2.2.2.2.2.2.2.2.1)
    have HS11_ := (hb.cell (World.block_lt_of_cell? _ _ (hHeld.2.2.2.2.2.2.2.2.2.2.2.1))).trans (hHeld.2.2.2.2.2.2.2.2.2.2.2.1)
    have HS12_ := (hb.cell (World.block_lt_of_cell? _ _ (hHeld.2.2.2.2.2.2.2.2.2.2.2.2.1))).trans (hHeld.2.2.2.2.2.2.2.2.2.2.2.2.1)
    have HS13_ := (hb.cell (World.block_lt_of_cell? _ _ (hHeld.2.2.2.2.2.2.2.2.2.2.2.2.2.1))).trans (hHeld.2.2.2.2.2.2.2.2.2.2.2.2.2.1)
    have HS14_ := (hb.cell (World.block_lt_of_cell? _ _ (hHeld.2.2.2.2.2.2.2.2.2.2.2.2.2.2.1))).trans (hHeld.2.2.2.2.2.2.2.2.2.2.2.2.2.2.1)
    have HS15_ := (hb.cell (World.block_lt_of_cell? _ _ (hHeld.2.2.2.2.2.2.2.2.2.2.2.2.2.2.2.1))).trans (hHeld.2.2.2.2.2.2.2.2.2.2.2.2.2.2.2.1)
    have HS16_ := (hb.cell (World.block_lt_of_cell? _ _ (hHeld.2.2.2.2.2.2.2.2.2.2.2.2.2.2.2.2.1))).trans (hHeld.2.2.2.2.2.2.2.2.2.2.2.2.2.2.2.2.1)
    have HS17_ := (hb.cell (World.block_lt_of_cell? _ _ (hHeld.2.2.2.2.2.2.2.2.2.2.2.2.2.2.2.2.2))).trans (hHeld.2.2.2.2.2.2.2.2.2.2.2.2.2.2.2.2.2)
    refine ⟨_, rfl, ?_⟩
    replace HL546_1 := Aside0.mk (Kd.R_below (rl HL546_1) hb)
    replace HL546_2 := Aside0.mk (Kd.R_below (rl HL546_2) hb)
    replace HL547_1 := Aside0.mk (Kd.R_below (rl HL547_1) hb)
    replace HL547_2 := Aside0.mk (Kd.R_below (rl HL547_2) hb)
    replace HL548_1 := Aside0.mk (Kd.R_below (rl HL548_1) hb)
    replace HL548_2 := Aside0.mk (Kd.R_below (rl HL548_2) hb)
    replace HL549_1 := Aside0.mk (Kd.R_below (rl HL549_1) hb)
    replace HL549_2 := Aside0.mk (Kd.R_below (rl HL549_2) hb)
    replace HL553_1 := Aside0.mk (Kd.R_below (rl HL553_1) hb)
    replace HL553_2 := Aside0.mk (Kd.R_below (rl HL553_2) hb)
    replace HL554_1 := Aside0.mk (Kd.R_below (rl HL554_1) hb)
    replace HL554_2 := Aside0.mk (Kd.R_below (rl HL554_2) hb)
    have HO552 := Aside0.mk (Kd.V_lower (Kd.V_mono (ok' := fun k_ => some k_ ≠ (.slice Ao20 y539.length co20 : Value).ownBlock ∧ some k_ ≠ (.slice (some ad546) t542.length co23 : Value).ownBlock ∧ k_ ≠ gb536 ∧ k_ ≠ gb537 ∧ k_ ≠ gb538) ho0 (fun k_ hk_ => ⟨(Kd.fresh' (Kd.R_lt (rl HO541)) k_ hk_), (Kd.fresh' (Kd.S_lt (by (with_reducible repeat (first | apply Kd.S_alloc | apply Kd.S_drewN | apply Kd.S_drew)); exact HO545.out)) k_ hk_), (fb BK536 k_ hk_), (fb BK537 k_ hk_), (fb BK538 k_ hk_)⟩)) (below_size bs))
    replace HO541 := Aside0.mk (Kd.R_below (rl HO541) hb)
    replace HO545 := Aside0.mk (Kd.S_below (by (with_reducible repeat (first | apply Kd.S_alloc | apply Kd.S_drewN | apply Kd.S_drew)); exact HO545.out) hb)
    replace BK536 := bb BK536 hb
    replace BK537 := bb BK537 hb
    replace BK538 := bb BK538 hb
    replace HR546_1 := Aside0.mk (Kd.C_below (cl HR546_1.out) hb)
    replace HR546_2 := Aside0.mk (Kd.C_below (cl HR546_2.out) hb)
    replace HR547_1 := Aside0.mk (Kd.C_below (cl HR547_1.out) hb)
    replace HR547_2 := Aside0.mk (Kd.C_below (cl HR547_2.out) hb)
    replace HR548_1 := Aside0.mk (Kd.C_below (cl HR548_1.out) hb)
    replace HR548_2 := Aside0.mk (Kd.C_below (cl HR548_2.out) hb)
    replace HR549_1 := Aside0.mk (Kd.C_below (cl HR549_1.out) hb)
    replace HR549_2 := Aside0.mk (Kd.C_below (cl HR549_2.out) hb)
    replace HR553_1 := Aside0.mk (Kd.C_below (cl HR553_1.out) hb)
    replace HR553_2 := Aside0.mk (Kd.C_below (cl HR553_2.out) hb)
    replace HR554_1 := Aside0.mk (Kd.C_below (cl HR554_1.out) hb)
    replace HR554_2 := Aside0.mk (Kd.C_below (cl HR554_2.out) hb)
    replace HB := hs HB hb
    (try clear hb)
    (try clear hb2)
    (try clear hk)
    (try clear hi)
    (try clear ho0)
    refine hK.out _ _ ⟨HS0_, HS1_, HS2_, HS3_, HS4_, HS5_, HS6_, HS7_, HS8_, HS9_, HS10_, HS11_, HS12_, HS13_, HS14_, HS15_, HS16_, HS17_⟩ (fun hHeld => ?_)
    clear hK K
    refine norm_ (a' := ?_) ?_ ?_
    rotate_left
    ·show Act.put _ (some 35) _ = _
     simp only [Act.put, List.setIfInBounds_toArray, List.set_cons_zero, List.set_cons_succ, i64_w, i32_w]
     rfl
    refine on (i := 26) (N := some 44) (fun K hK => ?_)
    refine goes_ Try.func78 (by kernel_rfl) rfl #[.slice A546_2 ((rd_T88 t542 0).f2).length c546_2, .slice A547_2 ((rd_T88 t542 1).f2).length c547_2] (by rfl) rfl rfl ga ?_
    with_reducible refine (bignat_Nat_Mul.calls k _ _ ((rd_T88 t542 0).f2) _ _ ((rd_T88 t542 1).f2) t555 _ ?side1 ?side2 ?side3 ?side4 A8.out).mono ?_
    (case side1 => repeat (first | exact (cl HR553_2.out) | (with_reducible refine Kd.C_alloc ?_ _) | (with_reducible refine Kd.C_drewN ?_ _) | (with_reducible refine Kd.C_drew ?_)))
    (case side2 => exact HC553_2.out)
    (case side3 => repeat (first | exact (cl HR554_2.out) | (with_reducible refine Kd.C_alloc ?_ _) | (with_reducible refine Kd.C_drewN ?_ _) | (with_reducible refine Kd.C_drew ?_)))
    (case side4 => exact HC554_2.out)
    rintro e w25 ⟨v556, rfl, ho0, hb⟩
    have HS0_ := (hb.cell (World.block_lt_of_cell? _ _ (hHeld.1))).trans (hHeld.1)
    have HS1_ := (hb.cell (World.block_lt_of_cell? _ _ (hHeld.2.1))).trans (hHeld.2.1)
    have HS2_ := (hb.cell (World.block_lt_of_cell? _ _ (hHeld.2.2.1))).trans (hHeld.2.2.1)
    have HS3_ := (hb.cell (World.block_lt_of_cell? _ _ (hHeld.2.2.2.1))).trans (hHeld.2.2.2.1)
    have HS4_ := (hb.cell (World.block_lt_of_cell? _ _ (hHeld.2.2.2.2.1))).trans (hHeld.2.2.2.2.1)
    have HS5_ := (hb.cell (World.block_lt_of_cell? _ _ (hHeld.2.2.2.2.2.1))).trans (hHeld.2.2.2.2.2.1)
    have HS6_ := (hb.cell (World.block_lt_of_cell? _ _ (hHeld.2.2.2.2.2.2.1))).trans (hHeld.2.2.2.2.2.2.1)
    have HS7_ := (hb.cell (World.block_lt_of_cell? _ _ (hHeld.2.2.2.2.2.2.2.1))).trans (hHeld.2.2.2.2.2.2.2.1)
    have HS8_ := (hb.cell (World.block_lt_of_cell? _ _ (hHeld.2.2.2.2.2.2.2.2.1))).trans (hHeld.2.2.2.2.2.2.2.2.1)
    have HS9_ := (hb.cell (World.block_lt_of_cell? _ _ (hHeld.2.2.2.2.2.2.2.2.2.1))).trans (hHeld.2.2.2.2.2.2.2.2.2.1)
    have HS10_ := (hb.cell (World.block_lt_of_cell? _ _ (hHeld.2.2.2.2.2.2.2.2.2.2.1))).trans (hHeld.2.2.2.2.2.2.2.2.2.2.1)
    have HS11_ := (hb.cell (World.block_lt_of_cell? _ _ (hHeld.2.2.2.2.2.2.2.2.2.2.2.1))).trans (hHeld.2.2.2.2.2.2.2.2.2.2.2.1)
    have HS12_ := (hb.cell (World.block_lt_of_cell? _ _ (hHeld.2.2.2.2.2.2.2.2.2.2.2.2.1))).trans (hHeld.2.2.2.2.2.2.2.2.2.2.2.2.1)
    have HS13_ := (hb.cell (World.block_lt_of_cell? _ _ (hHeld.2.2.2.2.2.2.2.2.2.2.2.2.2.1))).trans (hHeld.2.2.2.2.2.2.2.2.2.2.2.2.2.1)
    have HS14_ := (hb.cell (World.block_lt_of_cell? _ _ (hHeld.2.2.2.2.2.2.2.2.2.2.2.2.2.2.1))).trans (hHeld.2.2.2.2.2.2.2.2.2.2.2.2.2.2.1)
    have HS15_ := (hb.cell (World.block_lt_of_cell? _ _ (hHeld.2.2.2.2.2.2.2.2.2.2.2.2.2.2.2.1))).trans (hHeld.2.2.2.2.2.2.2.2.2.2.2.2.2.2.2.1)
    have HS16_ := (hb.cell (World.block_lt_of_cell? _ _ (hHeld.2.2.2.2.2.2.2.2.2.2.2.2.2.2.2.2.1))).trans (hHeld.2.2.2.2.2.2.2.2.2.2.2.2.2.2.2.2.1)
    have HS17_ := (hb.cell (World.block_lt_of_cell? _ _ (hHeld.2.2.2.2.2.2.2.2.2.2.2.2.2.2.2.2.2))).trans (hHeld.2.2.2.2.2.2.2.2.2.2.2.2.2.2.2.2.2)
    refine ⟨_, rfl, ?_⟩
    replace HL546_1 := Aside0.mk (Kd.R_below (rl HL546_1) hb)
    replace HL546_2 := Aside0.mk (Kd.R_below (rl HL546_2) hb)
    replace HL547_1 := Aside0.mk (Kd.R_below (rl HL547_1) hb)
    replace HL547_2 := Aside0.mk (Kd.R_below (rl HL547_2) hb)
    replace HL548_1 := Aside0.mk (Kd.R_below (rl HL548_1) hb)
    replace HL548_2 := Aside0.mk (Kd.R_below (rl HL548_2) hb)
    replace HL549_1 := Aside0.mk (Kd.R_below (rl HL549_1) hb)
    replace HL549_2 := Aside0.mk (Kd.R_below (rl HL549_2) hb)
    replace HL553_1 := Aside0.mk (Kd.R_below (rl HL553_1) hb)
    replace HL553_2 := Aside0.mk (Kd.R_below (rl HL553_2) hb)
    replace HL554_1 := Aside0.mk (Kd.R_below (rl HL554_1) hb)
    replace HL554_2 := Aside0.mk (Kd.R_below (rl HL554_2) hb)
    replace HO552 := Aside0.mk (Kd.V_below (vl HO552) hb)
    have HO557 := Aside0.mk (Kd.V_lower (Kd.V_mono (ok' := fun k_ => some k_ ≠ (.slice Ao20 y539.length co20 : Value).ownBlock ∧ some k_ ≠ (.slice (some ad546) t542.length co23 : Value).ownBlock ∧ k_ ≠ gb536 ∧ k_ ≠ gb537 ∧ k_ ≠ gb538) ho0 (fun k_ hk_ => ⟨(Kd.fresh' (Kd.R_lt (rl HO541)) k_ hk_), (Kd.fresh' (Kd.S_lt (by (with_reducible repeat (first | apply Kd.S_alloc | apply Kd.S_drewN | apply Kd.S_drew)); exact HO545.out)) k_ hk_), (fb BK536 k_ hk_), (fb BK537 k_ hk_), (fb BK538 k_ hk_)⟩)) (below_size bs))
    replace HO541 := Aside0.mk (Kd.R_below (rl HO541) hb)
    replace HO545 := Aside0.mk (Kd.S_below (by (with_reducible repeat (first | apply Kd.S_alloc | apply Kd.S_drewN | apply Kd.S_drew)); exact HO545.out) hb)
    replace BK536 := bb BK536 hb
    replace BK537 := bb BK537 hb
    replace BK538 := bb BK538 hb
    replace HR546_1 := Aside0.mk (Kd.C_below (cl HR546_1.out) hb)
    replace HR546_2 := Aside0.mk (Kd.C_below (cl HR546_2.out) hb)
    replace HR547_1 := Aside0.mk (Kd.C_below (cl HR547_1.out) hb)
    replace HR547_2 := Aside0.mk (Kd.C_below (cl HR547_2.out) hb)
    replace HR548_1 := Aside0.mk (Kd.C_below (cl HR548_1.out) hb)
    replace HR548_2 := Aside0.mk (Kd.C_below (cl HR548_2.out) hb)
    replace HR549_1 := Aside0.mk (Kd.C_below (cl HR549_1.out) hb)
    replace HR549_2 := Aside0.mk (Kd.C_below (cl HR549_2.out) hb)
    replace HR553_1 := Aside0.mk (Kd.C_below (cl HR553_1.out) hb)
    replace HR553_2 := Aside0.mk (Kd.C_below (cl HR553_2.out) hb)
    replace HR554_1 := Aside0.mk (Kd.C_below (cl HR554_1.out) hb)
    replace HR554_2 := Aside0.mk (Kd.C_below (cl HR554_2.out) hb)
    replace HB := hs HB hb
    (try clear hb)
    (try clear hb2)
    (try clear hk)
    (try clear hi)
    (try clear ho0)
    obtain ⟨Ao26, co26, eo26⟩ := Kd.V_slice HO557.out
    (first | subst eo26 | (injection eo26 with f1_ f2_ f3_; have f4_ := f1_.symm; have f5_ := f3_.symm; clear f1_ f2_ f3_; subst f4_; subst f5_))
    obtain ⟨Ao27, co27, eo27⟩ := Kd.V_slice HO552.out
    (first | subst eo27 | (injection eo27 with f1_ f2_ f3_; have f4_ := f1_.symm; have f5_ := f3_.symm; clear f1_ f2_ f3_; subst f4_; subst f5_))
    refine hK.out _ _ ⟨HS0_, HS1_, HS2_, HS3_, HS4_, HS5_, HS6_, HS7_, HS8_, HS9_, HS10_, HS11_, HS12_, HS13_, HS14_, HS15_, HS16_, HS17_⟩ (fun hHeld => ?_)
    clear hK K
    refine norm_ (a' := ?_) ?_ ?_
    rotate_left
    ·show Act.put _ (some 44) _ = _
     simp only [Act.put, List.setIfInBounds_toArray, List.set_cons_zero, List.set_cons_succ, i64_w, i32_w]
     rfl
    refine pu (i := 27) (N := some 45) ?_
    refine on (i := 28) (N := some 46) (fun K hK => ?_)
    refine goes_ Try.func83 (by kernel_rfl) rfl #[.agg #[.bool (((rd_T88 t542 0).f0) != ((rd_T88 t542 1).f0)), .slice Ao27 t550.length co27, .slice Ao26 t555.length co26]] (by rfl) rfl rfl ga ?_
    with_reducible refine (ratio_number_lowest.calls k (((rd_T88 t542 0).f0) != ((rd_T88 t542 1).f0)) _ _ t550 _ _ t555 t558 t559 t560 t561 _ ?side1 ?side2 ?side3 ?side4 A9.out).mono ?_
    (case side1 => exact cl ((Kd.V_reads' HO552.out).2.2))
    (case side2 => exact (Kd.V_reads' HO552.out).2.1)
    (case side3 => exact cl ((Kd.V_reads' HO557.out).2.2))
    (case side4 => exact (Kd.V_reads' HO557.out).2.1)
    rintro e w28 ⟨rfl, hb⟩
    have HS0_ := (hb.cell (World.block_lt_of_cell? _ _ (hHeld.1))).trans (hHeld.1)
    have HS1_ := (hb.cell (World.block_lt_of_cell? _ _ (hHeld.2.1))).trans (hHeld.2.1)
    have HS2_ := (hb.cell (World.block_lt_of_cell? _ _ (hHeld.2.2.1))).trans (hHeld.2.2.1)
    have HS3_ := (hb.cell (World.block_lt_of_cell? _ _ (hHeld.2.2.2.1))).trans (hHeld.2.2.2.1)
    have HS4_ := (hb.cell (World.block_lt_of_cell? _ _ (hHeld.2.2.2.2.1))).trans (hHeld.2.2.2.2.1)
    have HS5_ := (hb.cell (World.block_lt_of_cell? _ _ (hHeld.2.2.2.2.2.1))).trans (hHeld.2.2.2.2.2.1)
    have HS6_ := (hb.cell (World.block_lt_of_cell? _ _ (hHeld.2.2.2.2.2.2.1))).trans (hHeld.2.2.2.2.2.2.1)
    have HS7_ := (hb.cell (World.block_lt_of_cell? _ _ (hHeld.2.2.2.2.2.2.2.1))).trans (hHeld.2.2.2.2.2.2.2.1)
    have HS8_ := (hb.cell (World.block_lt_of_cell? _ _ (hHeld.2.2.2.2.2.2.2.2.1))).trans (hHeld.2.2.2.2.2.2.2.2.1)
    have HS9_ := (hb.cell (World.block_lt_of_cell? _ _ (hHeld.2.2.2.2.2.2.2.2.2.1))).trans (hHeld.2.2.2.2.2.2.2.2.2.1)
    have HS10_ := (hb.cell (World.block_lt_of_cell? _ _ (hHeld.2.2.2.2.2.2.2.2.2.2.1))).trans (hHeld.2.2.2.2.2.2.2.2.2.2.1)
    have HS11_ := (hb.cell (World.block_lt_of_cell? _ _ (hHeld.2.2.2.2.2.2.2.2.2.2.2.1))).trans (hHeld.2.2.2.2.2.2.2.2.2.2.2.1)
    have HS12_ := (hb.cell (World.block_lt_of_cell? _ _ (hHeld.2.2.2.2.2.2.2.2.2.2.2.2.1))).trans (hHeld.2.2.2.2.2.2.2.2.2.2.2.2.1)
    have HS13_ := (hb.cell (World.block_lt_of_cell? _ _ (hHeld.2.2.2.2.2.2.2.2.2.2.2.2.2.1))).trans (hHeld.2.2.2.2.2.2.2.2.2.2.2.2.2.1)
    have HS14_ := (hb.cell (World.block_lt_of_cell? _ _ (hHeld.2.2.2.2.2.2.2.2.2.2.2.2.2.2.1))).trans (hHeld.2.2.2.2.2.2.2.2.2.2.2.2.2.2.1)
    have HS15_ := (hb.cell (World.block_lt_of_cell? _ _ (hHeld.2.2.2.2.2.2.2.2.2.2.2.2.2.2.2.1))).trans (hHeld.2.2.2.2.2.2.2.2.2.2.2.2.2.2.2.1)
    have HS16_ := (hb.cell (World.block_lt_of_cell? _ _ (hHeld.2.2.2.2.2.2.2.2.2.2.2.2.2.2.2.2.1))).trans (hHeld.2.2.2.2.2.2.2.2.2.2.2.2.2.2.2.2.1)
    have HS17_ := (hb.cell (World.block_lt_of_cell? _ _ (hHeld.2.2.2.2.2.2.2.2.2.2.2.2.2.2.2.2.2))).trans (hHeld.2.2.2.2.2.2.2.2.2.2.2.2.2.2.2.2.2)
    refine ⟨_, rfl, ?_⟩
    replace HO541 := Aside0.mk (Kd.R_below (rl HO541) hb)
    replace HO545 := Aside0.mk (Kd.S_below (by (with_reducible repeat (first | apply Kd.S_alloc | apply Kd.S_drewN | apply Kd.S_drew)); exact HO545.out) hb)
    replace HL546_1 := Aside0.mk (Kd.R_below (rl HL546_1) hb)
    replace HL546_2 := Aside0.mk (Kd.R_below (rl HL546_2) hb)
    replace HL547_1 := Aside0.mk (Kd.R_below (rl HL547_1) hb)
    replace HL547_2 := Aside0.mk (Kd.R_below (rl HL547_2) hb)
    replace HL548_1 := Aside0.mk (Kd.R_below (rl HL548_1) hb)
    replace HL548_2 := Aside0.mk (Kd.R_below (rl HL548_2) hb)
    replace HL549_1 := Aside0.mk (Kd.R_below (rl HL549_1) hb)
    replace HL549_2 := Aside0.mk (Kd.R_below (rl HL549_2) hb)
    replace HL553_1 := Aside0.mk (Kd.R_below (rl HL553_1) hb)
    replace HL553_2 := Aside0.mk (Kd.R_below (rl HL553_2) hb)
    replace HL554_1 := Aside0.mk (Kd.R_below (rl HL554_1) hb)
    replace HL554_2 := Aside0.mk (Kd.R_below (rl HL554_2) hb)
    replace HO552 := Aside0.mk (Kd.V_below (vl HO552) hb)
    replace HO557 := Aside0.mk (Kd.V_below (vl HO557) hb)
    replace BK536 := bb BK536 hb
    replace BK537 := bb BK537 hb
    replace BK538 := bb BK538 hb
    replace HR546_1 := Aside0.mk (Kd.C_below (cl HR546_1.out) hb)
    replace HR546_2 := Aside0.mk (Kd.C_below (cl HR546_2.out) hb)
    replace HR547_1 := Aside0.mk (Kd.C_below (cl HR547_1.out) hb)
    replace HR547_2 := Aside0.mk (Kd.C_below (cl HR547_2.out) hb)
    replace HR548_1 := Aside0.mk (Kd.C_below (cl HR548_1.out) hb)
    replace HR548_2 := Aside0.mk (Kd.C_below (cl HR548_2.out) hb)
    replace HR549_1 := Aside0.mk (Kd.C_below (cl HR549_1.out) hb)
    replace HR549_2 := Aside0.mk (Kd.C_below (cl HR549_2.out) hb)
    replace HR553_1 := Aside0.mk (Kd.C_below (cl HR553_1.out) hb)
    replace HR553_2 := Aside0.mk (Kd.C_below (cl HR553_2.out) hb)
    replace HR554_1 := Aside0.mk (Kd.C_below (cl HR554_1.out) hb)
    replace HR554_2 := Aside0.mk (Kd.C_below (cl HR554_2.out) hb)
    replace HB := hs HB hb
    (try clear hb)
    (try clear hb2)
    (try clear hk)
    (try clear hi)
    refine hK.out _ _ ⟨HS0_, HS1_, HS2_, HS3_, HS4_, HS5_, HS6_, HS7_, HS8_, HS9_, HS10_, HS11_, HS12_, HS13_, HS14_, HS15_, HS16_, HS17_⟩ (fun hHeld => ?_)
    clear hK K
    refine norm_ (a' := ?_) ?_ ?_
    rotate_left
    ·show Act.put _ (some 46) _ = _
     simp only [Act.put, List.setIfInBounds_toArray, List.set_cons_zero, List.set_cons_succ, i64_w, i32_w]
     rfl
    refine pu (i := 29) (N := some 47) ?_
    refine pu (i := 30) (N := some 48) ?_
    refine on (i := 31) (N := none) (fun K hK => ?_)
    have hs29 : w28.cell? ⟨gb538, 0, none⟩ = some (.bool false) := (blk_cell BK538.out 0).trans rfl
    have hfs29 := blk_frozen BK538.out 0
    have hns29_0 := NB536_538.out
    have hns29_1 := NB537_538.out
    have hms29_0 := NB538_536.out
    have hms29_1 := NB538_537.out
    have hs30 : w28.cell? ⟨gb538, 1, none⟩ = some (.string (⟨#[]⟩ : ByteArray)) := (blk_cell BK538.out 1).trans rfl
    have hfs30 := blk_frozen BK538.out 1
    have hns30_0 := NB536_538.out
    have hns30_1 := NB537_538.out
    have hms30_0 := NB538_536.out
    have hms30_1 := NB538_537.out
    have hs31 : w28.cell? ⟨gb538, 2, none⟩ = some (.string (⟨#[]⟩ : ByteArray)) := (blk_cell BK538.out 2).trans rfl
    have hfs31 := blk_frozen BK538.out 2
    have hns31_0 := NB536_538.out
    have hns31_1 := NB537_538.out
    have hms31_0 := NB538_536.out
    have hms31_1 := NB538_537.out
    refine skip_ (w1 := ?_) (by rfl) rfl ?_ ?_
    rotate_left
    ·go_simp
     rfl
    have F_ := Kd.S_ne HO545.out BK538.out (by decide); refine hK.out _ _ ⟨(cf F_ (cf F_ (cf F_ hHeld.1))), (cf F_ (cf F_ (cf F_ hHeld.2.1))), (cf F_ (cf F_ (cf F_ hHeld.2.2.1))), (cf F_ (cf F_ (cf F_ hHeld.2.2.2.1))), (cf F_ (cf F_ (cf F_ hHeld.2.2.2.2.1))), (cf F_ (cf F_ (cf F_ hHeld.2.2.2.2.2.1))), (cf F_ (cf F_ (cf F_ hHeld.2.2.2.2.2.2.1))), (cf F_ (cf F_ (cf F_ hHeld.2.2.2.2.2.2.2.1))), (cf F_ (cf F_ (cf F_ hHeld.2.2.2.2.2.2.2.2.1))), (cf F_ (cf F_ (cf F_ hHeld.2.2.2.2.2.2.2.2.2.1))), (cf F_ (cf F_ (cf F_ hHeld.2.2.2.2.2.2.2.2.2.2.1))), (cf F_ (cf F_ (cf F_ hHeld.2.2.2.2.2.2.2.2.2.2.2.1))), (cf F_ (cf F_ (cf F_ hHeld.2.2.2.2.2.2.2.2.2.2.2.2.1))), (cf F_ (cf F_ (cf F_ hHeld.2.2.2.2.2.2.2.2.2.2.2.2.2.1))), (cf F_ (cf F_ (cf F_ hHeld.2.2.2.2.2.2.2.2.2.2.2.2.2.2.1))), (cf F_ (cf F_ (cf F_ hHeld.2.2.2.2.2.2.2.2.2.2.2.2.2.2.2.1))), (cf F_ (cf F_ (cf F_ hHeld.2.2.2.2.2.2.2.2.2.2.2.2.2.2.2.2.1))), (cf F_ (cf F_ (cf F_ hHeld.2.2.2.2.2.2.2.2.2.2.2.2.2.2.2.2.2)))⟩ (fun hHeld => ?_)
    clear hK K
    refine pu (i := 32) (N := some 5) ?_
    refine done_ (done_of HT_.out (by kernel_rfl)) ?_
    try go_wp2
    refine bodyPost_ret (results_ct rfl _ _ gb538 35 #[.bool t558, .string t559, .string t560] (0, 0) _ rfl bw Try.underlying35 rfl (by kernel_rfl)) rfl ?_
    exact ⟨er, bs⟩
   ·rw [if_neg c6] at H
    exact absurd H (by simp)
  ·rw [if_neg c5] at H
   exact absurd H (by simp)
 ·replace c4 := Bool.eq_false_iff.mpr c4
  subst c4
  have H1 : (some (false, (⟨#[]⟩ : ByteArray), (⟨#[]⟩ : ByteArray), 1)) = some (r1, r2, r3, r4) := by rw [if_neg (show ¬ (false = true) by decide)] at H; exact H
  clear H
  have H := H1
  clear H1
  simp only [Option.some.injEq, Prod.mk.injEq] at H
  obtain ⟨rfl, rfl, rfl, rfl⟩ := H
  go_enter Try.func26, Try.ntmps26
  go_wp2_with (first | ((with_reducible refine gate_dst (N := 2) rfl ?_); refine be (N := 2) (cs := #[.bool a0_0, .string a0_1, .string a0_2]) (t := 35) ?_; intro gb536 hg w32 hbox hb; have BK536 := Aside0.mk (hbox); have GW536 := gw HB hg; have GE536 := GW536; replace HB := hs HB hb; clear hb hbox hg) | ((with_reducible refine gate_dst (N := 3) rfl ?_); refine be (N := 3) (cs := #[.bool a1_0, .string a1_1, .string a1_2]) (t := 35) ?_; intro gb537 hg w33 hbox hb; have BK537 := Aside0.mk (hbox); have GW537 := gw HB hg; have GE537 := GW537; replace HB := hs HB hb; have NB536_537 := na BK536 hg; have NB537_536 := nz NB536_537; replace BK536 := bb BK536 hb; clear hb hbox hg) | ((with_reducible refine gate_dst (N := 4) rfl ?_); refine be (N := 4) (cs := #[.bool false, .string (⟨#[]⟩ : ByteArray), .string (⟨#[]⟩ : ByteArray)]) (t := 35) ?_; intro gb538 hg w34 hbox hb; have BK538 := Aside0.mk (hbox); have GW538 := gw HB hg; have GE538 := GW538; replace HB := hs HB hb; have NB536_538 := na BK536 hg; have NB538_536 := nz NB536_538; replace BK536 := bb BK536 hb; have NB537_538 := na BK537 hg; have NB538_537 := nz NB537_538; replace BK537 := bb BK537 hb; clear hb hbox hg; have hnb35 := NB536_537.out; have hnc35 := NB537_536.out; have hnb36 := NB536_538.out; have hnc36 := NB538_536.out; obtain ⟨hcz37_0, hcz37_1, hcz37_2, hfz37_0, hfz37_1, hfz37_2⟩ := z3 BK536; have hnb38 := NB537_538.out; have hnc38 := NB538_537.out; obtain ⟨hcz39_0, hcz39_1, hcz39_2, hfz39_0, hfz39_1, hfz39_2⟩ := z3 BK537) | ((with_reducible refine gate_dst (N := 11) rfl ?_); refine Kd.R_lit k35 _ 35 ?hg (N := 11) ?hd (xs := ([(⟨a0_0, a0_1, a0_2⟩ : S35), (⟨a1_0, a1_1, a1_2⟩ : S35)] : List (S35))) (inner := [.bool a0_0, .string a0_1, .string a0_2, .bool a1_0, .string a1_1, .string a1_2]) (ok := fun _ => True) (okp := fun _ => True) ?hr ?hp (fun _ hk => hk) trivial (Below.refl _ _) (Nat.le_refl _) (by simp) ?_; (case hd => rfl); (case hg => rfl); (case hr => first | (go_simp; done) | (go_simp; rfl)); (case hp => exact (Reps.c3 (show Kd.M k35 _ _ _ (⟨a0_0, a0_1, a0_2⟩ : S35) [.bool a0_0, .string a0_1, .string a0_2] from (k35_mkM _ _ _ (⟨a0_0, a0_1, a0_2⟩ : S35) )) (Reps.c3 (show Kd.M k35 _ _ _ (⟨a1_0, a1_1, a1_2⟩ : S35) [.bool a1_0, .string a1_1, .string a1_2] from (k35_mkM _ _ _ (⟨a1_0, a1_1, a1_2⟩ : S35) )) (Reps.none _ _)))); intro v540 w40 ho41 hb hg_ hnew_; clear hg_ hnew_; (first | rw [← Ny539.out] at ho41 | (simp only [Int.reduceToNat] at ho41; rw [← Ny539.out] at ho41)); have HO541 := Aside0.mk (Kd.R_lower (Kd.R_newB (Kd.R_newB (Kd.R_newB ho41 (g := gb536) (o := .cells #[.bool a0_0, .string a0_1, .string a0_2] 35 (0, 0)) bk) (g := gb537) (o := .cells #[.bool a1_0, .string a1_1, .string a1_2] 35 (0, 0)) bk) (g := gb538) (o := .cells #[.bool false, .string (⟨#[]⟩ : ByteArray), .string (⟨#[]⟩ : ByteArray)] 35 (0, 0)) bk) (below_size bs)); replace BK536 := bb BK536 hb; replace BK537 := bb BK537 hb; replace BK538 := bb BK538 hb; replace HB := hs HB hb; clear hb ho41; obtain ⟨Ao42, co42, eo42⟩ := Kd.R_slice HO541.out; subst eo42) | ((with_reducible refine gate_callee (f := 82) rfl ?_); refine goesL_ (some 12) rfl rfl Try.func82 (by kernel_rfl) rfl #[.slice Ao42 y539.length co42] rfl ga ?_; (with_reducible refine (ratio_read.calls k _ _ y539 t542 false _ ?side1 ?side2 A3.out).mono ?_); (case side1 => exact cl ((Kd.R_reads' HO541.out).2.2)); (case side2 => exact (Kd.R_reads' HO541.out).2.1); rintro e w43 ⟨v544, rfl, ho0, hb⟩; refine ⟨_, rfl, ?_⟩; replace HO541 := Aside0.mk (Kd.R_below (rl HO541) hb); have HO545 := Aside0.mk (Kd.S_lower ho0 (below_size bs)); replace BK536 := bb BK536 hb; replace BK537 := bb BK537 hb; replace BK538 := bb BK538 hb; replace HB := hs HB hb; (try clear hb); (try clear ho0); obtain ⟨hcz44_0, hcz44_1, hcz44_2, hfz44_0, hfz44_1, hfz44_2⟩ := z3 BK538))
  refine bodyPost_ret (results_ct rfl _ _ gb538 35 #[.bool false, .string (⟨#[]⟩ : ByteArray), .string (⟨#[]⟩ : ByteArray)] (0, 0) _ rfl bw Try.underlying35 rfl (by kernel_rfl)) rfl ?_
  exact ⟨er, bs⟩
end Go.Proofs.Ytccgfmjcldifcaa.P
