/- Walks of Go functions: what they compute; each theorem's conditions stand in it. -/
import Derived.Test.YtccgfmjcldifcaaT
import Derived.Test.YtccgfmjcldifcaaCIsRatio
import Derived.Test.YtccgfmjcldifcaaCLow
import Derived.Test.YtccgfmjcldifcaaCMul
import Derived.Test.YtccgfmjcldifcaaDA
import Derived.Test.YtccgfmjcldifcaaDE
namespace Go.Proofs.Ytccgfmjcldifcaa.P
open Go.RowKit Go.Proofs.YtccgfmjcldifcaaW.PrintWords Go.Proofs.YtccgfmjcldifcaaW.PrintLast Go.Proofs.YtccgfmjcldifcaaW.PrintMore
attribute [local go_sem] max2_int min2_int max_two min_two max_three min_three max_four min_four
set_option linter.unusedVariables false
set_option linter.unusedSimpArgs false
def ratio_Quo.T6 : Bool × List (List Nat × List Nat) := (true, [([], []), ([0], [0]), ([1], [1]), ([2], [2]), ([], []), ([4], [4]), ([5], [5]), ([6], [6]), ([3, 7], [3, 7]), ([], []), ([9], [9]), ([10], [10]), ([11], [11]), ([], []), ([13], [13]), ([14], [14]), ([15], [15]), ([12, 16], [12, 16]), ([], []), ([18], [18]), ([19], [19]), ([20], [20]), ([], []), ([22], [22]), ([23], [23]), ([24], [24]), ([21, 25, 17], [21, 25]), ([8, 17, 26], [8, 17, 26]), ([27, 26], [27]), ([28], [28]), ([28], [28]), ([29, 28, 0, 1, 2, 3, 4, 5, 6, 7, 8, 9, 10, 11, 12, 13, 14, 15, 16, 17, 18, 19, 20, 21, 22, 23, 24, 25, 26, 27, 28, 29, 30], [29]), ([30, 31, 0, 1, 2, 3, 4, 5, 6, 7, 8, 9, 10, 11, 12, 13, 14, 15, 16, 17, 18, 19, 20, 21, 22, 23, 24, 25, 26, 27, 28, 29, 30, 31], [30])])
def ratio_Quo.B6 : List Nat := [0, 1, 3, 7, 0, 16, 48, 112, 255, 0, 512, 1536, 3584, 0, 8192, 24576, 57344, 130560, 0, 262144, 786432, 1835008, 0, 4194304, 12582912, 29360128, 67108352, 134217727, 268435455, 536870911, 536870911, 2147483647, 4294967295]
theorem ratio_Quo.tab6 : rtab .any (opsOf Try.f29 6) = ratio_Quo.T6 := by kernel_rfl
theorem ratio_Quo.bits6 : waitsOk ratio_Quo.T6.2 ratio_Quo.B6 = true := by kernel_rfl
set_option maxHeartbeats 8000000 in
set_option maxRecDepth 100000 in
theorem ratio_Quo.calls (k : Nat) (a0_0 : Bool) (a0_1 : ByteArray) (a0_2 : ByteArray) (a1_0 : Bool) (a1_1 : ByteArray) (a1_2 : ByteArray) (r1 : Bool) (r2 : ByteArray) (r3 : ByteArray) (r4 : Int) (w : World) (h : ratio_Quo.f k a0_0 a0_1 a0_2 a1_0 a1_1 a1_2 = some (r1, r2, r3, r4)) :
  Calls Try.prog 29 #[.agg #[.bool a0_0, .string a0_1, .string a0_2], .agg #[.bool a1_0, .string a1_1, .string a1_2]] w fun e w' => e = .returned (.tuple #[.agg #[.bool r1, .string r2, .string r3], .int .i64 r4]) ∧ Below w.heap.size w w' := by
 have hu35 := Try.underlying35
 have hu88 := Try.underlying88
 have HB := Aside0.mk (Below.refl w.heap.size w)
 have H : Option.bind (ratio_read.f k (([(⟨a0_0, a0_1, a0_2⟩ : S35), (⟨a1_0, a1_1, a1_2⟩ : S35)] : List (S35)))) _ = _ := h
 clear h
 obtain ⟨y625, hy625⟩ : ∃ y_ : List (S35), y_ = (([(⟨a0_0, a0_1, a0_2⟩ : S35), (⟨a1_0, a1_1, a1_2⟩ : S35)] : List (S35))) := ⟨_, rfl⟩
 replace H : ((ratio_read.f k y625).bind fun bt628 => (if bt628.2 = true then (if 1 < (bt628.1.length : Int) then (if (((rd_T88 bt628.1 1).f1).length : Int) = 0 then (some (false, (⟨#[]⟩ : ByteArray), (⟨#[]⟩ : ByteArray), 25)) else (if 0 < (bt628.1.length : Int) then ((bignat_Nat_Mul.f k ((rd_T88 bt628.1 0).f1) ((rd_T88 bt628.1 1).f2)).bind fun t637 => ((bignat_Nat_Mul.f k ((rd_T88 bt628.1 0).f2) ((rd_T88 bt628.1 1).f1)).bind fun t642 => ((ratio_number_lowest.f k (((rd_T88 bt628.1 0).f0) != ((rd_T88 bt628.1 1).f0)) t637 t642).bind fun bt645 => (some (bt645.1, bt645.2.1, bt645.2.2.1, bt645.2.2.2))))) else (none))) else (none)) else (some (false, (⟨#[]⟩ : ByteArray), (⟨#[]⟩ : ByteArray), 1)))) = some (r1, r2, r3, r4) := by first | (rw [hy625]; with_reducible exact H) | (have H2_ := (Option.bind_some _ _).symm.trans H; rw [hy625]; with_reducible exact H2_) | (have H2_ := (Option.bind_some _ _).symm.trans H; with_reducible exact H2_) | with_reducible exact H | (rw [hy625]; exact H) | exact H
 have Ny625 := Aside0.mk hy625
 clear hy625
 replace H := Option.bind_eq_some_iff.mp H
 obtain ⟨⟨t628, t629⟩, A30, H⟩ := H
 replace H : (if t629 = true then _ else _) = _ := H
 have A3 := Aside0.mk A30
 clear A30
 by_cases c4 : t629 = true
 ·subst c4
  have H1 : (if 1 < (t628.length : Int) then _ else _) = _ := (if_pos rfl).symm.trans H
  clear H
  have H := H1
  clear H1
  by_cases c5 : 1 < (t628.length : Int)
  ·rw [if_pos c5] at H
   have c5b0 : decide (1 < (t628.length : Int)) = true := decide_eq_true c5
   have c5b1 : decide (1 < t628.length) = true := decide_eq_true (by omega)
   clear c5
   by_cases c6 : (((rd_T88 t628 1).f1).length : Int) = 0
   ·rw [if_pos c6] at H
    have c6b0 : ((((rd_T88 t628 1).f1).length : Int) == 0) = true := beq_iff_eq.mpr c6
    have c6b1 : ((((rd_T88 t628 1).f1).length : Int) != 0) = false := bne_eq_false_iff_eq.mpr c6
    clear c6
    simp only [Option.some.injEq, Prod.mk.injEq] at H
    obtain ⟨rfl, rfl, rfl, rfl⟩ := H
    go_enter Try.func29, Try.ntmps29
    go_wp2_with (first | ((with_reducible refine gate_dst (N := 2) rfl ?_); refine be (N := 2) (cs := #[.bool a0_0, .string a0_1, .string a0_2]) (t := 35) ?_; intro gb622 hg w7 hbox hb; have BK622 := Aside0.mk (hbox); have GW622 := gw HB hg; have GE622 := GW622; replace HB := hs HB hb; clear hb hbox hg) | ((with_reducible refine gate_dst (N := 3) rfl ?_); refine be (N := 3) (cs := #[.bool a1_0, .string a1_1, .string a1_2]) (t := 35) ?_; intro gb623 hg w8 hbox hb; have BK623 := Aside0.mk (hbox); have GW623 := gw HB hg; have GE623 := GW623; replace HB := hs HB hb; have NB622_623 := na BK622 hg; have NB623_622 := nz NB622_623; replace BK622 := bb BK622 hb; clear hb hbox hg) | ((with_reducible refine gate_dst (N := 4) rfl ?_); refine be (N := 4) (cs := #[.bool false, .string (⟨#[]⟩ : ByteArray), .string (⟨#[]⟩ : ByteArray)]) (t := 35) ?_; intro gb624 hg w9 hbox hb; have BK624 := Aside0.mk (hbox); have GW624 := gw HB hg; have GE624 := GW624; replace HB := hs HB hb; have NB622_624 := na BK622 hg; have NB624_622 := nz NB622_624; replace BK622 := bb BK622 hb; have NB623_624 := na BK623 hg; have NB624_623 := nz NB623_624; replace BK623 := bb BK623 hb; clear hb hbox hg; have hnb10 := NB622_623.out; have hnc10 := NB623_622.out; have hnb11 := NB622_624.out; have hnc11 := NB624_622.out; obtain ⟨hcz12_0, hcz12_1, hcz12_2, hfz12_0, hfz12_1, hfz12_2⟩ := z3 BK622; have hnb13 := NB623_624.out; have hnc13 := NB624_623.out; obtain ⟨hcz14_0, hcz14_1, hcz14_2, hfz14_0, hfz14_1, hfz14_2⟩ := z3 BK623) | ((with_reducible refine gate_dst (N := 11) rfl ?_); refine Kd.R_lit k35 _ 35 ?hg (N := 11) ?hd (xs := ([(⟨a0_0, a0_1, a0_2⟩ : S35), (⟨a1_0, a1_1, a1_2⟩ : S35)] : List (S35))) (inner := [.bool a0_0, .string a0_1, .string a0_2, .bool a1_0, .string a1_1, .string a1_2]) (ok := fun _ => True) (okp := fun _ => True) ?hr ?hp (fun _ hk => hk) trivial (Below.refl _ _) (Nat.le_refl _) (by simp) ?_; (case hd => rfl); (case hg => rfl); (case hr => first | (go_simp; done) | (go_simp; rfl)); (case hp => exact (Reps.c3 (show Kd.M k35 _ _ _ (⟨a0_0, a0_1, a0_2⟩ : S35) [.bool a0_0, .string a0_1, .string a0_2] from (k35_mkM _ _ _ (⟨a0_0, a0_1, a0_2⟩ : S35) )) (Reps.c3 (show Kd.M k35 _ _ _ (⟨a1_0, a1_1, a1_2⟩ : S35) [.bool a1_0, .string a1_1, .string a1_2] from (k35_mkM _ _ _ (⟨a1_0, a1_1, a1_2⟩ : S35) )) (Reps.none _ _)))); intro v626 w15 ho16 hb hg_ hnew_; clear hg_ hnew_; (first | rw [← Ny625.out] at ho16 | (simp only [Int.reduceToNat] at ho16; rw [← Ny625.out] at ho16)); have HO627 := Aside0.mk (Kd.R_lower (Kd.R_newB (Kd.R_newB (Kd.R_newB ho16 (g := gb622) (o := .cells #[.bool a0_0, .string a0_1, .string a0_2] 35 (0, 0)) bk) (g := gb623) (o := .cells #[.bool a1_0, .string a1_1, .string a1_2] 35 (0, 0)) bk) (g := gb624) (o := .cells #[.bool false, .string (⟨#[]⟩ : ByteArray), .string (⟨#[]⟩ : ByteArray)] 35 (0, 0)) bk) (below_size bs)); replace BK622 := bb BK622 hb; replace BK623 := bb BK623 hb; replace BK624 := bb BK624 hb; replace HB := hs HB hb; clear hb ho16; obtain ⟨Ao17, co17, eo17⟩ := Kd.R_slice HO627.out; subst eo17) | ((with_reducible refine gate_callee (f := 82) rfl ?_); refine goesL_ (some 12) rfl rfl Try.func82 (by kernel_rfl) rfl #[.slice Ao17 y625.length co17] rfl ga ?_; (with_reducible refine (ratio_read.calls k _ _ y625 t628 true _ ?side1 ?side2 A3.out).mono ?_); (case side1 => exact cl ((Kd.R_reads' HO627.out).2.2)); (case side2 => exact (Kd.R_reads' HO627.out).2.1); rintro e w18 ⟨v630, rfl, ho0, hb⟩; refine ⟨_, rfl, ?_⟩; replace HO627 := Aside0.mk (Kd.R_below (rl HO627) hb); have HO631 := Aside0.mk (Kd.S_lower ho0 (below_size bs)); replace BK622 := bb BK622 hb; replace BK623 := bb BK623 hb; replace BK624 := bb BK624 hb; replace HB := hs HB hb; (try clear hb); (try clear ho0); obtain ⟨Ao19, co19, eo19⟩ := Kd.S_slice HO631.out; subst eo19; have p632 : 0 ≤ (1 : Int) := (by omega); have q632 : 1 < (t628.length : Int) := dt; obtain ⟨ad632, A632_1, c632_1, A632_2, c632_2, e632, hx632_0, hx632_1, hx632_2, hl632_1, hi632_1, hl632_2, hi632_2⟩ := at_T88 (Kd.S_reads' HO631.out).2.2 1 p632 q632; cases e632; obtain ⟨ce632, hce632, hMe632, hcc632⟩ := Kd.S_get HO631.out z88 1 p632 (by first | exact q632 | exact dt | (have e_ := (Kd.S_reads' HO631.out).1; omega)); obtain ⟨ve632_1, ve632_2, rfl, ge632_1, ge632_2⟩ := k88_openM hMe632; have hv632_1 := hcc632 1 _ rfl; rw [add_field _ _ 1 (by omega)] at hv632_1; replace hv632_1 := Option.some.inj (hv632_1.symm.trans hx632_1); rw [hv632_1] at ge632_1; have HL632_1 := Aside0.mk (show Kd.R (Kd.int .u32) 117 _ _ _ _ ((rd_T88 t628 1).f1) from ge632_1); clear hv632_1 ge632_1; have hv632_2 := hcc632 2 _ rfl; rw [add_field _ _ 2 (by omega)] at hv632_2; replace hv632_2 := Option.some.inj (hv632_2.symm.trans hx632_2); rw [hv632_2] at ge632_2; have HL632_2 := Aside0.mk (show Kd.R (Kd.int .u32) 117 _ _ _ _ ((rd_T88 t628 1).f2) from ge632_2); clear hv632_2 ge632_2; clear hcc632 hce632; (try simp only [show (1 : Int).toNat = 1 from rfl, Nat.reduceMul, Nat.reduceEqDiff, Go.Addr.add, ↓reduceIte] at hx632_0); (try simp only [show (1 : Int).toNat = 1 from rfl, Nat.reduceMul, Nat.reduceEqDiff, Go.Addr.add, ↓reduceIte] at hx632_1); (try simp only [show (1 : Int).toNat = 1 from rfl, Nat.reduceMul, Nat.reduceEqDiff, Go.Addr.add, ↓reduceIte] at hx632_2); have qi632 : (1 < t628.length) = True := eq_true (by omega); (try rw [show ((1 : Int)).toNat = 1 from rfl] at hx632_0); (try rw [show 1 * 3 = 3 from rfl] at hx632_0); (try rw [show ((1 : Int)).toNat = 1 from rfl] at hx632_1); (try rw [show 1 * 3 = 3 from rfl] at hx632_1); (try rw [show ((1 : Int)).toNat = 1 from rfl] at hx632_2); (try rw [show 1 * 3 = 3 from rfl] at hx632_2); have HR632_1 := Aside0.mk hi632_1; have HC632_1 := Aside0.mk hl632_1; clear hi632_1 hl632_1; have HR632_2 := Aside0.mk hi632_2; have HC632_2 := Aside0.mk hl632_2; clear hi632_2 hl632_2; replace p632 := eq_true p632; replace q632 := eq_true q632; obtain ⟨hcz20_0, hcz20_1, hcz20_2, hfz20_0, hfz20_1, hfz20_2⟩ := z3 BK624))
    refine bodyPost_ret (results_ct rfl _ _ gb624 35 #[.bool false, .string (⟨#[]⟩ : ByteArray), .string (⟨#[]⟩ : ByteArray)] (0, 0) _ rfl bw Try.underlying35 rfl (by kernel_rfl)) rfl ?_
    exact ⟨er, bs⟩
   ·rw [if_neg c6] at H
    have c6b0 : ((((rd_T88 t628 1).f1).length : Int) == 0) = false := beq_eq_false_iff_ne.mpr c6
    have c6b1 : ((((rd_T88 t628 1).f1).length : Int) != 0) = true := bne_iff_ne.mpr c6
    have c6b2 : ¬ (((rd_T88 t628 1).f1) = []) := fun h_ => c6 (by rw [h_]; rfl)
    by_cases c21 : 0 < (t628.length : Int)
    ·rw [if_pos c21] at H
     have c21b0 : decide (0 < (t628.length : Int)) = true := decide_eq_true c21
     have c21b1 : decide (0 < t628.length) = true := decide_eq_true (by omega)
     clear c21
     replace H := Option.bind_eq_some_iff.mp H
     obtain ⟨t637, A220, H⟩ := H
     replace H : Option.bind (bignat_Nat_Mul.f k ((rd_T88 t628 0).f2) ((rd_T88 t628 1).f1)) _ = _ := H
     have A22 := Aside0.mk A220
     clear A220
     replace H := Option.bind_eq_some_iff.mp H
     obtain ⟨t642, A230, H⟩ := H
     replace H : Option.bind (ratio_number_lowest.f k (((rd_T88 t628 0).f0) != ((rd_T88 t628 1).f0)) t637 t642) _ = _ := H
     have A23 := Aside0.mk A230
     clear A230
     replace H := Option.bind_eq_some_iff.mp H
     obtain ⟨⟨t645, t646, t647, t648⟩, A240, H⟩ := H
     replace H : (some (t645, t646, t647, t648)) = some (r1, r2, r3, r4) := H
     have A24 := Aside0.mk A240
     clear A240
     simp only [Option.some.injEq, Prod.mk.injEq] at H
     obtain ⟨rfl, rfl, rfl, rfl⟩ := H
     go_enter Try.func29, Try.ntmps29
     try go_wp2_with (first | ((with_reducible refine gate_dst (N := 2) rfl ?_); refine be (N := 2) (cs := #[.bool a0_0, .string a0_1, .string a0_2]) (t := 35) ?_; intro gb622 hg w25 hbox hb; have BK622 := Aside0.mk (hbox); have GW622 := gw HB hg; have GE622 := GW622; replace HB := hs HB hb; clear hb hbox hg) | ((with_reducible refine gate_dst (N := 3) rfl ?_); refine be (N := 3) (cs := #[.bool a1_0, .string a1_1, .string a1_2]) (t := 35) ?_; intro gb623 hg w26 hbox hb; have BK623 := Aside0.mk (hbox); have GW623 := gw HB hg; have GE623 := GW623; replace HB := hs HB hb; have NB622_623 := na BK622 hg; have NB623_622 := nz NB622_623; replace BK622 := bb BK622 hb; clear hb hbox hg) | ((with_reducible refine gate_dst (N := 4) rfl ?_); refine be (N := 4) (cs := #[.bool false, .string (⟨#[]⟩ : ByteArray), .string (⟨#[]⟩ : ByteArray)]) (t := 35) ?_; intro gb624 hg w27 hbox hb; have BK624 := Aside0.mk (hbox); have GW624 := gw HB hg; have GE624 := GW624; replace HB := hs HB hb; have NB622_624 := na BK622 hg; have NB624_622 := nz NB622_624; replace BK622 := bb BK622 hb; have NB623_624 := na BK623 hg; have NB624_623 := nz NB623_624; replace BK623 := bb BK623 hb; clear hb hbox hg; have hnb28 := NB622_623.out; have hnc28 := NB623_622.out; have hnb29 := NB622_624.out; have hnc29 := NB624_622.out; obtain ⟨hcz30_0, hcz30_1, hcz30_2, hfz30_0, hfz30_1, hfz30_2⟩ := z3 BK622; have hnb31 := NB623_624.out; have hnc31 := NB624_623.out; obtain ⟨hcz32_0, hcz32_1, hcz32_2, hfz32_0, hfz32_1, hfz32_2⟩ := z3 BK623) | ((with_reducible refine gate_dst (N := 11) rfl ?_); refine Kd.R_lit k35 _ 35 ?hg (N := 11) ?hd (xs := ([(⟨a0_0, a0_1, a0_2⟩ : S35), (⟨a1_0, a1_1, a1_2⟩ : S35)] : List (S35))) (inner := [.bool a0_0, .string a0_1, .string a0_2, .bool a1_0, .string a1_1, .string a1_2]) (ok := fun _ => True) (okp := fun _ => True) ?hr ?hp (fun _ hk => hk) trivial (Below.refl _ _) (Nat.le_refl _) (by simp) ?_; (case hd => rfl); (case hg => rfl); (case hr => first | (go_simp; done) | (go_simp; rfl)); (case hp => exact (Reps.c3 (show Kd.M k35 _ _ _ (⟨a0_0, a0_1, a0_2⟩ : S35) [.bool a0_0, .string a0_1, .string a0_2] from (k35_mkM _ _ _ (⟨a0_0, a0_1, a0_2⟩ : S35) )) (Reps.c3 (show Kd.M k35 _ _ _ (⟨a1_0, a1_1, a1_2⟩ : S35) [.bool a1_0, .string a1_1, .string a1_2] from (k35_mkM _ _ _ (⟨a1_0, a1_1, a1_2⟩ : S35) )) (Reps.none _ _)))); intro v626 w33 ho34 hb hg_ hnew_; clear hg_ hnew_; (first | rw [← Ny625.out] at ho34 | (simp only [Int.reduceToNat] at ho34; rw [← Ny625.out] at ho34)); have HO627 := Aside0.mk (Kd.R_lower (Kd.R_newB (Kd.R_newB (Kd.R_newB ho34 (g := gb622) (o := .cells #[.bool a0_0, .string a0_1, .string a0_2] 35 (0, 0)) bk) (g := gb623) (o := .cells #[.bool a1_0, .string a1_1, .string a1_2] 35 (0, 0)) bk) (g := gb624) (o := .cells #[.bool false, .string (⟨#[]⟩ : ByteArray), .string (⟨#[]⟩ : ByteArray)] 35 (0, 0)) bk) (below_size bs)); replace BK622 := bb BK622 hb; replace BK623 := bb BK623 hb; replace BK624 := bb BK624 hb; replace HB := hs HB hb; clear hb ho34; obtain ⟨Ao35, co35, eo35⟩ := Kd.R_slice HO627.out; subst eo35) | ((with_reducible refine gate_callee (f := 82) rfl ?_); refine goesL_ (some 12) rfl rfl Try.func82 (by kernel_rfl) rfl #[.slice Ao35 y625.length co35] rfl ga ?_; (with_reducible refine (ratio_read.calls k _ _ y625 t628 true _ ?side1 ?side2 A3.out).mono ?_); (case side1 => exact cl ((Kd.R_reads' HO627.out).2.2)); (case side2 => exact (Kd.R_reads' HO627.out).2.1); rintro e w36 ⟨v630, rfl, ho0, hb⟩; refine ⟨_, rfl, ?_⟩; replace HO627 := Aside0.mk (Kd.R_below (rl HO627) hb); have HO631 := Aside0.mk (Kd.S_lower ho0 (below_size bs)); replace BK622 := bb BK622 hb; replace BK623 := bb BK623 hb; replace BK624 := bb BK624 hb; replace HB := hs HB hb; (try clear hb); (try clear ho0); obtain ⟨Ao37, co37, eo37⟩ := Kd.S_slice HO631.out; subst eo37; have p632 : 0 ≤ (1 : Int) := (by omega); have q632 : 1 < (t628.length : Int) := dt; obtain ⟨ad632, A632_1, c632_1, A632_2, c632_2, e632, hx632_0, hx632_1, hx632_2, hl632_1, hi632_1, hl632_2, hi632_2⟩ := at_T88 (Kd.S_reads' HO631.out).2.2 1 p632 q632; cases e632; obtain ⟨ce632, hce632, hMe632, hcc632⟩ := Kd.S_get HO631.out z88 1 p632 (by first | exact q632 | exact dt | (have e_ := (Kd.S_reads' HO631.out).1; omega)); obtain ⟨ve632_1, ve632_2, rfl, ge632_1, ge632_2⟩ := k88_openM hMe632; have hv632_1 := hcc632 1 _ rfl; rw [add_field _ _ 1 (by omega)] at hv632_1; replace hv632_1 := Option.some.inj (hv632_1.symm.trans hx632_1); rw [hv632_1] at ge632_1; have HL632_1 := Aside0.mk (show Kd.R (Kd.int .u32) 117 _ _ _ _ ((rd_T88 t628 1).f1) from ge632_1); clear hv632_1 ge632_1; have hv632_2 := hcc632 2 _ rfl; rw [add_field _ _ 2 (by omega)] at hv632_2; replace hv632_2 := Option.some.inj (hv632_2.symm.trans hx632_2); rw [hv632_2] at ge632_2; have HL632_2 := Aside0.mk (show Kd.R (Kd.int .u32) 117 _ _ _ _ ((rd_T88 t628 1).f2) from ge632_2); clear hv632_2 ge632_2; clear hcc632 hce632; (try simp only [show (1 : Int).toNat = 1 from rfl, Nat.reduceMul, Nat.reduceEqDiff, Go.Addr.add, ↓reduceIte] at hx632_0); (try simp only [show (1 : Int).toNat = 1 from rfl, Nat.reduceMul, Nat.reduceEqDiff, Go.Addr.add, ↓reduceIte] at hx632_1); (try simp only [show (1 : Int).toNat = 1 from rfl, Nat.reduceMul, Nat.reduceEqDiff, Go.Addr.add, ↓reduceIte] at hx632_2); have qi632 : (1 < t628.length) = True := eq_true (by omega); (try rw [show ((1 : Int)).toNat = 1 from rfl] at hx632_0); (try rw [show 1 * 3 = 3 from rfl] at hx632_0); (try rw [show ((1 : Int)).toNat = 1 from rfl] at hx632_1); (try rw [show 1 * 3 = 3 from rfl] at hx632_1); (try rw [show ((1 : Int)).toNat = 1 from rfl] at hx632_2); (try rw [show 1 * 3 = 3 from rfl] at hx632_2); have HR632_1 := Aside0.mk hi632_1; have HC632_1 := Aside0.mk hl632_1; clear hi632_1 hl632_1; have HR632_2 := Aside0.mk hi632_2; have HC632_2 := Aside0.mk hl632_2; clear hi632_2 hl632_2; replace p632 := eq_true p632; replace q632 := eq_true q632))
     replace HO627 := Aside0.mk (Kd.R_drew HO627.out)
     replace HO631 := Aside0.mk (Kd.S_drew HO631.out)
     replace HL632_1 := Aside0.mk (Kd.R_drew HL632_1.out)
     replace HL632_2 := Aside0.mk (Kd.R_drew HL632_2.out)
     replace BK622 := Aside0.mk (blk_drew BK622.out)
     replace BK623 := Aside0.mk (blk_drew BK623.out)
     replace BK624 := Aside0.mk (blk_drew BK624.out)
     replace HR632_1 := Aside0.mk (Kd.C_drew HR632_1.out)
     replace HR632_2 := Aside0.mk (Kd.C_drew HR632_2.out)
     replace HB := Aside0.mk (below_drew1 HB.out)
     have q633 : 0 < (t628.length : Int) := dt
     obtain ⟨ad633, A633_1, c633_1, A633_2, c633_2, e633, hx633_0, hx633_1, hx633_2, HR633_1, HC633_1, HR633_2, HC633_2, HL633_1, HL633_2⟩ := r88z HO631.out q633
     obtain rfl : ad632 = ad633 := (by injection e633)
     have qi633 : (0 < t628.length) = True := eq_true (by omega)
     have p633 : (0 ≤ (0 : Int)) = True := eq_true (by omega)
     replace q633 := eq_true q633
     have q634 : 1 < (t628.length : Int) := dt
     obtain ⟨ad634, A634_1, c634_1, A634_2, c634_2, e634, hx634_0, hx634_1, hx634_2, HR634_1, HC634_1, HR634_2, HC634_2, HL634_1, HL634_2⟩ := r88o HO631.out q634
     obtain rfl : ad632 = ad634 := (by injection e634)
     have qi634 : (1 < t628.length) = True := eq_true (by omega)
     have p634 : (0 ≤ (1 : Int)) = True := eq_true (by omega)
     replace q634 := eq_true q634
     have q635 : 0 < (t628.length : Int) := dt
     obtain ⟨ad635, A635_1, c635_1, A635_2, c635_2, e635, hx635_0, hx635_1, hx635_2, HR635_1, HC635_1, HR635_2, HC635_2, HL635_1, HL635_2⟩ := r88z HO631.out q635
     obtain rfl : ad632 = ad635 := (by injection e635)
     have qi635 : (0 < t628.length) = True := eq_true (by omega)
     have p635 : (0 ≤ (0 : Int)) = True := eq_true (by omega)
     replace q635 := eq_true q635
     obtain ⟨rfl, rfl⟩ := se hx633_1 hx635_1
     obtain ⟨rfl, rfl⟩ := se hx633_2 hx635_2
     have q636 : 1 < (t628.length : Int) := dt
     obtain ⟨ad636, A636_1, c636_1, A636_2, c636_2, e636, hx636_0, hx636_1, hx636_2, HR636_1, HC636_1, HR636_2, HC636_2, HL636_1, HL636_2⟩ := r88o HO631.out q636
     obtain rfl : ad632 = ad636 := (by injection e636)
     have qi636 : (1 < t628.length) = True := eq_true (by omega)
     have p636 : (0 ≤ (1 : Int)) = True := eq_true (by omega)
     replace q636 := eq_true q636
     obtain ⟨rfl, rfl⟩ := se hx634_1 hx636_1
     obtain ⟨rfl, rfl⟩ := se hx634_2 hx636_2
     have q640 : 0 < (t628.length : Int) := dt
     obtain ⟨ad640, A640_1, c640_1, A640_2, c640_2, e640, hx640_0, hx640_1, hx640_2, HR640_1, HC640_1, HR640_2, HC640_2, HL640_1, HL640_2⟩ := r88z HO631.out q640
     obtain rfl : ad632 = ad640 := (by injection e640)
     have qi640 : (0 < t628.length) = True := eq_true (by omega)
     have p640 : (0 ≤ (0 : Int)) = True := eq_true (by omega)
     replace q640 := eq_true q640
     obtain ⟨rfl, rfl⟩ := se hx633_1 hx640_1
     obtain ⟨rfl, rfl⟩ := se hx633_2 hx640_2
     have q641 : 1 < (t628.length : Int) := dt
     obtain ⟨ad641, A641_1, c641_1, A641_2, c641_2, e641, hx641_0, hx641_1, hx641_2, HR641_1, HC641_1, HR641_2, HC641_2, HL641_1, HL641_2⟩ := r88o HO631.out q641
     obtain rfl : ad632 = ad641 := (by injection e641)
     have qi641 : (1 < t628.length) = True := eq_true (by omega)
     have p641 : (0 ≤ (1 : Int)) = True := eq_true (by omega)
     replace q641 := eq_true q641
     obtain ⟨rfl, rfl⟩ := se hx634_1 hx641_1
     obtain ⟨rfl, rfl⟩ := se hx634_2 hx641_2
     refine start_ (n := 33) (S := fun w' => w'.cell? ad632 = some (.bool ((rd_T88 t628 0).f0)) ∧ w'.cell? ⟨ad632.block, ad632.off + 1, none⟩ = some (.slice A633_1 ((rd_T88 t628 0).f1).length c633_1) ∧ w'.cell? ⟨ad632.block, ad632.off + 2, none⟩ = some (.slice A633_2 ((rd_T88 t628 0).f2).length c633_2) ∧ w'.cell? ⟨ad632.block, ad632.off + 3, none⟩ = some (.bool ((rd_T88 t628 1).f0)) ∧ w'.cell? ⟨ad632.block, ad632.off + 3 + 1, none⟩ = some (.slice A634_1 ((rd_T88 t628 1).f1).length c634_1) ∧ w'.cell? ⟨ad632.block, ad632.off + 3 + 2, none⟩ = some (.slice A634_2 ((rd_T88 t628 1).f2).length c634_2) ∧ w'.cell? ad632 = some (.bool ((rd_T88 t628 0).f0)) ∧ w'.cell? ⟨ad632.block, ad632.off + 1, none⟩ = some (.slice A633_1 ((rd_T88 t628 0).f1).length c633_1) ∧ w'.cell? ⟨ad632.block, ad632.off + 2, none⟩ = some (.slice A633_2 ((rd_T88 t628 0).f2).length c633_2) ∧ w'.cell? ⟨ad632.block, ad632.off + 3, none⟩ = some (.bool ((rd_T88 t628 1).f0)) ∧ w'.cell? ⟨ad632.block, ad632.off + 3 + 1, none⟩ = some (.slice A634_1 ((rd_T88 t628 1).f1).length c634_1) ∧ w'.cell? ⟨ad632.block, ad632.off + 3 + 2, none⟩ = some (.slice A634_2 ((rd_T88 t628 1).f2).length c634_2) ∧ w'.cell? ad632 = some (.bool ((rd_T88 t628 0).f0)) ∧ w'.cell? ⟨ad632.block, ad632.off + 1, none⟩ = some (.slice A633_1 ((rd_T88 t628 0).f1).length c633_1) ∧ w'.cell? ⟨ad632.block, ad632.off + 2, none⟩ = some (.slice A633_2 ((rd_T88 t628 0).f2).length c633_2) ∧ w'.cell? ⟨ad632.block, ad632.off + 3, none⟩ = some (.bool ((rd_T88 t628 1).f0)) ∧ w'.cell? ⟨ad632.block, ad632.off + 3 + 1, none⟩ = some (.slice A634_1 ((rd_T88 t628 1).f1).length c634_1) ∧ w'.cell? ⟨ad632.block, ad632.off + 3 + 2, none⟩ = some (.slice A634_2 ((rd_T88 t628 1).f2).length c634_2)) (ds := []) #[false, false, false, false, false, false, false, false, false, false, false, false, false, false, false, false, false, false, false, false, false, false, false, false, false, false, false, false, false, false, false, false, false] (by kernel_rfl) rfl rfl ⟨hx633_0, hx633_1, hx633_2, hx634_0, hx634_1, hx634_2, hx635_0, hx635_1, hx635_2, hx636_0, hx636_1, hx636_2, hx640_0, hx640_1, hx640_2, hx641_0, hx641_1, hx641_2⟩ (fun hHeld => ?_); refine with_tabW ratio_Quo.tab6 ratio_Quo.bits6 (fun HT_ HW_ => ?_)
     generalize w36.drew = w38 at HO627 HO631 HL632_1 HL632_2 BK622 BK623 BK624 HR632_1 HR632_2 HB HL633_1 HL633_2 HL634_1 HL634_2 HL635_1 HL635_2 HL636_1 HL636_2 HL640_1 HL640_2 HL641_1 HL641_2 HR633_1 HR633_2 HR634_1 HR634_2 HR635_1 HR635_2 HR636_1 HR636_2 HR640_1 HR640_2 HR641_1 HR641_2 hx633_0 hx633_1 hx633_2 hx634_0 hx634_1 hx634_2 hx635_0 hx635_1 hx635_2 hx636_0 hx636_1 hx636_2 hx640_0 hx640_1 hx640_2 hx641_0 hx641_1 hx641_2 hHeld ⊢
     refine pu (i := 0) (N := some 25) ?_
     refine pu (i := 1) (N := some 26) ?_
     refine pu (i := 2) (N := some 27) ?_
     refine pu (i := 4) (N := some 29) ?_
     refine pu (i := 5) (N := some 30) ?_
     refine pu (i := 6) (N := some 31) ?_
     refine pu (i := 9) (N := some 34) ?_
     refine pu (i := 10) (N := some 35) ?_
     refine pu (i := 11) (N := some 36) ?_
     refine pu (i := 13) (N := some 38) ?_
     refine pu (i := 14) (N := some 39) ?_
     refine pu (i := 15) (N := some 40) ?_
     refine pu (i := 18) (N := some 43) ?_
     refine pu (i := 19) (N := some 44) ?_
     refine pu (i := 20) (N := some 45) ?_
     refine pu (i := 22) (N := some 47) ?_
     refine pu (i := 23) (N := some 48) ?_
     refine pu (i := 24) (N := some 49) ?_
     refine ta (i := 3) (N := some 28) hHeld ?_
     refine ta (i := 7) (N := some 32) hHeld ?_
     refine pu (i := 8) (N := some 33) ?_
     refine ta (i := 12) (N := some 37) hHeld ?_
     refine ta (i := 16) (N := some 41) hHeld ?_
     refine ta (i := 21) (N := some 46) hHeld ?_
     refine ta (i := 25) (N := some 50) hHeld ?_
     refine on (i := 17) (N := some 42) (fun K hK => ?_)
     refine goes_ Try.func78 (by kernel_rfl) rfl #[.slice A633_1 ((rd_T88 t628 0).f1).length c633_1, .slice A634_2 ((rd_T88 t628 1).f2).length c634_2] (by rfl) rfl rfl ga ?_
     with_reducible refine (bignat_Nat_Mul.calls k _ _ ((rd_T88 t628 0).f1) _ _ ((rd_T88 t628 1).f2) t637 _ ?side1 ?side2 ?side3 ?side4 A22.out).mono ?_
     (case side1 => repeat (first | exact (cl HR635_1.out) | (with_reducible refine Kd.C_alloc ?_ _) | (with_reducible refine Kd.C_drewN ?_ _) | (with_reducible refine Kd.C_drew ?_)))
     (case side2 => exact HC635_1.out)
     (case side3 => repeat (first | exact (cl HR636_2.out) | (with_reducible refine Kd.C_alloc ?_ _) | (with_reducible refine Kd.C_drewN ?_ _) | (with_reducible refine Kd.C_drew ?_)))
     (case side4 => exact HC636_2.out)
     rintro e w39 ⟨v638, rfl, ho0, hb⟩
     have HS0_ := (hb.cell (World.block_lt_of_cell? _ _ (hHeld.1))).trans (hHeld.1)
     have HS1_ := (hb.cell (World.block_lt_of_cell? _ _ (hHeld.2.1))).trans (hHeld.2.1)
     have HS2_ := (hb.cell (World.block_lt_of_cell? _ _ (hHeld.2.2.1))).trans (hHeld.2.2.1)
     have HS3_ := (hb.cell (World.block_lt_of_cell? _ _ (hHeld.2.2.2.1))).trans (hHeld.2.2.2.1)
     have HS4_ := (hb.cell (World.block_lt_of_cell? _ _ (hHeld.2.2.2.2.1))).trans (hHeld.2.2.2.2.1)
     have HS5_ := (hb.cell (World.block_lt_of_cell? _ _ (hHeld.2.2.2.2.2.1))).trans (hHeld.2.2.2.2.2.1)
     have HS6_ := (hb.cell (World.block_lt_of_cell? _ _ (hHeld.2.2.2.2.2.2.1))).trans (hHeld.2.2.2.2.2.2.1)
     have HS7_ := (hb.cell (World.block_lt_of_cell? _ _ (hHeld.2.2.2.2.2.2.2.1))).trans (hHeld.2.2.2.2.2.2.2.1)
     have HS8_ := (hb.cell (World.block_lt_of_cell? _ _ (hHeld.2.2.2.2.2.2.2.2.1))).trans (hHeld.2.2.2.2.2.2.2.2.1)
     have HS9_ := (hb.cell (World.block_lt_of_cell? _ _ (hHeld.2.2.2.2.2.2.2.2.2.1))).trans (hHeld.2.2.2.2.2.2.2.2.2.1)
     have HS10_ := (hb.cell (World.block_lt_of_cell? _ _ (hHeld.2.2.2.2.2.2.2.2.2.2.1))).trans (hHeld.2.2.2.2.2.2.2.2.2.2.1)
     have HS11_ := (hb.cell (World.block_lt_of_cell? _ _ (hHeld.2.2.2.2.2.2.2.2.2.2.2.1))).trans (hHeld.2.2.2.2.2.2.2.2.2.2.2.1)
     have HS12_ := (hb.cell (World.block_lt_of_cell? _ _ (hHeld.2.2.2.2.2.2.2.2.2.2.2.2.1))).trans (hHeld.2.2.2.2.2.2.2.2.2.2.2.2.1)
     have HS13_ := (hb.cell (World.block_lt_of_cell? _ _ (hHeld.2.2.2.2.2.2.2.2.2.2.2.2.2.1))).trans (hHeld.2.2.2.2.2.2.2.2.2.2.2.2.2.1)
     have HS14_ := (hb.cell (World.block_lt_of_cell? _ _ (hHeld.2.2.2.2.2.2.2.2.2.2.2.2.2.2.1))).trans (hHeld.2.2.2.2.2.2.2.2.2.2.2.2.2.2.1)
     have HS15_ := (hb.cell (World.block_lt_of_cell? _ _ (hHeld.2.2.2.2.2.2.2.2.2.2.2.2.2.2.2.1))).trans (hHeld.2.2.2.2.2.2.2.2.2.2.2.2.2.2.2.1)
     have HS16_ := (hb.cell (World.block_lt_of_cell? _ _ (hHeld.2.2.2.2.2.2.2.2.2.2.2.2.2.2.2.2.1))).trans (hHeld.2.2.2.2.2.2.2.2.2.2.2.2.2.2.2.2.1)
     have HS17_ := (hb.cell (World.block_lt_of_cell? _ _ (hHeld.2.2.2.2.2.2.2.2.2.2.2.2.2.2.2.2.2))).trans (hHeld.2.2.2.2.2.2.2.2.2.2.2.2.2.2.2.2.2)
     refine ⟨_, rfl, ?_⟩
     replace HL632_1 := Aside0.mk (Kd.R_below (rl HL632_1) hb)
     replace HL632_2 := Aside0.mk (Kd.R_below (rl HL632_2) hb)
     replace HL633_1 := Aside0.mk (Kd.R_below (rl HL633_1) hb)
     replace HL633_2 := Aside0.mk (Kd.R_below (rl HL633_2) hb)
     replace HL634_1 := Aside0.mk (Kd.R_below (rl HL634_1) hb)
     replace HL634_2 := Aside0.mk (Kd.R_below (rl HL634_2) hb)
     replace HL635_1 := Aside0.mk (Kd.R_below (rl HL635_1) hb)
     replace HL635_2 := Aside0.mk (Kd.R_below (rl HL635_2) hb)
     replace HL636_1 := Aside0.mk (Kd.R_below (rl HL636_1) hb)
     replace HL636_2 := Aside0.mk (Kd.R_below (rl HL636_2) hb)
     replace HL640_1 := Aside0.mk (Kd.R_below (rl HL640_1) hb)
     replace HL640_2 := Aside0.mk (Kd.R_below (rl HL640_2) hb)
     replace HL641_1 := Aside0.mk (Kd.R_below (rl HL641_1) hb)
     replace HL641_2 := Aside0.mk (Kd.R_below (rl HL641_2) hb)
     have HO639 := Aside0.mk (Kd.V_lower (Kd.V_mono (ok' := fun k_ => some k_ ≠ (.slice Ao35 y625.length co35 : Value).ownBlock ∧ some k_ ≠ (.slice (some ad632) t628.length co37 : Value).ownBlock ∧ k_ ≠ gb622 ∧ k_ ≠ gb623 ∧ k_ ≠ gb624) ho0 (fun k_ hk_ => ⟨(Kd.fresh' (Kd.R_lt (rl HO627)) k_ hk_), (Kd.fresh' (Kd.S_lt (by (with_reducible repeat (first | apply Kd.S_alloc | apply Kd.S_drewN | apply Kd.S_drew)); exact HO631.out)) k_ hk_), (fb BK622 k_ hk_), (fb BK623 k_ hk_), (fb BK624 k_ hk_)⟩)) (below_size bs))
     replace HO627 := Aside0.mk (Kd.R_below (rl HO627) hb)
     replace HO631 := Aside0.mk (Kd.S_below (by (with_reducible repeat (first | apply Kd.S_alloc | apply Kd.S_drewN | apply Kd.S_drew)); exact HO631.out) hb)
     replace BK622 := bb BK622 hb
     replace BK623 := bb BK623 hb
     replace BK624 := bb BK624 hb
     replace HR632_1 := Aside0.mk (Kd.C_below (cl HR632_1.out) hb)
     replace HR632_2 := Aside0.mk (Kd.C_below (cl HR632_2.out) hb)
     replace HR633_1 := Aside0.mk (Kd.C_below (cl HR633_1.out) hb)
     replace HR633_2 := Aside0.mk (Kd.C_below (cl HR633_2.out) hb)
     replace HR634_1 := Aside0.mk (Kd.C_below (cl HR634_1.out) hb)
     replace HR634_2 := Aside0.mk (Kd.C_below (cl HR634_2.out) hb)
     replace HR635_1 := Aside0.mk (Kd.C_below (cl HR635_1.out) hb)
     replace HR635_2 := Aside0.mk (Kd.C_below (cl HR635_2.out) hb)
     replace HR636_1 := Aside0.mk (Kd.C_below (cl HR636_1.out) hb)
     replace HR636_2 := Aside0.mk (Kd.C_below (cl HR636_2.out) hb)
     replace HR640_1 := Aside0.mk (Kd.C_below (cl HR640_1.out) hb)
     replace HR640_2 := Aside0.mk (Kd.C_below (cl HR640_2.out) hb)
     replace HR641_1 := Aside0.mk (Kd.C_below (cl HR641_1.out) hb)
     replace HR641_2 := Aside0.mk (Kd.C_below (cl HR641_2.out) hb)
     replace HB := hs HB hb
     (try clear hb)
     (try clear hb2)
     (try clear hk)
     (try clear hi)
     (try clear ho0)
     refine hK.out _ _ ⟨HS0_, HS1_, HS2_, HS3_, HS4_, HS5_, HS6_, HS7_, HS8_, HS9_, HS10_, HS11_, HS12_, HS13_, HS14_, HS15_, HS16_, HS17_⟩ (fun hHeld => ?_)
     clear hK K
     refine norm_ (a' := ?_) ?_ ?_
     rotate_left
     ·show Act.put _ (some 42) _ = _
      simp only [Act.put, List.setIfInBounds_toArray, List.set_cons_zero, List.set_cons_succ, i64_w, i32_w]
      rfl
     refine on (i := 26) (N := some 51) (fun K hK => ?_)
     refine goes_ Try.func78 (by kernel_rfl) rfl #[.slice A633_2 ((rd_T88 t628 0).f2).length c633_2, .slice A634_1 ((rd_T88 t628 1).f1).length c634_1] (by rfl) rfl rfl ga ?_
     with_reducible refine (bignat_Nat_Mul.calls k _ _ ((rd_T88 t628 0).f2) _ _ ((rd_T88 t628 1).f1) t642 _ ?side1 ?side2 ?side3 ?side4 A23.out).mono ?_
     (case side1 => repeat (first | exact (cl HR640_2.out) | (with_reducible refine Kd.C_alloc ?_ _) | (with_reducible refine Kd.C_drewN ?_ _) | (with_reducible refine Kd.C_drew ?_)))
     (case side2 => exact HC640_2.out)
     (case side3 => repeat (first | exact (cl HR641_1.out) | (with_reducible refine Kd.C_alloc ?_ _) | (with_reducible refine Kd.C_drewN ?_ _) | (with_reducible refine Kd.C_drew ?_)))
     (case side4 => exact HC641_1.out)
     rintro e w40 ⟨v643, rfl, ho0, hb⟩
     have HS0_ := (hb.cell (World.block_lt_of_cell? _ _ (hHeld.1))).trans (hHeld.1)
     have HS1_ := (hb.cell (World.block_lt_of_cell? _ _ (hHeld.2.1))).trans (hHeld.2.1)
     have HS2_ := (hb.cell (World.block_lt_of_cell? _ _ (hHeld.2.2.1))).trans (hHeld.2.2.1)
     have HS3_ := (hb.cell (World.block_lt_of_cell? _ _ (hHeld.2.2.2.1))).trans (hHeld.2.2.2.1)
     have HS4_ := (hb.cell (World.block_lt_of_cell? _ _ (hHeld.2.2.2.2.1))).trans (hHeld.2.2.2.2.1)
     have HS5_ := (hb.cell (World.block_lt_of_cell? _ _ (hHeld.2.2.2.2.2.1))).trans (hHeld.2.2.2.2.2.1)
     have HS6_ := (hb.cell (World.block_lt_of_cell? _ _ (hHeld.2.2.2.2.2.2.1))).trans (hHeld.2.2.2.2.2.2.1)
     have HS7_ := (hb.cell (World.block_lt_of_cell? _ _ (hHeld.2.2.2.2.2.2.2.1))).trans (hHeld.2.2.2.2.2.2.2.1)
     have HS8_ := (hb.cell (World.block_lt_of_cell? _ _ (hHeld.2.2.2.2.2.2.2.2.1))).trans (hHeld.2.2.2.2.2.2.2.2.1)
     have HS9_ := (hb.cell (World.block_lt_of_cell? _ _ (hHeld.2.2.2.2.2.2.2.2.2.1))).trans (hHeld.2.2.2.2.2.2.2.2.2.1)
     have HS10_ := (hb.cell (World.block_lt_of_cell? _ _ (hHeld.2.2.2.2.2.2.2.2.2.2.1))).trans (hHeld.2.2.2.2.2.2.2.2.2.2.1)
     have HS11_ := (hb.cell (World.block_lt_of_cell? _ _ (hHeld.2.2.2.2.2.2.2.2.2.2.2.1))).trans (hHeld.2.2.2.2.2.2.2.2.2.2.2.1)
     have HS12_ := (hb.cell (World.block_lt_of_cell? _ _ (hHeld.2.2.2.2.2.2.2.2.2.2.2.2.1))).trans (hHeld.2.2.2.2.2.2.2.2.2.2.2.2.1)
     have HS13_ := (hb.cell (World.block_lt_of_cell? _ _ (hHeld.2.2.2.2.2.2.2.2.2.2.2.2.2.1))).trans (hHeld.2.2.2.2.2.2.2.2.2.2.2.2.2.1)
     have HS14_ := (hb.cell (World.block_lt_of_cell? _ _ (hHeld.2.2.2.2.2.2.2.2.2.2.2.2.2.2.1))).trans (hHeld.2.2.2.2.2.2.2.2.2.2.2.2.2.2.1)
     have HS15_ := (hb.cell (World.block_lt_of_cell? _ _ (hHeld.2.2.2.2.2.2.2.2.2.2.2.2.2.2.2.1))).trans (hHeld.2.2.2.2.2.2.2.2.2.2.2.2.2.2.2.1)
     have HS16_ := (hb.cell (World.block_lt_of_cell? _ _ (hHeld.2.2.2.2.2.2.2.2.2.2.2.2.2.2.2.2.1))).trans (hHeld.2.2.2.2.2.2.2.2.2.2.2.2.2.2.2.2.1)
     have HS17_ := (hb.cell (World.block_lt_of_cell? _ _ (hHeld.2.2.2.2.2.2.2.2.2.2.2.2.2.2.2.2.2))).trans (hHeld.2.2.2.2.2.2.2.2.2.2.2.2.2.2.2.2.2)
     refine ⟨_, rfl, ?_⟩
     replace HL632_1 := Aside0.mk (Kd.R_below (rl HL632_1) hb)
     replace HL632_2 := Aside0.mk (Kd.R_below (rl HL632_2) hb)
     replace HL633_1 := Aside0.mk (Kd.R_below (rl HL633_1) hb)
     replace HL633_2 := Aside0.mk (Kd.R_below (rl HL633_2) hb)
     replace HL634_1 := Aside0.mk (Kd.R_below (rl HL634_1) hb)
     replace HL634_2 := Aside0.mk (Kd.R_below (rl HL634_2) hb)
     replace HL635_1 := Aside0.mk (Kd.R_below (rl HL635_1) hb)
     replace HL635_2 := Aside0.mk (Kd.R_below (rl HL635_2) hb)
     replace HL636_1 := Aside0.mk (Kd.R_below (rl HL636_1) hb)
     replace HL636_2 := Aside0.mk (Kd.R_below (rl HL636_2) hb)
     replace HL640_1 := Aside0.mk (Kd.R_below (rl HL640_1) hb)
     replace HL640_2 := Aside0.mk (Kd.R_below (rl HL640_2) hb)
     replace HL641_1 := Aside0.mk (Kd.R_below (rl HL641_1) hb)
     replace HL641_2 := Aside0.mk (Kd.R_below (rl HL641_2) hb)
     replace HO639 := Aside0.mk (Kd.V_below (vl HO639) hb)
     have HO644 := Aside0.mk (Kd.V_lower (Kd.V_mono (ok' := fun k_ => some k_ ≠ (.slice Ao35 y625.length co35 : Value).ownBlock ∧ some k_ ≠ (.slice (some ad632) t628.length co37 : Value).ownBlock ∧ k_ ≠ gb622 ∧ k_ ≠ gb623 ∧ k_ ≠ gb624) ho0 (fun k_ hk_ => ⟨(Kd.fresh' (Kd.R_lt (rl HO627)) k_ hk_), (Kd.fresh' (Kd.S_lt (by (with_reducible repeat (first | apply Kd.S_alloc | apply Kd.S_drewN | apply Kd.S_drew)); exact HO631.out)) k_ hk_), (fb BK622 k_ hk_), (fb BK623 k_ hk_), (fb BK624 k_ hk_)⟩)) (below_size bs))
     replace HO627 := Aside0.mk (Kd.R_below (rl HO627) hb)
     replace HO631 := Aside0.mk (Kd.S_below (by (with_reducible repeat (first | apply Kd.S_alloc | apply Kd.S_drewN | apply Kd.S_drew)); exact HO631.out) hb)
     replace BK622 := bb BK622 hb
     replace BK623 := bb BK623 hb
     replace BK624 := bb BK624 hb
     replace HR632_1 := Aside0.mk (Kd.C_below (cl HR632_1.out) hb)
     replace HR632_2 := Aside0.mk (Kd.C_below (cl HR632_2.out) hb)
     replace HR633_1 := Aside0.mk (Kd.C_below (cl HR633_1.out) hb)
     replace HR633_2 := Aside0.mk (Kd.C_below (cl HR633_2.out) hb)
     replace HR634_1 := Aside0.mk (Kd.C_below (cl HR634_1.out) hb)
     replace HR634_2 := Aside0.mk (Kd.C_below (cl HR634_2.out) hb)
     replace HR635_1 := Aside0.mk (Kd.C_below (cl HR635_1.out) hb)
     replace HR635_2 := Aside0.mk (Kd.C_below (cl HR635_2.out) hb)
     replace HR636_1 := Aside0.mk (Kd.C_below (cl HR636_1.out) hb)
     replace HR636_2 := Aside0.mk (Kd.C_below (cl HR636_2.out) hb)
     replace HR640_1 := Aside0.mk (Kd.C_below (cl HR640_1.out) hb)
     replace HR640_2 := Aside0.mk (Kd.C_below (cl HR640_2.out) hb)
     replace HR641_1 := Aside0.mk (Kd.C_below (cl HR641_1.out) hb)
     replace HR641_2 := Aside0.mk (Kd.C_below (cl HR641_2.out) hb)
     replace HB := hs HB hb
     (try clear hb)
     (try clear hb2)
     (try clear hk)
     (try clear hi)
     (try clear ho0)
     obtain ⟨Ao41, co41, eo41⟩ := Kd.V_slice HO644.out
     (first | subst eo41 | (injection eo41 with f1_ f2_ f3_; have f4_ := f1_.symm; have f5_ := f3_.symm; clear f1_ f2_ f3_; subst f4_; subst f5_))
     obtain ⟨Ao42, co42, eo42⟩ := Kd.V_slice HO639.out
     (first | subst eo42 | (injection eo42 with f1_ f2_ f3_; have f4_ := f1_.symm; have f5_ := f3_.symm; clear f1_ f2_ f3_; subst f4_; subst f5_))
     refine hK.out _ _ ⟨HS0_, HS1_, HS2_, HS3_, HS4_, HS5_, HS6_, HS7_, HS8_, HS9_, HS10_, HS11_, HS12_, HS13_, HS14_, HS15_, HS16_, HS17_⟩ (fun hHeld => ?_)
     clear hK K
     refine norm_ (a' := ?_) ?_ ?_
     rotate_left
     ·show Act.put _ (some 51) _ = _
      simp only [Act.put, List.setIfInBounds_toArray, List.set_cons_zero, List.set_cons_succ, i64_w, i32_w]
      rfl
     refine pu (i := 27) (N := some 52) ?_
     refine on (i := 28) (N := some 53) (fun K hK => ?_)
     refine goes_ Try.func83 (by kernel_rfl) rfl #[.agg #[.bool (((rd_T88 t628 0).f0) != ((rd_T88 t628 1).f0)), .slice Ao42 t637.length co42, .slice Ao41 t642.length co41]] (by rfl) rfl rfl ga ?_
     with_reducible refine (ratio_number_lowest.calls k (((rd_T88 t628 0).f0) != ((rd_T88 t628 1).f0)) _ _ t637 _ _ t642 t645 t646 t647 t648 _ ?side1 ?side2 ?side3 ?side4 A24.out).mono ?_
     (case side1 => exact cl ((Kd.V_reads' HO639.out).2.2))
     (case side2 => exact (Kd.V_reads' HO639.out).2.1)
     (case side3 => exact cl ((Kd.V_reads' HO644.out).2.2))
     (case side4 => exact (Kd.V_reads' HO644.out).2.1)
     rintro e w43 ⟨rfl, hb⟩
     have HS0_ := (hb.cell (World.block_lt_of_cell? _ _ (hHeld.1))).trans (hHeld.1)
     have HS1_ := (hb.cell (World.block_lt_of_cell? _ _ (hHeld.2.1))).trans (hHeld.2.1)
     have HS2_ := (hb.cell (World.block_lt_of_cell? _ _ (hHeld.2.2.1))).trans (hHeld.2.2.1)
     have HS3_ := (hb.cell (World.block_lt_of_cell? _ _ (hHeld.2.2.2.1))).trans (hHeld.2.2.2.1)
     have HS4_ := (hb.cell (World.block_lt_of_cell? _ _ (hHeld.2.2.2.2.1))).trans (hHeld.2.2.2.2.1)
     have HS5_ := (hb.cell (World.block_lt_of_cell? _ _ (hHeld.2.2.2.2.2.1))).trans (hHeld.2.2.2.2.2.1)
     have HS6_ := (hb.cell (World.block_lt_of_cell? _ _ (hHeld.2.2.2.2.2.2.1))).trans (hHeld.2.2.2.2.2.2.1)
     have HS7_ := (hb.cell (World.block_lt_of_cell? _ _ (hHeld.2.2.2.2.2.2.2.1))).trans (hHeld.2.2.2.2.2.2.2.1)
     have HS8_ := (hb.cell (World.block_lt_of_cell? _ _ (hHeld.2.2.2.2.2.2.2.2.1))).trans (hHeld.2.2.2.2.2.2.2.2.1)
     have HS9_ := (hb.cell (World.block_lt_of_cell? _ _ (hHeld.2.2.2.2.2.2.2.2.2.1))).trans (hHeld.2.2.2.2.2.2.2.2.2.1)
     have HS10_ := (hb.cell (World.block_lt_of_cell? _ _ (hHeld.2.2.2.2.2.2.2.2.2.2.1))).trans (hHeld.2.2.2.2.2.2.2.2.2.2.1)
     have HS11_ := (hb.cell (World.block_lt_of_cell? _ _ (hHeld.2.2.2.2.2.2.2.2.2.2.2.1))).trans (hHeld.2.2.2.2.2.2.2.2.2.2.2.1)
     have HS12_ := (hb.cell (World.block_lt_of_cell? _ _ (hHeld.2.2.2.2.2.2.2.2.2.2.2.2.1))).trans (hHeld.2.2.2.2.2.2.2.2.2.2.2.2.1)
     have HS13_ := (hb.cell (World.block_lt_of_cell? _ _ (hHeld.2.2.2.2.2.2.2.2.2.2.2.2.2.1))).trans (hHeld.2.2.2.2.2.2.2.2.2.2.2.2.2.1)
     have HS14_ := (hb.cell (World.block_lt_of_cell? _ _ (hHeld.2.2.2.2.2.2.2.2.2.2.2.2.2.2.1))).trans (hHeld.2.2.2.2.2.2.2.2.2.2.2.2.2.2.1)
     have HS15_ := (hb.cell (World.block_lt_of_cell? _ _ (hHeld.2.2.2.2.2.2.2.2.2.2.2.2.2.2.2.1))).trans (hHeld.2.2.2.2.2.2.2.2.2.2.2.2.2.2.2.1)
     have HS16_ := (hb.cell (World.block_lt_of_cell? _ _ (hHeld.2.2.2.2.2.2.2.2.2.2.2.2.2.2.2.2.1))).trans (hHeld.2.2.2.2.2.2.2.2.2.2.2.2.2.2.2.2.1)
     have HS17_ := (hb.cell (World.block_lt_of_cell? _ _ (hHeld.2.2.2.2.2.2.2.2.2.2.2.2.2.2.2.2.2))).trans (hHeld.2.2.2.2.2.2.2.2.2.2.2.2.2.2.2.2.2)
     refine ⟨_, rfl, ?_⟩
     replace HO627 := Aside0.mk (Kd.R_below (rl HO627) hb)
     replace HO631 := Aside0.mk (Kd.S_below (by (with_reducible repeat (first | apply Kd.S_alloc | apply Kd.S_drewN | apply Kd.S_drew)); exact HO631.out) hb)
     replace HL632_1 := Aside0.mk (Kd.R_below (rl HL632_1) hb)
     replace HL632_2 := Aside0.mk (Kd.R_below (rl HL632_2) hb)
     replace HL633_1 := Aside0.mk (Kd.R_below (rl HL633_1) hb)
     replace HL633_2 := Aside0.mk (Kd.R_below (rl HL633_2) hb)
     replace HL634_1 := Aside0.mk (Kd.R_below (rl HL634_1) hb)
     replace HL634_2 := Aside0.mk (Kd.R_below (rl HL634_2) hb)
     replace HL635_1 := Aside0.mk (Kd.R_below (rl HL635_1) hb)
     replace HL635_2 := Aside0.mk (Kd.R_below (rl HL635_2) hb)
     replace HL636_1 := Aside0.mk (Kd.R_below (rl HL636_1) hb)
     replace HL636_2 := Aside0.mk (Kd.R_below (rl HL636_2) hb)
     replace HL640_1 := Aside0.mk (Kd.R_below (rl HL640_1) hb)
     replace HL640_2 := Aside0.mk (Kd.R_below (rl HL640_2) hb)
     replace HL641_1 := Aside0.mk (Kd.R_below (rl HL641_1) hb)
     replace HL641_2 := Aside0.mk (Kd.R_below (rl HL641_2) hb)
     replace HO639 := Aside0.mk (Kd.V_below (vl HO639) hb)
     replace HO644 := Aside0.mk (Kd.V_below (vl HO644) hb)
     replace BK622 := bb BK622 hb
     replace BK623 := bb BK623 hb
     replace BK624 := bb BK624 hb
     replace HR632_1 := Aside0.mk (Kd.C_below (cl HR632_1.out) hb)
     replace HR632_2 := Aside0.mk (Kd.C_below (cl HR632_2.out) hb)
     replace HR633_1 := Aside0.mk (Kd.C_below (cl HR633_1.out) hb)
     replace HR633_2 := Aside0.mk (Kd.C_below (cl HR633_2.out) hb)
     replace HR634_1 := Aside0.mk (Kd.C_below (cl HR634_1.out) hb)
     replace HR634_2 := Aside0.mk (Kd.C_below (cl HR634_2.out) hb)
     replace HR635_1 := Aside0.mk (Kd.C_below (cl HR635_1.out) hb)
     replace HR635_2 := Aside0.mk (Kd.C_below (cl HR635_2.out) hb)
     replace HR636_1 := Aside0.mk (Kd.C_below (cl HR636_1.out) hb)
     replace HR636_2 := Aside0.mk (Kd.C_below (cl HR636_2.out) hb)
     replace HR640_1 := Aside0.mk (Kd.C_below (cl HR640_1.out) hb)
     replace HR640_2 := Aside0.mk (Kd.C_below (cl HR640_2.out) hb)
     replace HR641_1 := Aside0.mk (Kd.C_below (cl HR641_1.out) hb)
     replace HR641_2 := Aside0.mk (Kd.C_below (cl HR641_2.out) hb)
     replace HB := hs HB hb
     (try clear hb)
     (try clear hb2)
     (try clear hk)
     (try clear hi)
     refine hK.out _ _ ⟨HS0_, HS1_, HS2_, HS3_, HS4_, HS5_, HS6_, HS7_, HS8_, HS9_, HS10_, HS11_, HS12_, HS13_, HS14_, HS15_, HS16_, HS17_⟩ (fun hHeld => ?_)
     clear hK K
     refine norm_ (a' := ?_) ?_ ?_
     rotate_left
     ·show Act.put _ (some 53) _ = _
      simp only [Act.put, List.setIfInBounds_toArray, List.set_cons_zero, List.set_cons_succ, i64_w, i32_w]
      rfl
     refine pu (i := 29) (N := some 54) ?_
     refine pu (i := 30) (N := some 55) ?_
     refine on (i := 31) (N := none) (fun K hK => ?_)
     have hs44 : w43.cell? ⟨gb624, 0, none⟩ = some (.bool false) := (blk_cell BK624.out 0).trans rfl
     have hfs44 := blk_frozen BK624.out 0
     have hns44_0 := NB622_624.out
     have hns44_1 := NB623_624.out
     have hms44_0 := NB624_622.out
     have hms44_1 := NB624_623.out
     have hs45 : w43.cell? ⟨gb624, 1, none⟩ = some (.string (⟨#[]⟩ : ByteArray)) := (blk_cell BK624.out 1).trans rfl
     have hfs45 := blk_frozen BK624.out 1
     have hns45_0 := NB622_624.out
     have hns45_1 := NB623_624.out
     have hms45_0 := NB624_622.out
     have hms45_1 := NB624_623.out
     have hs46 : w43.cell? ⟨gb624, 2, none⟩ = some (.string (⟨#[]⟩ : ByteArray)) := (blk_cell BK624.out 2).trans rfl
     have hfs46 := blk_frozen BK624.out 2
     have hns46_0 := NB622_624.out
     have hns46_1 := NB623_624.out
     have hms46_0 := NB624_622.out
     have hms46_1 := NB624_623.out
     refine skip_ (w1 := ?_) (by rfl) rfl ?_ ?_
     rotate_left
     ·go_simp
      rfl
     have F_ := Kd.S_ne HO631.out BK624.out (by decide); refine hK.out _ _ ⟨(cf F_ (cf F_ (cf F_ hHeld.1))), (cf F_ (cf F_ (cf F_ hHeld.2.1))), (cf F_ (cf F_ (cf F_ hHeld.2.2.1))), (cf F_ (cf F_ (cf F_ hHeld.2.2.2.1))), (cf F_ (cf F_ (cf F_ hHeld.2.2.2.2.1))), (cf F_ (cf F_ (cf F_ hHeld.2.2.2.2.2.1))), (cf F_ (cf F_ (cf F_ hHeld.2.2.2.2.2.2.1))), (cf F_ (cf F_ (cf F_ hHeld.2.2.2.2.2.2.2.1))), (cf F_ (cf F_ (cf F_ hHeld.2.2.2.2.2.2.2.2.1))), (cf F_ (cf F_ (cf F_ hHeld.2.2.2.2.2.2.2.2.2.1))), (cf F_ (cf F_ (cf F_ hHeld.2.2.2.2.2.2.2.2.2.2.1))), (cf F_ (cf F_ (cf F_ hHeld.2.2.2.2.2.2.2.2.2.2.2.1))), (cf F_ (cf F_ (cf F_ hHeld.2.2.2.2.2.2.2.2.2.2.2.2.1))), (cf F_ (cf F_ (cf F_ hHeld.2.2.2.2.2.2.2.2.2.2.2.2.2.1))), (cf F_ (cf F_ (cf F_ hHeld.2.2.2.2.2.2.2.2.2.2.2.2.2.2.1))), (cf F_ (cf F_ (cf F_ hHeld.2.2.2.2.2.2.2.2.2.2.2.2.2.2.2.1))), (cf F_ (cf F_ (cf F_ hHeld.2.2.2.2.2.2.2.2.2.2.2.2.2.2.2.2.1))), (cf F_ (cf F_ (cf F_ hHeld.2.2.2.2.2.2.2.2.2.2.2.2.2.2.2.2.2)))⟩ (fun hHeld => ?_)
     clear hK K
     refine pu (i := 32) (N := some 5) ?_
     refine done_ (done_of HT_.out (by kernel_rfl)) ?_
     try go_wp2
     refine bodyPost_ret (results_ct rfl _ _ gb624 35 #[.bool t645, .string t646, .string t647] (0, 0) _ rfl bw Try.underlying35 rfl (by kernel_rfl)) rfl ?_
     exact ⟨er, bs⟩
    ·rw [if_neg c21] at H
     exact absurd H (by simp)
  ·rw [if_neg c5] at H
   exact absurd H (by simp)
 ·replace c4 := Bool.eq_false_iff.mpr c4
  subst c4
  have H1 : (some (false, (⟨#[]⟩ : ByteArray), (⟨#[]⟩ : ByteArray), 1)) = some (r1, r2, r3, r4) := by rw [if_neg (show ¬ (false = true) by decide)] at H; exact H
  clear H
  have H := H1
  clear H1
  simp only [Option.some.injEq, Prod.mk.injEq] at H
  obtain ⟨rfl, rfl, rfl, rfl⟩ := H
  go_enter Try.func29, Try.ntmps29
  go_wp2_with (first | ((with_reducible refine gate_dst (N := 2) rfl ?_); refine be (N := 2) (cs := #[.bool a0_0, .string a0_1, .string a0_2]) (t := 35) ?_; intro gb622 hg w47 hbox hb; have BK622 := Aside0.mk (hbox); have GW622 := gw HB hg; have GE622 := GW622; replace HB := hs HB hb; clear hb hbox hg) | ((with_reducible refine gate_dst (N := 3) rfl ?_); refine be (N := 3) (cs := #[.bool a1_0, .string a1_1, .string a1_2]) (t := 35) ?_; intro gb623 hg w48 hbox hb; have BK623 := Aside0.mk (hbox); have GW623 := gw HB hg; have GE623 := GW623; replace HB := hs HB hb; have NB622_623 := na BK622 hg; have NB623_622 := nz NB622_623; replace BK622 := bb BK622 hb; clear hb hbox hg) | ((with_reducible refine gate_dst (N := 4) rfl ?_); refine be (N := 4) (cs := #[.bool false, .string (⟨#[]⟩ : ByteArray), .string (⟨#[]⟩ : ByteArray)]) (t := 35) ?_; intro gb624 hg w49 hbox hb; have BK624 := Aside0.mk (hbox); have GW624 := gw HB hg; have GE624 := GW624; replace HB := hs HB hb; have NB622_624 := na BK622 hg; have NB624_622 := nz NB622_624; replace BK622 := bb BK622 hb; have NB623_624 := na BK623 hg; have NB624_623 := nz NB623_624; replace BK623 := bb BK623 hb; clear hb hbox hg; have hnb50 := NB622_623.out; have hnc50 := NB623_622.out; have hnb51 := NB622_624.out; have hnc51 := NB624_622.out; obtain ⟨hcz52_0, hcz52_1, hcz52_2, hfz52_0, hfz52_1, hfz52_2⟩ := z3 BK622; have hnb53 := NB623_624.out; have hnc53 := NB624_623.out; obtain ⟨hcz54_0, hcz54_1, hcz54_2, hfz54_0, hfz54_1, hfz54_2⟩ := z3 BK623) | ((with_reducible refine gate_dst (N := 11) rfl ?_); refine Kd.R_lit k35 _ 35 ?hg (N := 11) ?hd (xs := ([(⟨a0_0, a0_1, a0_2⟩ : S35), (⟨a1_0, a1_1, a1_2⟩ : S35)] : List (S35))) (inner := [.bool a0_0, .string a0_1, .string a0_2, .bool a1_0, .string a1_1, .string a1_2]) (ok := fun _ => True) (okp := fun _ => True) ?hr ?hp (fun _ hk => hk) trivial (Below.refl _ _) (Nat.le_refl _) (by simp) ?_; (case hd => rfl); (case hg => rfl); (case hr => first | (go_simp; done) | (go_simp; rfl)); (case hp => exact (Reps.c3 (show Kd.M k35 _ _ _ (⟨a0_0, a0_1, a0_2⟩ : S35) [.bool a0_0, .string a0_1, .string a0_2] from (k35_mkM _ _ _ (⟨a0_0, a0_1, a0_2⟩ : S35) )) (Reps.c3 (show Kd.M k35 _ _ _ (⟨a1_0, a1_1, a1_2⟩ : S35) [.bool a1_0, .string a1_1, .string a1_2] from (k35_mkM _ _ _ (⟨a1_0, a1_1, a1_2⟩ : S35) )) (Reps.none _ _)))); intro v626 w55 ho56 hb hg_ hnew_; clear hg_ hnew_; (first | rw [← Ny625.out] at ho56 | (simp only [Int.reduceToNat] at ho56; rw [← Ny625.out] at ho56)); have HO627 := Aside0.mk (Kd.R_lower (Kd.R_newB (Kd.R_newB (Kd.R_newB ho56 (g := gb622) (o := .cells #[.bool a0_0, .string a0_1, .string a0_2] 35 (0, 0)) bk) (g := gb623) (o := .cells #[.bool a1_0, .string a1_1, .string a1_2] 35 (0, 0)) bk) (g := gb624) (o := .cells #[.bool false, .string (⟨#[]⟩ : ByteArray), .string (⟨#[]⟩ : ByteArray)] 35 (0, 0)) bk) (below_size bs)); replace BK622 := bb BK622 hb; replace BK623 := bb BK623 hb; replace BK624 := bb BK624 hb; replace HB := hs HB hb; clear hb ho56; obtain ⟨Ao57, co57, eo57⟩ := Kd.R_slice HO627.out; subst eo57) | ((with_reducible refine gate_callee (f := 82) rfl ?_); refine goesL_ (some 12) rfl rfl Try.func82 (by kernel_rfl) rfl #[.slice Ao57 y625.length co57] rfl ga ?_; (with_reducible refine (ratio_read.calls k _ _ y625 t628 false _ ?side1 ?side2 A3.out).mono ?_); (case side1 => exact cl ((Kd.R_reads' HO627.out).2.2)); (case side2 => exact (Kd.R_reads' HO627.out).2.1); rintro e w58 ⟨v630, rfl, ho0, hb⟩; refine ⟨_, rfl, ?_⟩; replace HO627 := Aside0.mk (Kd.R_below (rl HO627) hb); have HO631 := Aside0.mk (Kd.S_lower ho0 (below_size bs)); replace BK622 := bb BK622 hb; replace BK623 := bb BK623 hb; replace BK624 := bb BK624 hb; replace HB := hs HB hb; (try clear hb); (try clear ho0); obtain ⟨hcz59_0, hcz59_1, hcz59_2, hfz59_0, hfz59_1, hfz59_2⟩ := z3 BK624))
  refine bodyPost_ret (results_ct rfl _ _ gb624 35 #[.bool false, .string (⟨#[]⟩ : ByteArray), .string (⟨#[]⟩ : ByteArray)] (0, 0) _ rfl bw Try.underlying35 rfl (by kernel_rfl)) rfl ?_
  exact ⟨er, bs⟩
end Go.Proofs.Ytccgfmjcldifcaa.P
