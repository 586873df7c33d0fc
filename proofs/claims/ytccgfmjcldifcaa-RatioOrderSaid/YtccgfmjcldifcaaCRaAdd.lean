/- Walks of Go functions: what they compute; each theorem's conditions stand in it. -/
import Derived.Test.YtccgfmjcldifcaaT
import Derived.Test.YtccgfmjcldifcaaCIsRatio
import Derived.Test.YtccgfmjcldifcaaCLow
import Derived.Test.YtccgfmjcldifcaaCPlus
import Derived.Test.YtccgfmjcldifcaaDA
import Derived.Test.YtccgfmjcldifcaaDE
namespace Go.Proofs.Ytccgfmjcldifcaa.P
open Go.RowKit Go.Proofs.YtccgfmjcldifcaaW.PrintWords Go.Proofs.YtccgfmjcldifcaaW.PrintLast Go.Proofs.YtccgfmjcldifcaaW.PrintMore
attribute [local go_sem] max2_int min2_int max_two min_two max_three min_three max_four min_four
set_option linter.unusedVariables false
set_option linter.unusedSimpArgs false
def ratio_Sub.T5 : Bool × List (List Nat × List Nat) := (true, [([], []), ([0], [0]), ([1], [1]), ([], []), ([3], [3]), ([4], [4]), ([2, 5], [2, 5]), ([6, 6], [6]), ([7], [7]), ([7], [7]), ([8, 7, 0, 1, 2, 3, 4, 5, 6, 7, 8, 9], [8]), ([9, 10, 0, 1, 2, 3, 4, 5, 6, 7, 8, 9, 10], [9])])
def ratio_Sub.B5 : List Nat := [0, 1, 3, 0, 8, 24, 63, 127, 255, 255, 1023, 2047]
theorem ratio_Sub.tab5 : rtab .any (opsOf Try.f43 5) = ratio_Sub.T5 := by kernel_rfl
theorem ratio_Sub.bits5 : waitsOk ratio_Sub.T5.2 ratio_Sub.B5 = true := by kernel_rfl
set_option maxHeartbeats 8000000 in
set_option maxRecDepth 100000 in
theorem ratio_Sub.calls (k : Nat) (a0_0 : Bool) (a0_1 : ByteArray) (a0_2 : ByteArray) (a1_0 : Bool) (a1_1 : ByteArray) (a1_2 : ByteArray) (r1 : Bool) (r2 : ByteArray) (r3 : ByteArray) (r4 : Int) (w : World) (h : ratio_Sub.f k a0_0 a0_1 a0_2 a1_0 a1_1 a1_2 = some (r1, r2, r3, r4)) :
  Calls Try.prog 43 #[.agg #[.bool a0_0, .string a0_1, .string a0_2], .agg #[.bool a1_0, .string a1_1, .string a1_2]] w fun e w' => e = .returned (.tuple #[.agg #[.bool r1, .string r2, .string r3], .int .i64 r4]) ∧ Below w.heap.size w w' := by
 have hu35 := Try.underlying35
 have hu88 := Try.underlying88
 have HB := Aside0.mk (Below.refl w.heap.size w)
 have H : Option.bind (ratio_read.f k (([(⟨a0_0, a0_1, a0_2⟩ : S35), (⟨a1_0, a1_1, a1_2⟩ : S35)] : List (S35)))) _ = _ := h
 clear h
 obtain ⟨y1093, hy1093⟩ : ∃ y_ : List (S35), y_ = (([(⟨a0_0, a0_1, a0_2⟩ : S35), (⟨a1_0, a1_1, a1_2⟩ : S35)] : List (S35))) := ⟨_, rfl⟩
 replace H : ((ratio_read.f k y1093).bind fun bt1096 => (if bt1096.2 = true then (if 1 < (bt1096.1.length : Int) then ((some (bt1096.1.set (1 : Int).toNat (⟨!((rd_T88 bt1096.1 1).f0), (rd_T88 bt1096.1 1).f1, (rd_T88 bt1096.1 1).f2⟩ : S88) : List (S88))).bind fun y1101 => (if 0 < (bt1096.1.length : Int) then ((ratio_plus.f k ((rd_T88 y1101 0).f0) ((rd_T88 y1101 0).f1) ((rd_T88 y1101 0).f2) ((rd_T88 y1101 1).f0) ((rd_T88 y1101 1).f1) ((rd_T88 y1101 1).f2)).bind fun bt1104 => ((ratio_number_lowest.f k bt1104.1 bt1104.2.1 bt1104.2.2).bind fun bt1111 => (some (bt1111.1, bt1111.2.1, bt1111.2.2.1, bt1111.2.2.2)))) else (none))) else (none)) else (some (false, (⟨#[]⟩ : ByteArray), (⟨#[]⟩ : ByteArray), 1)))) = some (r1, r2, r3, r4) := by first | (rw [hy1093]; with_reducible exact H) | (have H2_ := (Option.bind_some _ _).symm.trans H; rw [hy1093]; with_reducible exact H2_) | (have H2_ := (Option.bind_some _ _).symm.trans H; with_reducible exact H2_) | with_reducible exact H | (rw [hy1093]; exact H) | exact H
 have Ny1093 := Aside0.mk hy1093
 clear hy1093
 replace H := Option.bind_eq_some_iff.mp H
 obtain ⟨⟨t1096, t1097⟩, A30, H⟩ := H
 replace H : (if t1097 = true then _ else _) = _ := H
 have A3 := Aside0.mk A30
 clear A30
 by_cases c4 : t1097 = true
 ·subst c4
  have H1 : (if 1 < (t1096.length : Int) then _ else _) = _ := (if_pos rfl).symm.trans H
  clear H
  have H := H1
  clear H1
  by_cases c5 : 1 < (t1096.length : Int)
  ·rw [if_pos c5] at H
   have c5b0 : decide (1 < (t1096.length : Int)) = true := decide_eq_true c5
   have c5b1 : decide (1 < t1096.length) = true := decide_eq_true (by omega)
   clear c5
   obtain ⟨y1101, hy1101⟩ : ∃ y_ : List (S88), y_ = (t1096.set (1 : Int).toNat (⟨!((rd_T88 t1096 1).f0), (rd_T88 t1096 1).f1, (rd_T88 t1096 1).f2⟩ : S88)) := ⟨_, rfl⟩
   replace H : (if 0 < (t1096.length : Int) then ((ratio_plus.f k ((rd_T88 y1101 0).f0) ((rd_T88 y1101 0).f1) ((rd_T88 y1101 0).f2) ((rd_T88 y1101 1).f0) ((rd_T88 y1101 1).f1) ((rd_T88 y1101 1).f2)).bind fun bt1104 => ((ratio_number_lowest.f k bt1104.1 bt1104.2.1 bt1104.2.2).bind fun bt1111 => (some (bt1111.1, bt1111.2.1, bt1111.2.2.1, bt1111.2.2.2)))) else (none)) = some (r1, r2, r3, r4) := by first | (rw [hy1101]; with_reducible exact H) | (have H2_ := (Option.bind_some _ _).symm.trans H; rw [hy1101]; with_reducible exact H2_) | (have H2_ := (Option.bind_some _ _).symm.trans H; with_reducible exact H2_) | with_reducible exact H | (rw [hy1101]; exact H) | exact H
   have Ny1101 := Aside0.mk hy1101
   clear hy1101
   by_cases c7 : 0 < (t1096.length : Int)
   ·rw [if_pos c7] at H
    have c7b0 : decide (0 < (t1096.length : Int)) = true := decide_eq_true c7
    have c7b1 : decide (0 < t1096.length) = true := decide_eq_true (by omega)
    clear c7
    replace H := Option.bind_eq_some_iff.mp H
    obtain ⟨⟨t1104, t1105, t1108⟩, A80, H⟩ := H
    replace H : Option.bind (ratio_number_lowest.f k t1104 t1105 t1108) _ = _ := H
    have A8 := Aside0.mk A80
    clear A80
    replace H := Option.bind_eq_some_iff.mp H
    obtain ⟨⟨t1111, t1112, t1113, t1114⟩, A90, H⟩ := H
    replace H : (some (t1111, t1112, t1113, t1114)) = some (r1, r2, r3, r4) := H
    have A9 := Aside0.mk A90
    clear A90
    simp only [Option.some.injEq, Prod.mk.injEq] at H
    obtain ⟨rfl, rfl, rfl, rfl⟩ := H
    go_enter Try.func43, Try.ntmps43
    try go_wp2_with (first | ((with_reducible refine gate_dst (N := 2) rfl ?_); refine be (N := 2) (cs := #[.bool a0_0, .string a0_1, .string a0_2]) (t := 35) ?_; intro gb1090 hg w10 hbox hb; have BK1090 := Aside0.mk (hbox); have GW1090 := gw HB hg; have GE1090 := GW1090; replace HB := hs HB hb; clear hb hbox hg) | ((with_reducible refine gate_dst (N := 3) rfl ?_); refine be (N := 3) (cs := #[.bool a1_0, .string a1_1, .string a1_2]) (t := 35) ?_; intro gb1091 hg w11 hbox hb; have BK1091 := Aside0.mk (hbox); have GW1091 := gw HB hg; have GE1091 := GW1091; replace HB := hs HB hb; have NB1090_1091 := na BK1090 hg; have NB1091_1090 := nz NB1090_1091; replace BK1090 := bb BK1090 hb; clear hb hbox hg) | ((with_reducible refine gate_dst (N := 4) rfl ?_); refine be (N := 4) (cs := #[.bool false, .string (⟨#[]⟩ : ByteArray), .string (⟨#[]⟩ : ByteArray)]) (t := 35) ?_; intro gb1092 hg w12 hbox hb; have BK1092 := Aside0.mk (hbox); have GW1092 := gw HB hg; have GE1092 := GW1092; replace HB := hs HB hb; have NB1090_1092 := na BK1090 hg; have NB1092_1090 := nz NB1090_1092; replace BK1090 := bb BK1090 hb; have NB1091_1092 := na BK1091 hg; have NB1092_1091 := nz NB1091_1092; replace BK1091 := bb BK1091 hb; clear hb hbox hg; have hnb13 := NB1090_1091.out; have hnc13 := NB1091_1090.out; have hnb14 := NB1090_1092.out; have hnc14 := NB1092_1090.out; obtain ⟨hcz15_0, hcz15_1, hcz15_2, hfz15_0, hfz15_1, hfz15_2⟩ := z3 BK1090; have hnb16 := NB1091_1092.out; have hnc16 := NB1092_1091.out; obtain ⟨hcz17_0, hcz17_1, hcz17_2, hfz17_0, hfz17_1, hfz17_2⟩ := z3 BK1091) | ((with_reducible refine gate_dst (N := 11) rfl ?_); refine Kd.R_lit k35 _ 35 ?hg (N := 11) ?hd (xs := ([(⟨a0_0, a0_1, a0_2⟩ : S35), (⟨a1_0, a1_1, a1_2⟩ : S35)] : List (S35))) (inner := [.bool a0_0, .string a0_1, .string a0_2, .bool a1_0, .string a1_1, .string a1_2]) (ok := fun _ => True) (okp := fun _ => True) ?hr ?hp (fun _ hk => hk) trivial (Below.refl _ _) (Nat.le_refl _) (by simp) ?_; (case hd => rfl); (case hg => rfl); (case hr => first | (go_simp; done) | (go_simp; rfl)); (case hp => exact (Reps.c3 (show Kd.M k35 _ _ _ (⟨a0_0, a0_1, a0_2⟩ : S35) [.bool a0_0, .string a0_1, .string a0_2] from (k35_mkM _ _ _ (⟨a0_0, a0_1, a0_2⟩ : S35) )) (Reps.c3 (show Kd.M k35 _ _ _ (⟨a1_0, a1_1, a1_2⟩ : S35) [.bool a1_0, .string a1_1, .string a1_2] from (k35_mkM _ _ _ (⟨a1_0, a1_1, a1_2⟩ : S35) )) (Reps.none _ _)))); intro v1094 w18 ho19 hb hg_ hnew_; clear hg_ hnew_; (first | rw [← Ny1093.out] at ho19 | (simp only [Int.reduceToNat] at ho19; rw [← Ny1093.out] at ho19)); have HO1095 := Aside0.mk (Kd.R_lower (Kd.R_newB (Kd.R_newB (Kd.R_newB ho19 (g := gb1090) (o := .cells #[.bool a0_0, .string a0_1, .string a0_2] 35 (0, 0)) bk) (g := gb1091) (o := .cells #[.bool a1_0, .string a1_1, .string a1_2] 35 (0, 0)) bk) (g := gb1092) (o := .cells #[.bool false, .string (⟨#[]⟩ : ByteArray), .string (⟨#[]⟩ : ByteArray)] 35 (0, 0)) bk) (below_size bs)); replace BK1090 := bb BK1090 hb; replace BK1091 := bb BK1091 hb; replace BK1092 := bb BK1092 hb; replace HB := hs HB hb; clear hb ho19; obtain ⟨Ao20, co20, eo20⟩ := Kd.R_slice HO1095.out; subst eo20) | ((with_reducible refine gate_callee (f := 82) rfl ?_); refine goesL_ (some 12) rfl rfl Try.func82 (by kernel_rfl) rfl #[.slice Ao20 y1093.length co20] rfl ga ?_; (with_reducible refine (ratio_read.calls k _ _ y1093 t1096 true _ ?side1 ?side2 A3.out).mono ?_); (case side1 => exact cl ((Kd.R_reads' HO1095.out).2.2)); (case side2 => exact (Kd.R_reads' HO1095.out).2.1); rintro e w21 ⟨v1098, rfl, ho0, hb⟩; refine ⟨_, rfl, ?_⟩; replace HO1095 := Aside0.mk (Kd.R_below (rl HO1095) hb); have HO1099 := Aside0.mk (Kd.S_lower ho0 (below_size bs)); replace BK1090 := bb BK1090 hb; replace BK1091 := bb BK1091 hb; replace BK1092 := bb BK1092 hb; replace HB := hs HB hb; (try clear hb); (try clear ho0); obtain ⟨Ao22, co22, eo22⟩ := Kd.S_slice HO1099.out; subst eo22; have p1100 : 0 ≤ (1 : Int) := (by omega); have q1100 : 1 < (t1096.length : Int) := dt; obtain ⟨ad1100, A1100_1, c1100_1, A1100_2, c1100_2, e1100, hx1100_0, hx1100_1, hx1100_2, hl1100_1, hi1100_1, hl1100_2, hi1100_2⟩ := at_T88 (Kd.S_reads' HO1099.out).2.2 1 p1100 q1100; cases e1100; obtain ⟨ce1100, hce1100, hMe1100, hcc1100⟩ := Kd.S_get HO1099.out z88 1 p1100 (by first | exact q1100 | exact dt | (have e_ := (Kd.S_reads' HO1099.out).1; omega)); obtain ⟨ve1100_1, ve1100_2, rfl, ge1100_1, ge1100_2⟩ := k88_openM hMe1100; have hv1100_1 := hcc1100 1 _ rfl; rw [add_field _ _ 1 (by omega)] at hv1100_1; replace hv1100_1 := Option.some.inj (hv1100_1.symm.trans hx1100_1); rw [hv1100_1] at ge1100_1; have HL1100_1 := Aside0.mk (show Kd.R (Kd.int .u32) 117 _ _ _ _ ((rd_T88 t1096 1).f1) from ge1100_1); clear hv1100_1 ge1100_1; have hv1100_2 := hcc1100 2 _ rfl; rw [add_field _ _ 2 (by omega)] at hv1100_2; replace hv1100_2 := Option.some.inj (hv1100_2.symm.trans hx1100_2); rw [hv1100_2] at ge1100_2; have HL1100_2 := Aside0.mk (show Kd.R (Kd.int .u32) 117 _ _ _ _ ((rd_T88 t1096 1).f2) from ge1100_2); clear hv1100_2 ge1100_2; clear hcc1100 hce1100; (try simp only [show (1 : Int).toNat = 1 from rfl, Nat.reduceMul, Nat.reduceEqDiff, Go.Addr.add, ↓reduceIte] at hx1100_0); (try simp only [show (1 : Int).toNat = 1 from rfl, Nat.reduceMul, Nat.reduceEqDiff, Go.Addr.add, ↓reduceIte] at hx1100_1); (try simp only [show (1 : Int).toNat = 1 from rfl, Nat.reduceMul, Nat.reduceEqDiff, Go.Addr.add, ↓reduceIte] at hx1100_2); have qi1100 : (1 < t1096.length) = True := eq_true (by omega); (try rw [show ((1 : Int)).toNat = 1 from rfl] at hx1100_0); (try rw [show 1 * 3 = 3 from rfl] at hx1100_0); (try rw [show ((1 : Int)).toNat = 1 from rfl] at hx1100_1); (try rw [show 1 * 3 = 3 from rfl] at hx1100_1); (try rw [show ((1 : Int)).toNat = 1 from rfl] at hx1100_2); (try rw [show 1 * 3 = 3 from rfl] at hx1100_2); have HR1100_1 := Aside0.mk hi1100_1; have HC1100_1 := Aside0.mk hl1100_1; clear hi1100_1 hl1100_1; have HR1100_2 := Aside0.mk hi1100_2; have HC1100_2 := Aside0.mk hl1100_2; clear hi1100_2 hl1100_2; replace p1100 := eq_true p1100; replace q1100 := eq_true q1100; have p6 : 0 ≤ (1 : Int) := (by omega); have q6 : (1 : Int) < ((t1096.length : Int) : Int) := dt; have qi6 : (1 < t1096.length) = True := eq_true (by omega); obtain ⟨go6, co6, eo6, gb6, gl6, cl6, HG6⟩ := Kd.S_form HO1099.out (by omega); (first | cases eo6 | (injection eo6 with ea_ en_ ec_; (first | subst ea_ | (injection ea_ with ea_; subst ea_)); subst ec_; clear en_)); have GB6 := Aside0.mk gb6; have GG6 := Aside0.mk HG6; clear gb6 gl6 HG6; (first | simp only [add_plain] at hx1100_0 | skip); (first | simp only [add_plain] at hx1100_1 | skip); (first | simp only [add_plain] at hx1100_2 | skip); obtain ⟨_, ce6, hcl6, hM6, hcc6, hfr6, _, _⟩ := Kd.S_elem HO1099.out z88 (1 : Int) p6 q6; obtain ⟨ve6_1, ve6_2, rfl, ge6_1, ge6_2⟩ := k88_openM hM6; have hx6_0 : w21.cell? ⟨go6, (1 : Int).toNat * 3, none⟩ = some (.bool ((rd_T88 t1096 1).f0)) := hcc6 0 _ rfl; have hx6_1 : w21.cell? ⟨go6, (1 : Int).toNat * 3 + 1, none⟩ = some (ve6_1) := hcc6 1 _ rfl; have hx6_2 : w21.cell? ⟨go6, (1 : Int).toNat * 3 + 2, none⟩ = some (ve6_2) := hcc6 2 _ rfl; have hf6_0 : w21.frozen? ⟨go6, (1 : Int).toNat * 3, none⟩ = false := hfr6 0; have hf6_1 : w21.frozen? ⟨go6, (1 : Int).toNat * 3 + 1, none⟩ = false := hfr6 1; have hf6_2 : w21.frozen? ⟨go6, (1 : Int).toNat * 3 + 2, none⟩ = false := hfr6 2; clear hcl6 hcc6 hfr6 hM6; (try rw [show ((1 : Int)).toNat = 1 from rfl] at hx6_0); (try simp only [Nat.reduceMul, Nat.zero_mul, Nat.zero_add, Nat.reduceAdd] at hx6_0); (try rw [show ((1 : Int)).toNat = 1 from rfl] at hf6_0); (try simp only [Nat.reduceMul, Nat.zero_mul, Nat.zero_add, Nat.reduceAdd] at hf6_0); (try rw [show ((1 : Int)).toNat = 1 from rfl] at hx6_1); (try simp only [Nat.reduceMul, Nat.zero_mul, Nat.zero_add, Nat.reduceAdd] at hx6_1); (try rw [show ((1 : Int)).toNat = 1 from rfl] at hf6_1); (try simp only [Nat.reduceMul, Nat.zero_mul, Nat.zero_add, Nat.reduceAdd] at hf6_1); (try rw [show ((1 : Int)).toNat = 1 from rfl] at hx6_2); (try simp only [Nat.reduceMul, Nat.zero_mul, Nat.zero_add, Nat.reduceAdd] at hx6_2); (try rw [show ((1 : Int)).toNat = 1 from rfl] at hf6_2); (try simp only [Nat.reduceMul, Nat.zero_mul, Nat.zero_add, Nat.reduceAdd] at hf6_2); replace p6 := eq_true p6; replace q6 := eq_true q6; have HX23 := Aside0.mk (show Kd.S k88 88 w21 w.heap.size (fun k_ => ((fun _ => True)) k_ ∧ ¬ ((fun _ => False)) k_) (.slice (some ⟨go6, 0, none⟩) t1096.length co22) t1096 from (by (with_reducible repeat (first | apply Kd.S_alloc | apply Kd.S_drewN | apply Kd.S_drew)); exact Kd.S_mono HO1099.out (fun k_ hk => ⟨trivial, fun e_ => e_⟩))); obtain ⟨oki23, ce23, hcl23, hM23, hcc23, hfr23, hoki23, hH23⟩ := Kd.S_elem HX23.out z88 (1 : Int) (by omega) (by have h_ : (1 : Int) < ((t1096.length : Int) : Int) := dt; first | exact h_ | (have e_ := (Kd.S_reads' HO1099.out).1; omega) | simpa using h_); obtain ⟨ve23_1, ve23_2, rfl, ge23_1, ge23_2⟩ := k88_openM hM23; have HP23 := Kd.S_seg hH23 (by omega) (by have h_ : (1 : Int) < ((t1096.length : Int) : Int) := dt; first | exact h_ | (have e_ := (Kd.S_reads' HO1099.out).1; omega) | simpa using h_) (seg := [.bool (!((rd_T88 t1096 1).f0))]) (j := 0) (show 1 ≤ 3 from by decide) (x' := (⟨!((rd_T88 t1096 1).f0), (rd_T88 t1096 1).f1, (rd_T88 t1096 1).f2⟩ : S88)) (k88_mkM _ _ _ (⟨!((rd_T88 t1096 1).f0), (rd_T88 t1096 1).f1, (rd_T88 t1096 1).f2⟩ : S88) (Kd.R_mono ge23_1 (fun _ h_ => Or.inl h_)) (Kd.R_mono ge23_2 (fun _ h_ => Or.inl h_))) (fun _ hk => hk) (fun k_ hk_ => hk_.elim); have hx23_0 := hcc23 0 _ rfl; (try simp only [show (k88).sz = 3 from rfl, Nat.mul_one, Nat.add_zero] at hx23_0); (try rw [show ((1 : Int)).toNat = 1 from rfl] at hx23_0); (try simp only [Nat.reduceMul, Nat.zero_mul, Nat.zero_add, Nat.reduceAdd] at hx23_0); have hf23_0 := hfr23 0; (try simp only [show (k88).sz = 3 from rfl, Nat.mul_one, Nat.add_zero] at hf23_0); (try rw [show ((1 : Int)).toNat = 1 from rfl] at hf23_0); (try simp only [Nat.reduceMul, Nat.zero_mul, Nat.zero_add, Nat.reduceAdd] at hf23_0); clear hcl23 hcc23 hfr23 hM23 hoki23 hH23) | ((with_reducible refine gate_store (t := 4) (p := 25) rfl ?_); refine store_event (t := 4) (p := 25) (v := ?vo_w24) (w1 := (w21.setCell ⟨go6, 3, none⟩ (.bool (!((rd_T88 t1096 1).f0))))) ?hg ?ho ?hn ?hr ?_; (case ho => rfl); (case hg => rfl); (case hn => rfl); (case hr => first | (go_simp; done) | (go_simp; rfl)); intro w24 hw; have hg : w21.grownBy w24 (some go6) := (by rw [hw]; exact HP23.2); have hp_ : Kd.S k88 88 w24 w.heap.size (fun _ => True) (.slice (some ⟨go6, 0, none⟩) t1096.length co22) y1101 := (by rw [hw, Ny1101.out]; exact HP23.1); clear HP23; replace BK1090 := Aside0.mk (blk_grown (g := gb1090) (o := .cells #[.bool a0_0, .string a0_1, .string a0_2] 35 (0, 0)) bk hg (Kd.S_ne HO1099.out BK1090.out (by decide))); replace BK1091 := Aside0.mk (blk_grown (g := gb1091) (o := .cells #[.bool a1_0, .string a1_1, .string a1_2] 35 (0, 0)) bk hg (Kd.S_ne HO1099.out BK1091.out (by decide))); replace BK1092 := Aside0.mk (blk_grown (g := gb1092) (o := .cells #[.bool false, .string (⟨#[]⟩ : ByteArray), .string (⟨#[]⟩ : ByteArray)] 35 (0, 0)) bk hg (Kd.S_ne HO1099.out BK1092.out (by decide))); replace HO1095 := Aside0.mk (Kd.R_over' (v := (.slice (some ⟨go6, 0, none⟩) t1096.length co22)) (rl HO1095) (Kd.S_typed HO1099.out) (by decide) hg); replace HO1099 := Aside0.mk (hp_); replace HL1100_1 := Aside0.mk (Kd.R_after (v := (.slice (some ⟨go6, 0, none⟩) t1096.length co22)) (v1 := (.slice (some ⟨go6, 0, none⟩) t1096.length co22)) (ok := (fun _ => True)) (rl HL1100_1) hg (.inl rfl)); replace HL1100_2 := Aside0.mk (Kd.R_after (v := (.slice (some ⟨go6, 0, none⟩) t1096.length co22)) (v1 := (.slice (some ⟨go6, 0, none⟩) t1096.length co22)) (ok := (fun _ => True)) (rl HL1100_2) hg (.inl rfl)); replace HB := Aside0.mk ((by rw [hw]; exact below_set (HB.out) GB6.out : Below w.heap.size w w24)); clear hg hw hp_))
    replace HO1095 := Aside0.mk (Kd.R_drew HO1095.out)
    replace HO1099 := Aside0.mk (Kd.S_drew HO1099.out)
    replace HL1100_1 := Aside0.mk (Kd.R_drew HL1100_1.out)
    replace HL1100_2 := Aside0.mk (Kd.R_drew HL1100_2.out)
    replace BK1090 := Aside0.mk (blk_drew BK1090.out)
    replace BK1091 := Aside0.mk (blk_drew BK1091.out)
    replace BK1092 := Aside0.mk (blk_drew BK1092.out)
    replace HB := Aside0.mk (below_drew1 HB.out)
    have p1102 : 0 ≤ (0 : Int) := (by omega)
    have q1102 : 0 < (y1101.length : Int) := (by have h_ : (0 : Int) < ((t1096.length : Int) : Int) := dt; first | (have e_ := (Kd.S_reads' HO1099.out).1; omega) | simpa only [Ny1101.out, List.length_set] using h_)
    have ql1102 : ((0 : Int) < ((t1096.length : Int) : Int)) = True := eq_true (dt)
    (try have qn1102 : (0 < t1096.length) = True := eq_true (by have h_ : (0 : Int) < ((t1096.length : Int) : Int) := dt; omega))
    obtain ⟨ad1102, A1102_1, c1102_1, A1102_2, c1102_2, e1102, hx1102_0, hx1102_1, hx1102_2, hl1102_1, hi1102_1, hl1102_2, hi1102_2⟩ := at_T88 (Kd.S_reads' HO1099.out).2.2 0 p1102 q1102
    obtain rfl : (⟨go6, 0, none⟩ : Addr) = ad1102 := (by injection e1102)
    obtain ⟨ce1102, hce1102, hMe1102, hcc1102⟩ := Kd.S_get HO1099.out z88 0 p1102 (by first | exact q1102 | exact dt | (have e_ := (Kd.S_reads' HO1099.out).1; omega))
    obtain ⟨ve1102_1, ve1102_2, rfl, ge1102_1, ge1102_2⟩ := k88_openM hMe1102
    have hv1102_1 := hcc1102 1 _ rfl
    rw [add_field _ _ 1 (by omega)] at hv1102_1
    replace hv1102_1 := Option.some.inj (hv1102_1.symm.trans hx1102_1)
    rw [hv1102_1] at ge1102_1
    have HL1102_1 := Aside0.mk (show Kd.R (Kd.int .u32) 117 _ _ _ _ ((rd_T88 y1101 0).f1) from ge1102_1)
    clear hv1102_1 ge1102_1
    have hv1102_2 := hcc1102 2 _ rfl
    rw [add_field _ _ 2 (by omega)] at hv1102_2
    replace hv1102_2 := Option.some.inj (hv1102_2.symm.trans hx1102_2)
    rw [hv1102_2] at ge1102_2
    have HL1102_2 := Aside0.mk (show Kd.R (Kd.int .u32) 117 _ _ _ _ ((rd_T88 y1101 0).f2) from ge1102_2)
    clear hv1102_2 ge1102_2 hcc1102 hce1102
    (first | simp only [add_plain] at hx1102_0 | simp only [add_at] at hx1102_0 | simp only [Addr.add, Nat.zero_add] at hx1102_0 | skip)
    (first | simp only [add_plain] at hx1102_1 | simp only [add_at] at hx1102_1 | simp only [Addr.add, Nat.zero_add] at hx1102_1 | skip)
    (first | simp only [add_plain] at hx1102_2 | simp only [add_at] at hx1102_2 | simp only [Addr.add, Nat.zero_add] at hx1102_2 | skip)
    have qi1102 : (0 < y1101.length) = True := eq_true (by omega)
    (try rw [show ((0 : Int)).toNat = 0 from rfl] at hx1102_0)
    (try rw [show 0 * 3 = 0 from rfl] at hx1102_0)
    (try rw [Addr.add_zero'] at hx1102_0)
    (try rw [show ((0 : Int)).toNat = 0 from rfl] at hx1102_1)
    (try rw [show 0 * 3 = 0 from rfl] at hx1102_1)
    (try rw [Addr.add_zero'] at hx1102_1)
    (try rw [show ((0 : Int)).toNat = 0 from rfl] at hx1102_2)
    (try rw [show 0 * 3 = 0 from rfl] at hx1102_2)
    (try rw [Addr.add_zero'] at hx1102_2)
    have HR1102_1 := Aside0.mk hi1102_1
    have HC1102_1 := Aside0.mk hl1102_1
    clear hi1102_1 hl1102_1
    have HR1102_2 := Aside0.mk hi1102_2
    have HC1102_2 := Aside0.mk hl1102_2
    clear hi1102_2 hl1102_2
    replace p1102 := eq_true p1102
    replace q1102 := eq_true q1102
    have p1103 : 0 ≤ (1 : Int) := (by omega)
    have q1103 : 1 < (y1101.length : Int) := (by have h_ : (1 : Int) < ((t1096.length : Int) : Int) := dt; first | (have e_ := (Kd.S_reads' HO1099.out).1; omega) | simpa only [Ny1101.out, List.length_set] using h_)
    have ql1103 : ((1 : Int) < ((t1096.length : Int) : Int)) = True := eq_true (dt)
    (try have qn1103 : (1 < t1096.length) = True := eq_true (by have h_ : (1 : Int) < ((t1096.length : Int) : Int) := dt; omega))
    obtain ⟨ad1103, A1103_1, c1103_1, A1103_2, c1103_2, e1103, hx1103_0, hx1103_1, hx1103_2, hl1103_1, hi1103_1, hl1103_2, hi1103_2⟩ := at_T88 (Kd.S_reads' HO1099.out).2.2 1 p1103 q1103
    obtain rfl : (⟨go6, 0, none⟩ : Addr) = ad1103 := (by injection e1103)
    obtain ⟨ce1103, hce1103, hMe1103, hcc1103⟩ := Kd.S_get HO1099.out z88 1 p1103 (by first | exact q1103 | exact dt | (have e_ := (Kd.S_reads' HO1099.out).1; omega))
    obtain ⟨ve1103_1, ve1103_2, rfl, ge1103_1, ge1103_2⟩ := k88_openM hMe1103
    have hv1103_1 := hcc1103 1 _ rfl
    rw [add_field _ _ 1 (by omega)] at hv1103_1
    replace hv1103_1 := Option.some.inj (hv1103_1.symm.trans hx1103_1)
    rw [hv1103_1] at ge1103_1
    have HL1103_1 := Aside0.mk (show Kd.R (Kd.int .u32) 117 _ _ _ _ ((rd_T88 y1101 1).f1) from ge1103_1)
    clear hv1103_1 ge1103_1
    have hv1103_2 := hcc1103 2 _ rfl
    rw [add_field _ _ 2 (by omega)] at hv1103_2
    replace hv1103_2 := Option.some.inj (hv1103_2.symm.trans hx1103_2)
    rw [hv1103_2] at ge1103_2
    have HL1103_2 := Aside0.mk (show Kd.R (Kd.int .u32) 117 _ _ _ _ ((rd_T88 y1101 1).f2) from ge1103_2)
    clear hv1103_2 ge1103_2 hcc1103 hce1103
    (first | simp only [add_plain] at hx1103_0 | simp only [add_at] at hx1103_0 | simp only [Addr.add, Nat.zero_add] at hx1103_0 | skip)
    (first | simp only [add_plain] at hx1103_1 | simp only [add_at] at hx1103_1 | simp only [Addr.add, Nat.zero_add] at hx1103_1 | skip)
    (first | simp only [add_plain] at hx1103_2 | simp only [add_at] at hx1103_2 | simp only [Addr.add, Nat.zero_add] at hx1103_2 | skip)
    have qi1103 : (1 < y1101.length) = True := eq_true (by omega)
    (try rw [show ((1 : Int)).toNat = 1 from rfl] at hx1103_0)
    (try rw [show 1 * 3 = 3 from rfl] at hx1103_0)
    (try rw [show ((1 : Int)).toNat = 1 from rfl] at hx1103_1)
    (try rw [show 1 * 3 = 3 from rfl] at hx1103_1)
    (try rw [show ((1 : Int)).toNat = 1 from rfl] at hx1103_2)
    (try rw [show 1 * 3 = 3 from rfl] at hx1103_2)
    have HR1103_1 := Aside0.mk hi1103_1
    have HC1103_1 := Aside0.mk hl1103_1
    clear hi1103_1 hl1103_1
    have HR1103_2 := Aside0.mk hi1103_2
    have HC1103_2 := Aside0.mk hl1103_2
    clear hi1103_2 hl1103_2
    replace p1103 := eq_true p1103
    replace q1103 := eq_true q1103
    refine start_ (n := 12) (S := fun w' => w'.cell? ⟨go6, 0, none⟩ = some (.bool ((rd_T88 y1101 0).f0)) ∧ w'.cell? ⟨go6, 1, none⟩ = some (.slice A1102_1 ((rd_T88 y1101 0).f1).length c1102_1) ∧ w'.cell? ⟨go6, 2, none⟩ = some (.slice A1102_2 ((rd_T88 y1101 0).f2).length c1102_2) ∧ w'.cell? ⟨go6, 3, none⟩ = some (.bool ((rd_T88 y1101 1).f0)) ∧ w'.cell? ⟨go6, 4, none⟩ = some (.slice A1103_1 ((rd_T88 y1101 1).f1).length c1103_1) ∧ w'.cell? ⟨go6, 5, none⟩ = some (.slice A1103_2 ((rd_T88 y1101 1).f2).length c1103_2)) (ds := []) #[false, false, false, false, false, false, false, false, false, false, false, false] (by kernel_rfl) rfl rfl ⟨hx1102_0, hx1102_1, hx1102_2, hx1103_0, hx1103_1, hx1103_2⟩ (fun hHeld => ?_); refine with_tabW ratio_Sub.tab5 ratio_Sub.bits5 (fun HT_ HW_ => ?_)
    generalize w24.drew = w25 at HO1095 HO1099 HL1100_1 HL1100_2 BK1090 BK1091 BK1092 HB HL1102_1 HL1102_2 HL1103_1 HL1103_2 HR1102_1 HR1102_2 HR1103_1 HR1103_2 hx1102_0 hx1102_1 hx1102_2 hx1103_0 hx1103_1 hx1103_2 hHeld ⊢
    refine pu (i := 0) (N := some 26) ?_
    refine pu (i := 1) (N := some 27) ?_
    refine pu (i := 3) (N := some 29) ?_
    refine pu (i := 4) (N := some 30) ?_
    refine ta (i := 2) (N := some 28) hHeld ?_
    refine ta (i := 5) (N := some 31) hHeld ?_
    refine on (i := 6) (N := some 32) (fun K hK => ?_)
    refine goes_ Try.func105 (by kernel_rfl) rfl #[.agg #[.bool ((rd_T88 y1101 0).f0), .slice A1102_1 ((rd_T88 y1101 0).f1).length c1102_1, .slice A1102_2 ((rd_T88 y1101 0).f2).length c1102_2], .agg #[.bool ((rd_T88 y1101 1).f0), .slice A1103_1 ((rd_T88 y1101 1).f1).length c1103_1, .slice A1103_2 ((rd_T88 y1101 1).f2).length c1103_2]] (by rfl) rfl rfl ga ?_
    with_reducible refine (ratio_plus.calls k ((rd_T88 y1101 0).f0) _ _ ((rd_T88 y1101 0).f1) _ _ ((rd_T88 y1101 0).f2) ((rd_T88 y1101 1).f0) _ _ ((rd_T88 y1101 1).f1) _ _ ((rd_T88 y1101 1).f2) t1104 t1105 t1108 _ ?side1 ?side2 ?side3 ?side4 ?side5 ?side6 ?side7 ?side8 A8.out).mono ?_
    (case side1 => repeat (first | exact (cl HR1102_1.out) | (with_reducible refine Kd.C_alloc ?_ _) | (with_reducible refine Kd.C_drewN ?_ _) | (with_reducible refine Kd.C_drew ?_)))
    (case side2 => exact HC1102_1.out)
    (case side3 => repeat (first | exact (cl HR1102_2.out) | (with_reducible refine Kd.C_alloc ?_ _) | (with_reducible refine Kd.C_drewN ?_ _) | (with_reducible refine Kd.C_drew ?_)))
    (case side4 => exact HC1102_2.out)
    (case side5 => repeat (first | exact (cl HR1103_1.out) | (with_reducible refine Kd.C_alloc ?_ _) | (with_reducible refine Kd.C_drewN ?_ _) | (with_reducible refine Kd.C_drew ?_)))
    (case side6 => exact HC1103_1.out)
    (case side7 => repeat (first | exact (cl HR1103_2.out) | (with_reducible refine Kd.C_alloc ?_ _) | (with_reducible refine Kd.C_drewN ?_ _) | (with_reducible refine Kd.C_drew ?_)))
    (case side8 => exact HC1103_2.out)
    rintro e w26 ⟨v1106, v1109, rfl, ho0, ho1, hb⟩
    have HS0_ := (hb.cell (World.block_lt_of_cell? _ _ (hHeld.1))).trans (hHeld.1)
    have HS1_ := (hb.cell (World.block_lt_of_cell? _ _ (hHeld.2.1))).trans (hHeld.2.1)
    have HS2_ := (hb.cell (World.block_lt_of_cell? _ _ (hHeld.2.2.1))).trans (hHeld.2.2.1)
    have HS3_ := (hb.cell (World.block_lt_of_cell? _ _ (hHeld.2.2.2.1))).trans (hHeld.2.2.2.1)
    have HS4_ := (hb.cell (World.block_lt_of_cell? _ _ (hHeld.2.2.2.2.1))).trans (hHeld.2.2.2.2.1)
    have HS5_ := (hb.cell (World.block_lt_of_cell? _ _ (hHeld.2.2.2.2.2))).trans (hHeld.2.2.2.2.2)
    refine ⟨_, rfl, ?_⟩
    replace HL1100_1 := Aside0.mk (Kd.R_below (rl HL1100_1) hb)
    replace HL1100_2 := Aside0.mk (Kd.R_below (rl HL1100_2) hb)
    replace HL1102_1 := Aside0.mk (Kd.R_below (rl HL1102_1) hb)
    replace HL1102_2 := Aside0.mk (Kd.R_below (rl HL1102_2) hb)
    replace HL1103_1 := Aside0.mk (Kd.R_below (rl HL1103_1) hb)
    replace HL1103_2 := Aside0.mk (Kd.R_below (rl HL1103_2) hb)
    have HO1107 := Aside0.mk (Kd.V_lower (Kd.V_mono (ok' := fun k_ => some k_ ≠ (.slice Ao20 y1093.length co20 : Value).ownBlock ∧ some k_ ≠ (.slice (some ⟨go6, 0, none⟩) t1096.length co22 : Value).ownBlock ∧ k_ ≠ gb1090 ∧ k_ ≠ gb1091 ∧ k_ ≠ gb1092) ho0 (fun k_ hk_ => ⟨(Kd.fresh' (Kd.R_lt (rl HO1095)) k_ hk_), (Kd.fresh' (Kd.S_lt (by (with_reducible repeat (first | apply Kd.S_alloc | apply Kd.S_drewN | apply Kd.S_drew)); exact HO1099.out)) k_ hk_), (fb BK1090 k_ hk_), (fb BK1091 k_ hk_), (fb BK1092 k_ hk_)⟩)) (below_size bs))
    have HO1110 := Aside0.mk (Kd.V_lower (Kd.V_mono (ok' := fun k_ => some k_ ≠ (.slice Ao20 y1093.length co20 : Value).ownBlock ∧ some k_ ≠ (.slice (some ⟨go6, 0, none⟩) t1096.length co22 : Value).ownBlock ∧ k_ ≠ gb1090 ∧ k_ ≠ gb1091 ∧ k_ ≠ gb1092) ho1 (fun k_ hk_ => ⟨(Kd.fresh' (Kd.R_lt (rl HO1095)) k_ hk_), (Kd.fresh' (Kd.S_lt (by (with_reducible repeat (first | apply Kd.S_alloc | apply Kd.S_drewN | apply Kd.S_drew)); exact HO1099.out)) k_ hk_), (fb BK1090 k_ hk_), (fb BK1091 k_ hk_), (fb BK1092 k_ hk_)⟩)) (below_size bs))
    replace HO1095 := Aside0.mk (Kd.R_below (rl HO1095) hb)
    replace HO1099 := Aside0.mk (Kd.S_below (by (with_reducible repeat (first | apply Kd.S_alloc | apply Kd.S_drewN | apply Kd.S_drew)); exact HO1099.out) hb)
    replace BK1090 := bb BK1090 hb
    replace BK1091 := bb BK1091 hb
    replace BK1092 := bb BK1092 hb
    replace HR1102_1 := Aside0.mk (Kd.C_below (cl HR1102_1.out) hb)
    replace HR1102_2 := Aside0.mk (Kd.C_below (cl HR1102_2.out) hb)
    replace HR1103_1 := Aside0.mk (Kd.C_below (cl HR1103_1.out) hb)
    replace HR1103_2 := Aside0.mk (Kd.C_below (cl HR1103_2.out) hb)
    replace HB := hs HB hb
    (try clear hb)
    (try clear hb2)
    (try clear hk)
    (try clear hi)
    (try clear ho0)
    (try clear ho1)
    obtain ⟨Ao27, co27, eo27⟩ := Kd.V_slice HO1107.out
    (first | subst eo27 | (injection eo27 with f1_ f2_ f3_; have f4_ := f1_.symm; have f5_ := f3_.symm; clear f1_ f2_ f3_; subst f4_; subst f5_))
    obtain ⟨Ao28, co28, eo28⟩ := Kd.V_slice HO1110.out
    (first | subst eo28 | (injection eo28 with f1_ f2_ f3_; have f4_ := f1_.symm; have f5_ := f3_.symm; clear f1_ f2_ f3_; subst f4_; subst f5_))
    refine hK.out _ _ ⟨HS0_, HS1_, HS2_, HS3_, HS4_, HS5_⟩ (fun hHeld => ?_)
    clear hK K
    refine norm_ (a' := ?_) ?_ ?_
    rotate_left
    ·show Act.put _ (some 32) _ = _
     simp only [Act.put, List.setIfInBounds_toArray, List.set_cons_zero, List.set_cons_succ, i64_w, i32_w]
     rfl
    refine on (i := 7) (N := some 33) (fun K hK => ?_)
    refine goes_ Try.func83 (by kernel_rfl) rfl #[.agg #[.bool t1104, .slice Ao27 t1105.length co27, .slice Ao28 t1108.length co28]] (by rfl) rfl rfl ga ?_
    with_reducible refine (ratio_number_lowest.calls k t1104 _ _ t1105 _ _ t1108 t1111 t1112 t1113 t1114 _ ?side1 ?side2 ?side3 ?side4 A9.out).mono ?_
    (case side1 => exact cl ((Kd.V_reads' HO1107.out).2.2))
    (case side2 => exact (Kd.V_reads' HO1107.out).2.1)
    (case side3 => exact cl ((Kd.V_reads' HO1110.out).2.2))
    (case side4 => exact (Kd.V_reads' HO1110.out).2.1)
    rintro e w29 ⟨rfl, hb⟩
    have HS0_ := (hb.cell (World.block_lt_of_cell? _ _ (hHeld.1))).trans (hHeld.1)
    have HS1_ := (hb.cell (World.block_lt_of_cell? _ _ (hHeld.2.1))).trans (hHeld.2.1)
    have HS2_ := (hb.cell (World.block_lt_of_cell? _ _ (hHeld.2.2.1))).trans (hHeld.2.2.1)
    have HS3_ := (hb.cell (World.block_lt_of_cell? _ _ (hHeld.2.2.2.1))).trans (hHeld.2.2.2.1)
    have HS4_ := (hb.cell (World.block_lt_of_cell? _ _ (hHeld.2.2.2.2.1))).trans (hHeld.2.2.2.2.1)
    have HS5_ := (hb.cell (World.block_lt_of_cell? _ _ (hHeld.2.2.2.2.2))).trans (hHeld.2.2.2.2.2)
    refine ⟨_, rfl, ?_⟩
    replace HO1095 := Aside0.mk (Kd.R_below (rl HO1095) hb)
    replace HO1099 := Aside0.mk (Kd.S_below (by (with_reducible repeat (first | apply Kd.S_alloc | apply Kd.S_drewN | apply Kd.S_drew)); exact HO1099.out) hb)
    replace HL1100_1 := Aside0.mk (Kd.R_below (rl HL1100_1) hb)
    replace HL1100_2 := Aside0.mk (Kd.R_below (rl HL1100_2) hb)
    replace HL1102_1 := Aside0.mk (Kd.R_below (rl HL1102_1) hb)
    replace HL1102_2 := Aside0.mk (Kd.R_below (rl HL1102_2) hb)
    replace HL1103_1 := Aside0.mk (Kd.R_below (rl HL1103_1) hb)
    replace HL1103_2 := Aside0.mk (Kd.R_below (rl HL1103_2) hb)
    replace HO1107 := Aside0.mk (Kd.V_below (vl HO1107) hb)
    replace HO1110 := Aside0.mk (Kd.V_below (vl HO1110) hb)
    replace BK1090 := bb BK1090 hb
    replace BK1091 := bb BK1091 hb
    replace BK1092 := bb BK1092 hb
    replace HR1102_1 := Aside0.mk (Kd.C_below (cl HR1102_1.out) hb)
    replace HR1102_2 := Aside0.mk (Kd.C_below (cl HR1102_2.out) hb)
    replace HR1103_1 := Aside0.mk (Kd.C_below (cl HR1103_1.out) hb)
    replace HR1103_2 := Aside0.mk (Kd.C_below (cl HR1103_2.out) hb)
    replace HB := hs HB hb
    (try clear hb)
    (try clear hb2)
    (try clear hk)
    (try clear hi)
    refine hK.out _ _ ⟨HS0_, HS1_, HS2_, HS3_, HS4_, HS5_⟩ (fun hHeld => ?_)
    clear hK K
    refine norm_ (a' := ?_) ?_ ?_
    rotate_left
    ·show Act.put _ (some 33) _ = _
     simp only [Act.put, List.setIfInBounds_toArray, List.set_cons_zero, List.set_cons_succ, i64_w, i32_w]
     rfl
    refine pu (i := 8) (N := some 34) ?_
    refine pu (i := 9) (N := some 35) ?_
    refine on (i := 10) (N := none) (fun K hK => ?_)
    have hs30 : w29.cell? ⟨gb1092, 0, none⟩ = some (.bool false) := (blk_cell BK1092.out 0).trans rfl
    have hfs30 := blk_frozen BK1092.out 0
    have hns30_0 := NB1090_1092.out
    have hns30_1 := NB1091_1092.out
    have hms30_0 := NB1092_1090.out
    have hms30_1 := NB1092_1091.out
    have hs31 : w29.cell? ⟨gb1092, 1, none⟩ = some (.string (⟨#[]⟩ : ByteArray)) := (blk_cell BK1092.out 1).trans rfl
    have hfs31 := blk_frozen BK1092.out 1
    have hns31_0 := NB1090_1092.out
    have hns31_1 := NB1091_1092.out
    have hms31_0 := NB1092_1090.out
    have hms31_1 := NB1092_1091.out
    have hs32 : w29.cell? ⟨gb1092, 2, none⟩ = some (.string (⟨#[]⟩ : ByteArray)) := (blk_cell BK1092.out 2).trans rfl
    have hfs32 := blk_frozen BK1092.out 2
    have hns32_0 := NB1090_1092.out
    have hns32_1 := NB1091_1092.out
    have hms32_0 := NB1092_1090.out
    have hms32_1 := NB1092_1091.out
    refine skip_ (w1 := ?_) (by rfl) rfl ?_ ?_
    rotate_left
    ·go_simp
     rfl
    have F_ := Kd.S_ne HO1099.out BK1092.out (by decide); refine hK.out _ _ ⟨(cf F_ (cf F_ (cf F_ hHeld.1))), (cf F_ (cf F_ (cf F_ hHeld.2.1))), (cf F_ (cf F_ (cf F_ hHeld.2.2.1))), (cf F_ (cf F_ (cf F_ hHeld.2.2.2.1))), (cf F_ (cf F_ (cf F_ hHeld.2.2.2.2.1))), (cf F_ (cf F_ (cf F_ hHeld.2.2.2.2.2)))⟩ (fun hHeld => ?_)
    clear hK K
    refine pu (i := 11) (N := some 5) ?_
    refine done_ (done_of HT_.out (by kernel_rfl)) ?_
    try go_wp2
    refine bodyPost_ret (results_ct rfl _ _ gb1092 35 #[.bool t1111, .string t1112, .string t1113] (0, 0) _ rfl bw Try.underlying35 rfl (by kernel_rfl)) rfl ?_
    exact ⟨er, bs⟩
   ·rw [if_neg c7] at H
    exact absurd H (by simp)
  ·rw [if_neg c5] at H
   exact absurd H (by simp)
 ·replace c4 := Bool.eq_false_iff.mpr c4
  subst c4
  have H1 : (some (false, (⟨#[]⟩ : ByteArray), (⟨#[]⟩ : ByteArray), 1)) = some (r1, r2, r3, r4) := by rw [if_neg (show ¬ (false = true) by decide)] at H; exact H
  clear H
  have H := H1
  clear H1
  simp only [Option.some.injEq, Prod.mk.injEq] at H
  obtain ⟨rfl, rfl, rfl, rfl⟩ := H
  go_enter Try.func43, Try.ntmps43
  go_wp2_with (first | ((with_reducible refine gate_dst (N := 2) rfl ?_); refine be (N := 2) (cs := #[.bool a0_0, .string a0_1, .string a0_2]) (t := 35) ?_; intro gb1090 hg w33 hbox hb; have BK1090 := Aside0.mk (hbox); have GW1090 := gw HB hg; have GE1090 := GW1090; replace HB := hs HB hb; clear hb hbox hg) | ((with_reducible refine gate_dst (N := 3) rfl ?_); refine be (N := 3) (cs := #[.bool a1_0, .string a1_1, .string a1_2]) (t := 35) ?_; intro gb1091 hg w34 hbox hb; have BK1091 := Aside0.mk (hbox); have GW1091 := gw HB hg; have GE1091 := GW1091; replace HB := hs HB hb; have NB1090_1091 := na BK1090 hg; have NB1091_1090 := nz NB1090_1091; replace BK1090 := bb BK1090 hb; clear hb hbox hg) | ((with_reducible refine gate_dst (N := 4) rfl ?_); refine be (N := 4) (cs := #[.bool false, .string (⟨#[]⟩ : ByteArray), .string (⟨#[]⟩ : ByteArray)]) (t := 35) ?_; intro gb1092 hg w35 hbox hb; have BK1092 := Aside0.mk (hbox); have GW1092 := gw HB hg; have GE1092 := GW1092; replace HB := hs HB hb; have NB1090_1092 := na BK1090 hg; have NB1092_1090 := nz NB1090_1092; replace BK1090 := bb BK1090 hb; have NB1091_1092 := na BK1091 hg; have NB1092_1091 := nz NB1091_1092; replace BK1091 := bb BK1091 hb; clear hb hbox hg; have hnb36 := NB1090_1091.out; have hnc36 := NB1091_1090.out; have hnb37 := NB1090_1092.out; have hnc37 := NB1092_1090.out; obtain ⟨hcz38_0, hcz38_1, hcz38_2, hfz38_0, hfz38_1, hfz38_2⟩ := z3 BK1090; have hnb39 := NB1091_1092.out; have hnc39 := NB1092_1091.out; obtain ⟨hcz40_0, hcz40_1, hcz40_2, hfz40_0, hfz40_1, hfz40_2⟩ := z3 BK1091) | ((with_reducible refine gate_dst (N := 11) rfl ?_); refine Kd.R_lit k35 _ 35 ?hg (N := 11) ?hd (xs := ([(⟨a0_0, a0_1, a0_2⟩ : S35), (⟨a1_0, a1_1, a1_2⟩ : S35)] : List (S35))) (inner := [.bool a0_0, .string a0_1, .string a0_2, .bool a1_0, .string a1_1, .string a1_2]) (ok := fun _ => True) (okp := fun _ => True) ?hr ?hp (fun _ hk => hk) trivial (Below.refl _ _) (Nat.le_refl _) (by simp) ?_; (case hd => rfl); (case hg => rfl); (case hr => first | (go_simp; done) | (go_simp; rfl)); (case hp => exact (Reps.c3 (show Kd.M k35 _ _ _ (⟨a0_0, a0_1, a0_2⟩ : S35) [.bool a0_0, .string a0_1, .string a0_2] from (k35_mkM _ _ _ (⟨a0_0, a0_1, a0_2⟩ : S35) )) (Reps.c3 (show Kd.M k35 _ _ _ (⟨a1_0, a1_1, a1_2⟩ : S35) [.bool a1_0, .string a1_1, .string a1_2] from (k35_mkM _ _ _ (⟨a1_0, a1_1, a1_2⟩ : S35) )) (Reps.none _ _)))); intro v1094 w41 ho42 hb hg_ hnew_; clear hg_ hnew_; (first | rw [← Ny1093.out] at ho42 | (simp only [Int.reduceToNat] at ho42; rw [← Ny1093.out] at ho42)); have HO1095 := Aside0.mk (Kd.R_lower (Kd.R_newB (Kd.R_newB (Kd.R_newB ho42 (g := gb1090) (o := .cells #[.bool a0_0, .string a0_1, .string a0_2] 35 (0, 0)) bk) (g := gb1091) (o := .cells #[.bool a1_0, .string a1_1, .string a1_2] 35 (0, 0)) bk) (g := gb1092) (o := .cells #[.bool false, .string (⟨#[]⟩ : ByteArray), .string (⟨#[]⟩ : ByteArray)] 35 (0, 0)) bk) (below_size bs)); replace BK1090 := bb BK1090 hb; replace BK1091 := bb BK1091 hb; replace BK1092 := bb BK1092 hb; replace HB := hs HB hb; clear hb ho42; obtain ⟨Ao43, co43, eo43⟩ := Kd.R_slice HO1095.out; subst eo43) | ((with_reducible refine gate_callee (f := 82) rfl ?_); refine goesL_ (some 12) rfl rfl Try.func82 (by kernel_rfl) rfl #[.slice Ao43 y1093.length co43] rfl ga ?_; (with_reducible refine (ratio_read.calls k _ _ y1093 t1096 false _ ?side1 ?side2 A3.out).mono ?_); (case side1 => exact cl ((Kd.R_reads' HO1095.out).2.2)); (case side2 => exact (Kd.R_reads' HO1095.out).2.1); rintro e w44 ⟨v1098, rfl, ho0, hb⟩; refine ⟨_, rfl, ?_⟩; replace HO1095 := Aside0.mk (Kd.R_below (rl HO1095) hb); have HO1099 := Aside0.mk (Kd.S_lower ho0 (below_size bs)); replace BK1090 := bb BK1090 hb; replace BK1091 := bb BK1091 hb; replace BK1092 := bb BK1092 hb; replace HB := hs HB hb; (try clear hb); (try clear ho0); obtain ⟨hcz45_0, hcz45_1, hcz45_2, hfz45_0, hfz45_1, hfz45_2⟩ := z3 BK1092))
  refine bodyPost_ret (results_ct rfl _ _ gb1092 35 #[.bool false, .string (⟨#[]⟩ : ByteArray), .string (⟨#[]⟩ : ByteArray)] (0, 0) _ rfl bw Try.underlying35 rfl (by kernel_rfl)) rfl ?_
  exact ⟨er, bs⟩
end Go.Proofs.Ytccgfmjcldifcaa.P
