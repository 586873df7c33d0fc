/- What each Go function computes, as plain Lean functions, and the walks that show it; each theorem's conditions stand in it. -/
import Derived.Test.YtccgfmjcldifcaaT
import Derived.Test.YtccgfmjcldifcaaCKnown
import Derived.Test.YtccgfmjcldifcaaCRaAdd
import Derived.Test.YtccgfmjcldifcaaCRaMul
import Derived.Test.YtccgfmjcldifcaaCSome36
import Derived.Test.YtccgfmjcldifcaaDB
import Derived.Test.YtccgfmjcldifcaaDE
import Derived.Test.YtccgfmjcldifcaaDLRatioField
namespace Go.Proofs.Ytccgfmjcldifcaa.P
open Go.RowKit Go.Proofs.YtccgfmjcldifcaaW.PrintWords Go.Proofs.YtccgfmjcldifcaaW.PrintLast Go.Proofs.YtccgfmjcldifcaaW.PrintMore
attribute [local go_sem] max2_int min2_int max_two min_two max_three min_three max_four min_four   -- for this text's walks alone
set_option linter.unusedVariables false
set_option linter.unusedSimpArgs false
attribute [local go_sem high] eqA35
set_option maxHeartbeats 8000000 in
set_option maxRecDepth 100000 in
theorem corporalaw36_RatioField.calls (k : Nat) (A0 : Option Addr) (c0 : Nat) (l0 : List Int) (A1 : Option Addr) (c1 : Nat) (l1 : List Int) (A2 : Option Addr) (c2 : Nat) (l2 : List Int) (r : Bool) (w : World) (hr0 : Kd.C (Kd.int .i64) w A0 l0.length l0) (hc0 : l0.length ≤ c0) (hr1 : Kd.C (Kd.int .i64) w A1 l1.length l1) (hc1 : l1.length ≤ c1) (hr2 : Kd.C (Kd.int .i64) w A2 l2.length l2) (hc2 : l2.length ≤ c2) (h : corporalaw36_RatioField.f k l0 l1 l2 = some r) :
  Calls Try.prog 8 #[.slice A0 l0.length c0, .slice A1 l1.length c1, .slice A2 l2.length c2] w fun e w' => e = .returned (.bool r) ∧ Below w.heap.size w w' := by
 have hu35 := Try.underlying35
 have HR0 := Aside0.mk hr0
 have HC0 := Aside0.mk hc0
 clear hr0 hc0
 have HR1 := Aside0.mk hr1
 have HC1 := Aside0.mk hc1
 clear hr1 hc1
 have HR2 := Aside0.mk hr2
 have HC2 := Aside0.mk hc2
 clear hr2 hc2
 have HB := Aside0.mk (Below.refl w.heap.size w)
 have H : Option.bind (corporalaw36_some.f k l0) _ = _ := h
 clear h
 replace H := Option.bind_eq_some_iff.mp H
 obtain ⟨⟨t1028, t1029, t1030⟩, A40, H⟩ := H
 replace H : Option.bind (corporalaw36_some.f k l1) _ = _ := H
 have A4 := Aside0.mk A40
 clear A40
 replace H := Option.bind_eq_some_iff.mp H
 obtain ⟨⟨t1031, t1032, t1033⟩, A50, H⟩ := H
 replace H : Option.bind (corporalaw36_some.f k l2) _ = _ := H
 have A5 := Aside0.mk A50
 clear A50
 replace H := Option.bind_eq_some_iff.mp H
 obtain ⟨⟨t1034, t1035, t1036⟩, A60, H⟩ := H
 replace H : Option.bind (ratio_Add.f k t1028 t1029 t1030 t1031 t1032 t1033) _ = _ := H
 have A6 := Aside0.mk A60
 clear A60
 replace H := Option.bind_eq_some_iff.mp H
 obtain ⟨⟨t1040, t1041, t1042, t1043⟩, A70, H⟩ := H
 replace H : Option.bind (ratio_Add.f k t1031 t1032 t1033 t1028 t1029 t1030) _ = _ := H
 have A7 := Aside0.mk A70
 clear A70
 replace H := Option.bind_eq_some_iff.mp H
 obtain ⟨⟨t1045, t1046, t1047, t1048⟩, A80, H⟩ := H
 replace H : Option.bind (ratio_Add.f k t1040 t1041 t1042 t1034 t1035 t1036) _ = _ := H
 have A8 := Aside0.mk A80
 clear A80
 replace H := Option.bind_eq_some_iff.mp H
 obtain ⟨⟨t1050, t1051, t1052, t1053⟩, A90, H⟩ := H
 replace H : Option.bind (ratio_Add.f k t1031 t1032 t1033 t1034 t1035 t1036) _ = _ := H
 have A9 := Aside0.mk A90
 clear A90
 replace H := Option.bind_eq_some_iff.mp H
 obtain ⟨⟨t1055, t1056, t1057, t1058⟩, A100, H⟩ := H
 replace H : Option.bind (ratio_Add.f k t1028 t1029 t1030 t1055 t1056 t1057) _ = _ := H
 have A10 := Aside0.mk A100
 clear A100
 replace H := Option.bind_eq_some_iff.mp H
 obtain ⟨⟨t1060, t1061, t1062, t1063⟩, A110, H⟩ := H
 replace H : Option.bind (ratio_Mul.f k t1028 t1029 t1030 t1055 t1056 t1057) _ = _ := H
 have A11 := Aside0.mk A110
 clear A110
 replace H := Option.bind_eq_some_iff.mp H
 obtain ⟨⟨t1065, t1066, t1067, t1068⟩, A120, H⟩ := H
 replace H : Option.bind (ratio_Mul.f k t1028 t1029 t1030 t1031 t1032 t1033) _ = _ := H
 have A12 := Aside0.mk A120
 clear A120
 replace H := Option.bind_eq_some_iff.mp H
 obtain ⟨⟨t1070, t1071, t1072, t1073⟩, A130, H⟩ := H
 replace H : Option.bind (ratio_Mul.f k t1028 t1029 t1030 t1034 t1035 t1036) _ = _ := H
 have A13 := Aside0.mk A130
 clear A130
 replace H := Option.bind_eq_some_iff.mp H
 obtain ⟨⟨t1075, t1076, t1077, t1078⟩, A140, H⟩ := H
 replace H : Option.bind (ratio_Add.f k t1070 t1071 t1072 t1075 t1076 t1077) _ = _ := H
 have A14 := Aside0.mk A140
 clear A140
 replace H := Option.bind_eq_some_iff.mp H
 obtain ⟨⟨t1080, t1081, t1082, t1083⟩, A150, H⟩ := H
 replace H : Option.bind (some (([t1043, t1048, t1053, t1058, t1063, t1068, t1073, t1078, t1083] : List Int) : List Int)) _ = _ := H
 have A15 := Aside0.mk A150
 clear A150
 obtain ⟨y1085, hy1085⟩ : ∃ y_ : List Int, y_ = (([t1043, t1048, t1053, t1058, t1063, t1068, t1073, t1078, t1083] : List Int)) := ⟨_, rfl⟩
 replace H : (corporalaw36_RatioField.l0 k y1085 (y1085.length : Int) 0 t1040 t1041 t1042 t1045 t1046 t1047 t1050 t1051 t1052 t1060 t1061 t1062 t1065 t1066 t1067 t1080 t1081 t1082) = some r := by first | (rw [hy1085]; with_reducible exact H) | (have H2_ := (Option.bind_some _ _).symm.trans H; rw [hy1085]; with_reducible exact H2_) | (have H2_ := (Option.bind_some _ _).symm.trans H; with_reducible exact H2_) | with_reducible exact H | (rw [hy1085]; exact H) | exact H
 have Ny1085 := Aside0.mk hy1085
 clear hy1085
 have H' := Aside0.mk H
 clear H
 go_enter Try.func8, Try.ntmps8
 go_wp2_with (first | ((with_reducible refine gate_callee (f := 41) rfl ?_); refine goesL_ (some 31) rfl rfl Try.func41 (by kernel_rfl) rfl #[.slice A0 l0.length c0] rfl ga ?_; (with_reducible refine (corporalaw36_some.calls k _ _ l0 t1028 t1029 t1030 _ ?side1 ?side2 A4.out).mono ?_); (case side1 => exact cl HR0.out); (case side2 => exact HC0.out); rintro e w16 ⟨rfl, hb⟩; refine ⟨_, rfl, ?_⟩; replace HB := hs HB hb; (try clear hb)) | ((with_reducible refine gate_callee (f := 41) rfl ?_); refine goesL_ (some 33) rfl rfl Try.func41 (by kernel_rfl) rfl #[.slice A1 l1.length c1] rfl ga ?_; (with_reducible refine (corporalaw36_some.calls k _ _ l1 t1031 t1032 t1033 _ ?side1 ?side2 A5.out).mono ?_); (case side1 => exact cl ((Kd.C_below HR1.out HB.out))); (case side2 => exact HC1.out); rintro e w17 ⟨rfl, hb⟩; refine ⟨_, rfl, ?_⟩; replace HB := hs HB hb; (try clear hb)) | ((with_reducible refine gate_callee (f := 41) rfl ?_); refine goesL_ (some 35) rfl rfl Try.func41 (by kernel_rfl) rfl #[.slice A2 l2.length c2] rfl ga ?_; (with_reducible refine (corporalaw36_some.calls k _ _ l2 t1034 t1035 t1036 _ ?side1 ?side2 A6.out).mono ?_); (case side1 => exact cl ((Kd.C_below HR2.out HB.out))); (case side2 => exact HC2.out); rintro e w18 ⟨rfl, hb⟩; refine ⟨_, rfl, ?_⟩; replace HB := hs HB hb; (try clear hb)) | ((with_reducible refine gate_dst (N := 7) rfl ?_); refine be (N := 7) (cs := #[.bool false, .string (⟨#[]⟩ : ByteArray), .string (⟨#[]⟩ : ByteArray)]) (t := 35) ?_; intro gb1037 hg w19 hbox hb; have BK1037 := Aside0.mk (hbox); have GW1037 := gw HB hg; have GE1037 := GW1037; replace HB := hs HB hb; clear hb hbox hg) | ((with_reducible refine gate_dst (N := 8) rfl ?_); refine be (N := 8) (cs := #[.bool false, .string (⟨#[]⟩ : ByteArray), .string (⟨#[]⟩ : ByteArray)]) (t := 35) ?_; intro gb1038 hg w20 hbox hb; have BK1038 := Aside0.mk (hbox); have GW1038 := gw HB hg; have GE1038 := GW1038; replace HB := hs HB hb; have NB1037_1038 := na BK1037 hg; have NB1038_1037 := nz NB1037_1038; replace BK1037 := bb BK1037 hb; clear hb hbox hg) | ((with_reducible refine gate_dst (N := 9) rfl ?_); refine be (N := 9) (cs := #[.bool false, .string (⟨#[]⟩ : ByteArray), .string (⟨#[]⟩ : ByteArray)]) (t := 35) ?_; intro gb1039 hg w21 hbox hb; have BK1039 := Aside0.mk (hbox); have GW1039 := gw HB hg; have GE1039 := GW1039; replace HB := hs HB hb; have NB1037_1039 := na BK1037 hg; have NB1039_1037 := nz NB1037_1039; replace BK1037 := bb BK1037 hb; have NB1038_1039 := na BK1038 hg; have NB1039_1038 := nz NB1038_1039; replace BK1038 := bb BK1038 hb; clear hb hbox hg; have hnb22 := NB1037_1038.out; have hnc22 := NB1038_1037.out; have hnb23 := NB1037_1039.out; have hnc23 := NB1039_1037.out; obtain ⟨hcz24_0, hcz24_1, hcz24_2, hfz24_0, hfz24_1, hfz24_2⟩ := z3 BK1037; have hnb25 := NB1038_1039.out; have hnc25 := NB1039_1038.out; obtain ⟨hcz26_0, hcz26_1, hcz26_2, hfz26_0, hfz26_1, hfz26_2⟩ := z3 BK1038; obtain ⟨hcz27_0, hcz27_1, hcz27_2, hfz27_0, hfz27_1, hfz27_2⟩ := z3 BK1039) | ((with_reducible refine gate_callee (f := 42) rfl ?_); refine goesL_ (some 39) rfl rfl Try.func42 (by kernel_rfl) rfl #[.agg #[.bool t1028, .string t1029, .string t1030], .agg #[.bool t1031, .string t1032, .string t1033]] rfl ga ?_; (with_reducible refine (ratio_Add.calls k t1028 t1029 t1030 t1031 t1032 t1033 t1040 t1041 t1042 t1043 _ A7.out).mono ?_); rintro e w28 ⟨rfl, hb⟩; refine ⟨_, rfl, ?_⟩; replace BK1037 := bq BK1037 #[.bool t1028, .string t1029, .string t1030] hb; replace BK1038 := bq BK1038 #[.bool t1031, .string t1032, .string t1033] hb; replace BK1039 := bq BK1039 #[.bool t1034, .string t1035, .string t1036] hb; replace HB := hs HB hb; (try clear hb)) | ((with_reducible refine gate_dst (N := 10) rfl ?_); refine be (N := 10) (cs := #[.bool false, .string (⟨#[]⟩ : ByteArray), .string (⟨#[]⟩ : ByteArray)]) (t := 35) ?_; intro gb1044 hg w29 hbox hb; have BK1044 := Aside0.mk (hbox); have GW1044 := gw HB hg; have GE1044 := GW1044; replace HB := hs HB hb; have NB1037_1044 := na BK1037 hg; have NB1044_1037 := nz NB1037_1044; replace BK1037 := bb BK1037 hb; have NB1038_1044 := na BK1038 hg; have NB1044_1038 := nz NB1038_1044; replace BK1038 := bb BK1038 hb; have NB1039_1044 := na BK1039 hg; have NB1044_1039 := nz NB1039_1044; replace BK1039 := bb BK1039 hb; clear hb hbox hg; have hnb30 := NB1044_1037.out; have hnc30 := NB1037_1044.out; have hnb31 := NB1044_1038.out; have hnc31 := NB1038_1044.out; have hnb32 := NB1044_1039.out; have hnc32 := NB1039_1044.out; obtain ⟨hcz33_0, hcz33_1, hcz33_2, hfz33_0, hfz33_1, hfz33_2⟩ := z3 BK1044; obtain ⟨hcz34_0, hcz34_1, hcz34_2, hfz34_0, hfz34_1, hfz34_2⟩ := z3 BK1038; obtain ⟨hcz35_0, hcz35_1, hcz35_2, hfz35_0, hfz35_1, hfz35_2⟩ := z3 BK1037) | ((with_reducible refine gate_callee (f := 42) rfl ?_); refine goesL_ (some 45) rfl rfl Try.func42 (by kernel_rfl) rfl #[.agg #[.bool t1031, .string t1032, .string t1033], .agg #[.bool t1028, .string t1029, .string t1030]] rfl ga ?_; (with_reducible refine (ratio_Add.calls k t1031 t1032 t1033 t1028 t1029 t1030 t1045 t1046 t1047 t1048 _ A8.out).mono ?_); rintro e w36 ⟨rfl, hb⟩; refine ⟨_, rfl, ?_⟩; replace BK1037 := bb BK1037 hb; replace BK1038 := bb BK1038 hb; replace BK1039 := bb BK1039 hb; replace BK1044 := bq BK1044 #[.bool t1040, .string t1041, .string t1042] hb; replace HB := hs HB hb; (try clear hb)) | ((with_reducible refine gate_dst (N := 12) rfl ?_); refine be (N := 12) (cs := #[.bool false, .string (⟨#[]⟩ : ByteArray), .string (⟨#[]⟩ : ByteArray)]) (t := 35) ?_; intro gb1049 hg w37 hbox hb; have BK1049 := Aside0.mk (hbox); have GW1049 := gw HB hg; have GE1049 := GW1049; replace HB := hs HB hb; have NB1037_1049 := na BK1037 hg; have NB1049_1037 := nz NB1037_1049; replace BK1037 := bb BK1037 hb; have NB1038_1049 := na BK1038 hg; have NB1049_1038 := nz NB1038_1049; replace BK1038 := bb BK1038 hb; have NB1039_1049 := na BK1039 hg; have NB1049_1039 := nz NB1039_1049; replace BK1039 := bb BK1039 hb; have NB1044_1049 := na BK1044 hg; have NB1049_1044 := nz NB1044_1049; replace BK1044 := bb BK1044 hb; clear hb hbox hg; have hnb38 := NB1049_1037.out; have hnc38 := NB1037_1049.out; have hnb39 := NB1049_1038.out; have hnc39 := NB1038_1049.out; have hnb40 := NB1049_1039.out; have hnc40 := NB1039_1049.out; have hnb41 := NB1049_1044.out; have hnc41 := NB1044_1049.out; obtain ⟨hcz42_0, hcz42_1, hcz42_2, hfz42_0, hfz42_1, hfz42_2⟩ := z3 BK1049; obtain ⟨hcz43_0, hcz43_1, hcz43_2, hfz43_0, hfz43_1, hfz43_2⟩ := z3 BK1044; obtain ⟨hcz44_0, hcz44_1, hcz44_2, hfz44_0, hfz44_1, hfz44_2⟩ := z3 BK1039) | ((with_reducible refine gate_callee (f := 42) rfl ?_); refine goesL_ (some 51) rfl rfl Try.func42 (by kernel_rfl) rfl #[.agg #[.bool t1040, .string t1041, .string t1042], .agg #[.bool t1034, .string t1035, .string t1036]] rfl ga ?_; (with_reducible refine (ratio_Add.calls k t1040 t1041 t1042 t1034 t1035 t1036 t1050 t1051 t1052 t1053 _ A9.out).mono ?_); rintro e w45 ⟨rfl, hb⟩; refine ⟨_, rfl, ?_⟩; replace BK1037 := bb BK1037 hb; replace BK1038 := bb BK1038 hb; replace BK1039 := bb BK1039 hb; replace BK1044 := bb BK1044 hb; replace BK1049 := bq BK1049 #[.bool t1045, .string t1046, .string t1047] hb; replace HB := hs HB hb; (try clear hb)) | ((with_reducible refine gate_dst (N := 14) rfl ?_); refine be (N := 14) (cs := #[.bool false, .string (⟨#[]⟩ : ByteArray), .string (⟨#[]⟩ : ByteArray)]) (t := 35) ?_; intro gb1054 hg w46 hbox hb; have BK1054 := Aside0.mk (hbox); have GW1054 := gw HB hg; have GE1054 := GW1054; replace HB := hs HB hb; have NB1037_1054 := na BK1037 hg; have NB1054_1037 := nz NB1037_1054; replace BK1037 := bb BK1037 hb; have NB1038_1054 := na BK1038 hg; have NB1054_1038 := nz NB1038_1054; replace BK1038 := bb BK1038 hb; have NB1039_1054 := na BK1039 hg; have NB1054_1039 := nz NB1039_1054; replace BK1039 := bb BK1039 hb; have NB1044_1054 := na BK1044 hg; have NB1054_1044 := nz NB1044_1054; replace BK1044 := bb BK1044 hb; have NB1049_1054 := na BK1049 hg; have NB1054_1049 := nz NB1049_1054; replace BK1049 := bb BK1049 hb; clear hb hbox hg; have hnb47 := NB1054_1037.out; have hnc47 := NB1037_1054.out; have hnb48 := NB1054_1038.out; have hnc48 := NB1038_1054.out; have hnb49 := NB1054_1039.out; have hnc49 := NB1039_1054.out; have hnb50 := NB1054_1044.out; have hnc50 := NB1044_1054.out; have hnb51 := NB1054_1049.out; have hnc51 := NB1049_1054.out; obtain ⟨hcz52_0, hcz52_1, hcz52_2, hfz52_0, hfz52_1, hfz52_2⟩ := z3 BK1054; obtain ⟨hcz53_0, hcz53_1, hcz53_2, hfz53_0, hfz53_1, hfz53_2⟩ := z3 BK1038; obtain ⟨hcz54_0, hcz54_1, hcz54_2, hfz54_0, hfz54_1, hfz54_2⟩ := z3 BK1039) | ((with_reducible refine gate_callee (f := 42) rfl ?_); refine goesL_ (some 57) rfl rfl Try.func42 (by kernel_rfl) rfl #[.agg #[.bool t1031, .string t1032, .string t1033], .agg #[.bool t1034, .string t1035, .string t1036]] rfl ga ?_; (with_reducible refine (ratio_Add.calls k t1031 t1032 t1033 t1034 t1035 t1036 t1055 t1056 t1057 t1058 _ A10.out).mono ?_); rintro e w55 ⟨rfl, hb⟩; refine ⟨_, rfl, ?_⟩; replace BK1037 := bb BK1037 hb; replace BK1038 := bb BK1038 hb; replace BK1039 := bb BK1039 hb; replace BK1044 := bb BK1044 hb; replace BK1049 := bb BK1049 hb; replace BK1054 := bq BK1054 #[.bool t1050, .string t1051, .string t1052] hb; replace HB := hs HB hb; (try clear hb)) | ((with_reducible refine gate_dst (N := 16) rfl ?_); refine be (N := 16) (cs := #[.bool false, .string (⟨#[]⟩ : ByteArray), .string (⟨#[]⟩ : ByteArray)]) (t := 35) ?_; intro gb1059 hg w56 hbox hb; have BK1059 := Aside0.mk (hbox); have GW1059 := gw HB hg; have GE1059 := GW1059; replace HB := hs HB hb; have NB1037_1059 := na BK1037 hg; have NB1059_1037 := nz NB1037_1059; replace BK1037 := bb BK1037 hb; have NB1038_1059 := na BK1038 hg; have NB1059_1038 := nz NB1038_1059; replace BK1038 := bb BK1038 hb; have NB1039_1059 := na BK1039 hg; have NB1059_1039 := nz NB1039_1059; replace BK1039 := bb BK1039 hb; have NB1044_1059 := na BK1044 hg; have NB1059_1044 := nz NB1044_1059; replace BK1044 := bb BK1044 hb; have NB1049_1059 := na BK1049 hg; have NB1059_1049 := nz NB1049_1059; replace BK1049 := bb BK1049 hb; have NB1054_1059 := na BK1054 hg; have NB1059_1054 := nz NB1054_1059; replace BK1054 := bb BK1054 hb; clear hb hbox hg; have hnb57 := NB1059_1037.out; have hnc57 := NB1037_1059.out; have hnb58 := NB1059_1038.out; have hnc58 := NB1038_1059.out; have hnb59 := NB1059_1039.out; have hnc59 := NB1039_1059.out; have hnb60 := NB1059_1044.out; have hnc60 := NB1044_1059.out; have hnb61 := NB1059_1049.out; have hnc61 := NB1049_1059.out; have hnb62 := NB1059_1054.out; have hnc62 := NB1054_1059.out; obtain ⟨hcz63_0, hcz63_1, hcz63_2, hfz63_0, hfz63_1, hfz63_2⟩ := z3 BK1059; obtain ⟨hcz64_0, hcz64_1, hcz64_2, hfz64_0, hfz64_1, hfz64_2⟩ := z3 BK1037) | ((with_reducible refine gate_callee (f := 42) rfl ?_); refine goesL_ (some 63) rfl rfl Try.func42 (by kernel_rfl) rfl #[.agg #[.bool t1028, .string t1029, .string t1030], .agg #[.bool t1055, .string t1056, .string t1057]] rfl ga ?_; (with_reducible refine (ratio_Add.calls k t1028 t1029 t1030 t1055 t1056 t1057 t1060 t1061 t1062 t1063 _ A11.out).mono ?_); rintro e w65 ⟨rfl, hb⟩; refine ⟨_, rfl, ?_⟩; replace BK1037 := bb BK1037 hb; replace BK1038 := bb BK1038 hb; replace BK1039 := bb BK1039 hb; replace BK1044 := bb BK1044 hb; replace BK1049 := bb BK1049 hb; replace BK1054 := bb BK1054 hb; replace BK1059 := bq BK1059 #[.bool t1055, .string t1056, .string t1057] hb; replace HB := hs HB hb; (try clear hb)) | ((with_reducible refine gate_dst (N := 18) rfl ?_); refine be (N := 18) (cs := #[.bool false, .string (⟨#[]⟩ : ByteArray), .string (⟨#[]⟩ : ByteArray)]) (t := 35) ?_; intro gb1064 hg w66 hbox hb; have BK1064 := Aside0.mk (hbox); have GW1064 := gw HB hg; have GE1064 := GW1064; replace HB := hs HB hb; have NB1037_1064 := na BK1037 hg; have NB1064_1037 := nz NB1037_1064; replace BK1037 := bb BK1037 hb; have NB1038_1064 := na BK1038 hg; have NB1064_1038 := nz NB1038_1064; replace BK1038 := bb BK1038 hb; have NB1039_1064 := na BK1039 hg; have NB1064_1039 := nz NB1039_1064; replace BK1039 := bb BK1039 hb; have NB1044_1064 := na BK1044 hg; have NB1064_1044 := nz NB1044_1064; replace BK1044 := bb BK1044 hb; have NB1049_1064 := na BK1049 hg; have NB1064_1049 := nz NB1049_1064; replace BK1049 := bb BK1049 hb; have NB1054_1064 := na BK1054 hg; have NB1064_1054 := nz NB1054_1064; replace BK1054 := bb BK1054 hb; have NB1059_1064 := na BK1059 hg; have NB1064_1059 := nz NB1059_1064; replace BK1059 := bb BK1059 hb; clear hb hbox hg; have hnb67 := NB1064_1037.out; have hnc67 := NB1037_1064.out; have hnb68 := NB1064_1038.out; have hnc68 := NB1038_1064.out; have hnb69 := NB1064_1039.out; have hnc69 := NB1039_1064.out; have hnb70 := NB1064_1044.out; have hnc70 := NB1044_1064.out; have hnb71 := NB1064_1049.out; have hnc71 := NB1049_1064.out; have hnb72 := NB1064_1054.out; have hnc72 := NB1054_1064.out; have hnb73 := NB1064_1059.out; have hnc73 := NB1059_1064.out; obtain ⟨hcz74_0, hcz74_1, hcz74_2, hfz74_0, hfz74_1, hfz74_2⟩ := z3 BK1064; obtain ⟨hcz75_0, hcz75_1, hcz75_2, hfz75_0, hfz75_1, hfz75_2⟩ := z3 BK1037; obtain ⟨hcz76_0, hcz76_1, hcz76_2, hfz76_0, hfz76_1, hfz76_2⟩ := z3 BK1059) | ((with_reducible refine gate_callee (f := 26) rfl ?_); refine goesL_ (some 69) rfl rfl Try.func26 (by kernel_rfl) rfl #[.agg #[.bool t1028, .string t1029, .string t1030], .agg #[.bool t1055, .string t1056, .string t1057]] rfl ga ?_; (with_reducible refine (ratio_Mul.calls k t1028 t1029 t1030 t1055 t1056 t1057 t1065 t1066 t1067 t1068 _ A12.out).mono ?_); rintro e w77 ⟨rfl, hb⟩; refine ⟨_, rfl, ?_⟩; replace BK1037 := bb BK1037 hb; replace BK1038 := bb BK1038 hb; replace BK1039 := bb BK1039 hb; replace BK1044 := bb BK1044 hb; replace BK1049 := bb BK1049 hb; replace BK1054 := bb BK1054 hb; replace BK1059 := bb BK1059 hb; replace BK1064 := bq BK1064 #[.bool t1060, .string t1061, .string t1062] hb; replace HB := hs HB hb; (try clear hb)) | ((with_reducible refine gate_dst (N := 20) rfl ?_); refine be (N := 20) (cs := #[.bool false, .string (⟨#[]⟩ : ByteArray), .string (⟨#[]⟩ : ByteArray)]) (t := 35) ?_; intro gb1069 hg w78 hbox hb; have BK1069 := Aside0.mk (hbox); have GW1069 := gw HB hg; have GE1069 := GW1069; replace HB := hs HB hb; have NB1037_1069 := na BK1037 hg; have NB1069_1037 := nz NB1037_1069; replace BK1037 := bb BK1037 hb; have NB1038_1069 := na BK1038 hg; have NB1069_1038 := nz NB1038_1069; replace BK1038 := bb BK1038 hb; have NB1039_1069 := na BK1039 hg; have NB1069_1039 := nz NB1039_1069; replace BK1039 := bb BK1039 hb; have NB1044_1069 := na BK1044 hg; have NB1069_1044 := nz NB1044_1069; replace BK1044 := bb BK1044 hb; have NB1049_1069 := na BK1049 hg; have NB1069_1049 := nz NB1049_1069; replace BK1049 := bb BK1049 hb; have NB1054_1069 := na BK1054 hg; have NB1069_1054 := nz NB1054_1069; replace BK1054 := bb BK1054 hb; have NB1059_1069 := na BK1059 hg; have NB1069_1059 := nz NB1059_1069; replace BK1059 := bb BK1059 hb; have NB1064_1069 := na BK1064 hg; have NB1069_1064 := nz NB1064_1069; replace BK1064 := bb BK1064 hb; clear hb hbox hg; have hnb79 := NB1069_1037.out; have hnc79 := NB1037_1069.out; have hnb80 := NB1069_1038.out; have hnc80 := NB1038_1069.out; have hnb81 := NB1069_1039.out; have hnc81 := NB1039_1069.out; have hnb82 := NB1069_1044.out; have hnc82 := NB1044_1069.out; have hnb83 := NB1069_1049.out; have hnc83 := NB1049_1069.out; have hnb84 := NB1069_1054.out; have hnc84 := NB1054_1069.out; have hnb85 := NB1069_1059.out; have hnc85 := NB1059_1069.out; have hnb86 := NB1069_1064.out; have hnc86 := NB1064_1069.out; obtain ⟨hcz87_0, hcz87_1, hcz87_2, hfz87_0, hfz87_1, hfz87_2⟩ := z3 BK1069; obtain ⟨hcz88_0, hcz88_1, hcz88_2, hfz88_0, hfz88_1, hfz88_2⟩ := z3 BK1037; obtain ⟨hcz89_0, hcz89_1, hcz89_2, hfz89_0, hfz89_1, hfz89_2⟩ := z3 BK1038) | ((with_reducible refine gate_callee (f := 26) rfl ?_); refine goesL_ (some 75) rfl rfl Try.func26 (by kernel_rfl) rfl #[.agg #[.bool t1028, .string t1029, .string t1030], .agg #[.bool t1031, .string t1032, .string t1033]] rfl ga ?_; (with_reducible refine (ratio_Mul.calls k t1028 t1029 t1030 t1031 t1032 t1033 t1070 t1071 t1072 t1073 _ A13.out).mono ?_); rintro e w90 ⟨rfl, hb⟩; refine ⟨_, rfl, ?_⟩; replace BK1037 := bb BK1037 hb; replace BK1038 := bb BK1038 hb; replace BK1039 := bb BK1039 hb; replace BK1044 := bb BK1044 hb; replace BK1049 := bb BK1049 hb; replace BK1054 := bb BK1054 hb; replace BK1059 := bb BK1059 hb; replace BK1064 := bb BK1064 hb; replace BK1069 := bq BK1069 #[.bool t1065, .string t1066, .string t1067] hb; replace HB := hs HB hb; (try clear hb)) | ((with_reducible refine gate_dst (N := 22) rfl ?_); refine be (N := 22) (cs := #[.bool false, .string (⟨#[]⟩ : ByteArray), .string (⟨#[]⟩ : ByteArray)]) (t := 35) ?_; intro gb1074 hg w91 hbox hb; have BK1074 := Aside0.mk (hbox); have GW1074 := gw HB hg; have GE1074 := GW1074; replace HB := hs HB hb; have NB1037_1074 := na BK1037 hg; have NB1074_1037 := nz NB1037_1074; replace BK1037 := bb BK1037 hb; have NB1038_1074 := na BK1038 hg; have NB1074_1038 := nz NB1038_1074; replace BK1038 := bb BK1038 hb; have NB1039_1074 := na BK1039 hg; have NB1074_1039 := nz NB1039_1074; replace BK1039 := bb BK1039 hb; have NB1044_1074 := na BK1044 hg; have NB1074_1044 := nz NB1044_1074; replace BK1044 := bb BK1044 hb; have NB1049_1074 := na BK1049 hg; have NB1074_1049 := nz NB1049_1074; replace BK1049 := bb BK1049 hb; have NB1054_1074 := na BK1054 hg; have NB1074_1054 := nz NB1054_1074; replace BK1054 := bb BK1054 hb; have NB1059_1074 := na BK1059 hg; have NB1074_1059 := nz NB1059_1074; replace BK1059 := bb BK1059 hb; have NB1064_1074 := na BK1064 hg; have NB1074_1064 := nz NB1064_1074; replace BK1064 := bb BK1064 hb; have NB1069_1074 := na BK1069 hg; have NB1074_1069 := nz NB1069_1074; replace BK1069 := bb BK1069 hb; clear hb hbox hg; have hnb92 := NB1074_1037.out; have hnc92 := NB1037_1074.out; have hnb93 := NB1074_1038.out; have hnc93 := NB1038_1074.out; have hnb94 := NB1074_1039.out; have hnc94 := NB1039_1074.out; have hnb95 := NB1074_1044.out; have hnc95 := NB1044_1074.out; have hnb96 := NB1074_1049.out; have hnc96 := NB1049_1074.out; have hnb97 := NB1074_1054.out; have hnc97 := NB1054_1074.out; have hnb98 := NB1074_1059.out; have hnc98 := NB1059_1074.out; have hnb99 := NB1074_1064.out; have hnc99 := NB1064_1074.out; have hnb100 := NB1074_1069.out; have hnc100 := NB1069_1074.out; obtain ⟨hcz101_0, hcz101_1, hcz101_2, hfz101_0, hfz101_1, hfz101_2⟩ := z3 BK1074; obtain ⟨hcz102_0, hcz102_1, hcz102_2, hfz102_0, hfz102_1, hfz102_2⟩ := z3 BK1037; obtain ⟨hcz103_0, hcz103_1, hcz103_2, hfz103_0, hfz103_1, hfz103_2⟩ := z3 BK1039) | ((with_reducible refine gate_callee (f := 26) rfl ?_); refine goesL_ (some 81) rfl rfl Try.func26 (by kernel_rfl) rfl #[.agg #[.bool t1028, .string t1029, .string t1030], .agg #[.bool t1034, .string t1035, .string t1036]] rfl ga ?_; (with_reducible refine (ratio_Mul.calls k t1028 t1029 t1030 t1034 t1035 t1036 t1075 t1076 t1077 t1078 _ A14.out).mono ?_); rintro e w104 ⟨rfl, hb⟩; refine ⟨_, rfl, ?_⟩; replace BK1037 := bb BK1037 hb; replace BK1038 := bb BK1038 hb; replace BK1039 := bb BK1039 hb; replace BK1044 := bb BK1044 hb; replace BK1049 := bb BK1049 hb; replace BK1054 := bb BK1054 hb; replace BK1059 := bb BK1059 hb; replace BK1064 := bb BK1064 hb; replace BK1069 := bb BK1069 hb; replace BK1074 := bq BK1074 #[.bool t1070, .string t1071, .string t1072] hb; replace HB := hs HB hb; (try clear hb)) | ((with_reducible refine gate_dst (N := 24) rfl ?_); refine be (N := 24) (cs := #[.bool false, .string (⟨#[]⟩ : ByteArray), .string (⟨#[]⟩ : ByteArray)]) (t := 35) ?_; intro gb1079 hg w105 hbox hb; have BK1079 := Aside0.mk (hbox); have GW1079 := gw HB hg; have GE1079 := GW1079; replace HB := hs HB hb; have NB1037_1079 := na BK1037 hg; have NB1079_1037 := nz NB1037_1079; replace BK1037 := bb BK1037 hb; have NB1038_1079 := na BK1038 hg; have NB1079_1038 := nz NB1038_1079; replace BK1038 := bb BK1038 hb; have NB1039_1079 := na BK1039 hg; have NB1079_1039 := nz NB1039_1079; replace BK1039 := bb BK1039 hb; have NB1044_1079 := na BK1044 hg; have NB1079_1044 := nz NB1044_1079; replace BK1044 := bb BK1044 hb; have NB1049_1079 := na BK1049 hg; have NB1079_1049 := nz NB1049_1079; replace BK1049 := bb BK1049 hb; have NB1054_1079 := na BK1054 hg; have NB1079_1054 := nz NB1054_1079; replace BK1054 := bb BK1054 hb; have NB1059_1079 := na BK1059 hg; have NB1079_1059 := nz NB1059_1079; replace BK1059 := bb BK1059 hb; have NB1064_1079 := na BK1064 hg; have NB1079_1064 := nz NB1064_1079; replace BK1064 := bb BK1064 hb; have NB1069_1079 := na BK1069 hg; have NB1079_1069 := nz NB1069_1079; replace BK1069 := bb BK1069 hb; have NB1074_1079 := na BK1074 hg; have NB1079_1074 := nz NB1074_1079; replace BK1074 := bb BK1074 hb; clear hb hbox hg; have hnb106 := NB1079_1037.out; have hnc106 := NB1037_1079.out; have hnb107 := NB1079_1038.out; have hnc107 := NB1038_1079.out; have hnb108 := NB1079_1039.out; have hnc108 := NB1039_1079.out; have hnb109 := NB1079_1044.out; have hnc109 := NB1044_1079.out; have hnb110 := NB1079_1049.out; have hnc110 := NB1049_1079.out; have hnb111 := NB1079_1054.out; have hnc111 := NB1054_1079.out; have hnb112 := NB1079_1059.out; have hnc112 := NB1059_1079.out; have hnb113 := NB1079_1064.out; have hnc113 := NB1064_1079.out; have hnb114 := NB1079_1069.out; have hnc114 := NB1069_1079.out; have hnb115 := NB1079_1074.out; have hnc115 := NB1074_1079.out; obtain ⟨hcz116_0, hcz116_1, hcz116_2, hfz116_0, hfz116_1, hfz116_2⟩ := z3 BK1079; obtain ⟨hcz117_0, hcz117_1, hcz117_2, hfz117_0, hfz117_1, hfz117_2⟩ := z3 BK1074) | ((with_reducible refine gate_callee (f := 42) rfl ?_); refine goesL_ (some 87) rfl rfl Try.func42 (by kernel_rfl) rfl #[.agg #[.bool t1070, .string t1071, .string t1072], .agg #[.bool t1075, .string t1076, .string t1077]] rfl ga ?_; (with_reducible refine (ratio_Add.calls k t1070 t1071 t1072 t1075 t1076 t1077 t1080 t1081 t1082 t1083 _ A15.out).mono ?_); rintro e w118 ⟨rfl, hb⟩; refine ⟨_, rfl, ?_⟩; replace BK1037 := bb BK1037 hb; replace BK1038 := bb BK1038 hb; replace BK1039 := bb BK1039 hb; replace BK1044 := bb BK1044 hb; replace BK1049 := bb BK1049 hb; replace BK1054 := bb BK1054 hb; replace BK1059 := bb BK1059 hb; replace BK1064 := bb BK1064 hb; replace BK1069 := bb BK1069 hb; replace BK1074 := bb BK1074 hb; replace BK1079 := bq BK1079 #[.bool t1075, .string t1076, .string t1077] hb; replace HB := hs HB hb; (try clear hb)) | ((with_reducible refine gate_dst (N := 26) rfl ?_); refine be (N := 26) (cs := #[.bool false, .string (⟨#[]⟩ : ByteArray), .string (⟨#[]⟩ : ByteArray)]) (t := 35) ?_; intro gb1084 hg w119 hbox hb; have BK1084 := Aside0.mk (hbox); have GW1084 := gw HB hg; have GE1084 := GW1084; replace HB := hs HB hb; have NB1037_1084 := na BK1037 hg; have NB1084_1037 := nz NB1037_1084; replace BK1037 := bb BK1037 hb; have NB1038_1084 := na BK1038 hg; have NB1084_1038 := nz NB1038_1084; replace BK1038 := bb BK1038 hb; have NB1039_1084 := na BK1039 hg; have NB1084_1039 := nz NB1039_1084; replace BK1039 := bb BK1039 hb; have NB1044_1084 := na BK1044 hg; have NB1084_1044 := nz NB1044_1084; replace BK1044 := bb BK1044 hb; have NB1049_1084 := na BK1049 hg; have NB1084_1049 := nz NB1049_1084; replace BK1049 := bb BK1049 hb; have NB1054_1084 := na BK1054 hg; have NB1084_1054 := nz NB1054_1084; replace BK1054 := bb BK1054 hb; have NB1059_1084 := na BK1059 hg; have NB1084_1059 := nz NB1059_1084; replace BK1059 := bb BK1059 hb; have NB1064_1084 := na BK1064 hg; have NB1084_1064 := nz NB1064_1084; replace BK1064 := bb BK1064 hb; have NB1069_1084 := na BK1069 hg; have NB1084_1069 := nz NB1069_1084; replace BK1069 := bb BK1069 hb; have NB1074_1084 := na BK1074 hg; have NB1084_1074 := nz NB1074_1084; replace BK1074 := bb BK1074 hb; have NB1079_1084 := na BK1079 hg; have NB1084_1079 := nz NB1079_1084; replace BK1079 := bb BK1079 hb; clear hb hbox hg; have hnb120 := NB1084_1037.out; have hnc120 := NB1037_1084.out; have hnb121 := NB1084_1038.out; have hnc121 := NB1038_1084.out; have hnb122 := NB1084_1039.out; have hnc122 := NB1039_1084.out; have hnb123 := NB1084_1044.out; have hnc123 := NB1044_1084.out; have hnb124 := NB1084_1049.out; have hnc124 := NB1049_1084.out; have hnb125 := NB1084_1054.out; have hnc125 := NB1054_1084.out; have hnb126 := NB1084_1059.out; have hnc126 := NB1059_1084.out; have hnb127 := NB1084_1064.out; have hnc127 := NB1064_1084.out; have hnb128 := NB1084_1069.out; have hnc128 := NB1069_1084.out; have hnb129 := NB1084_1074.out; have hnc129 := NB1074_1084.out; have hnb130 := NB1084_1079.out; have hnc130 := NB1079_1084.out; obtain ⟨hcz131_0, hcz131_1, hcz131_2, hfz131_0, hfz131_1, hfz131_2⟩ := z3 BK1084) | ((with_reducible refine gate_dst (N := 99) rfl ?_); refine Kd.R_lit (Kd.int .i64) _ 24 ?hg (N := 99) ?hd (xs := ([t1043, t1048, t1053, t1058, t1063, t1068, t1073, t1078, t1083] : List Int)) (inner := [.int .i64 t1043, .int .i64 t1048, .int .i64 t1053, .int .i64 t1058, .int .i64 t1063, .int .i64 t1068, .int .i64 t1073, .int .i64 t1078, .int .i64 t1083]) (ok := fun _ => True) (okp := fun _ => True) ?hr ?hp (fun _ hk => hk) trivial (Below.refl _ _) (Nat.le_refl _) (by simp) ?_; (case hd => rfl); (case hg => rfl); (case hr => first | (go_simp; done) | (go_simp; rfl)); (case hp => exact (Reps.one (show Kd.M (Kd.int .i64) _ _ _ t1043 [.int .i64 t1043] from rfl) (Reps.one (show Kd.M (Kd.int .i64) _ _ _ t1048 [.int .i64 t1048] from rfl) (Reps.one (show Kd.M (Kd.int .i64) _ _ _ t1053 [.int .i64 t1053] from rfl) (Reps.one (show Kd.M (Kd.int .i64) _ _ _ t1058 [.int .i64 t1058] from rfl) (Reps.one (show Kd.M (Kd.int .i64) _ _ _ t1063 [.int .i64 t1063] from rfl) (Reps.one (show Kd.M (Kd.int .i64) _ _ _ t1068 [.int .i64 t1068] from rfl) (Reps.one (show Kd.M (Kd.int .i64) _ _ _ t1073 [.int .i64 t1073] from rfl) (Reps.one (show Kd.M (Kd.int .i64) _ _ _ t1078 [.int .i64 t1078] from rfl) (Reps.one (show Kd.M (Kd.int .i64) _ _ _ t1083 [.int .i64 t1083] from rfl) (Reps.none _ _))))))))))); intro v1086 w132 ho133 hb hg_ hnew_; clear hg_ hnew_; (first | rw [← Ny1085.out] at ho133 | (simp only [Int.reduceToNat] at ho133; rw [← Ny1085.out] at ho133)); have HO1087 := Aside0.mk (Kd.R_lower ho133 (below_size bs)); replace BK1037 := bb BK1037 hb; replace BK1038 := bb BK1038 hb; replace BK1039 := bb BK1039 hb; replace BK1044 := bb BK1044 hb; replace BK1049 := bb BK1049 hb; replace BK1054 := bb BK1054 hb; replace BK1059 := bb BK1059 hb; replace BK1064 := bb BK1064 hb; replace BK1069 := bb BK1069 hb; replace BK1074 := bb BK1074 hb; replace BK1079 := bb BK1079 hb; replace BK1084 := bq BK1084 #[.bool t1080, .string t1081, .string t1082] hb; replace HB := hs HB hb; clear hb ho133; obtain ⟨Ao134, co134, eo134⟩ := Kd.R_slice HO1087.out; subst eo134))
 go_loopg [101] k (fun kq v101 w' => ∃ (x101_1 : Int), v101 = .int .i64 x101_1 ∧ Aside0 (corporalaw36_RatioField.l0 kq y1085 (y1085.length : Int) x101_1 t1040 t1041 t1042 t1045 t1046 t1047 t1050 t1051 t1052 t1060 t1061 t1062 t1065 t1066 t1067 t1080 t1081 t1082 = some r) ∧ Aside0 (kq ≤ k) ∧ Aside0 (Kd.R (Kd.int .i64) 24 w' w.heap.size (fun _ => True) (.slice Ao134 y1085.length co134) y1085) ∧ Aside0 (w'.heap[gb1037]? = some (.cells #[.bool t1028, .string t1029, .string t1030] 35 (0, 0))) ∧ Aside0 (w'.heap[gb1038]? = some (.cells #[.bool t1031, .string t1032, .string t1033] 35 (0, 0))) ∧ Aside0 (w'.heap[gb1039]? = some (.cells #[.bool t1034, .string t1035, .string t1036] 35 (0, 0))) ∧ Aside0 (w'.heap[gb1044]? = some (.cells #[.bool t1040, .string t1041, .string t1042] 35 (0, 0))) ∧ Aside0 (w'.heap[gb1049]? = some (.cells #[.bool t1045, .string t1046, .string t1047] 35 (0, 0))) ∧ Aside0 (w'.heap[gb1054]? = some (.cells #[.bool t1050, .string t1051, .string t1052] 35 (0, 0))) ∧ Aside0 (w'.heap[gb1059]? = some (.cells #[.bool t1055, .string t1056, .string t1057] 35 (0, 0))) ∧ Aside0 (w'.heap[gb1064]? = some (.cells #[.bool t1060, .string t1061, .string t1062] 35 (0, 0))) ∧ Aside0 (w'.heap[gb1069]? = some (.cells #[.bool t1065, .string t1066, .string t1067] 35 (0, 0))) ∧ Aside0 (w'.heap[gb1074]? = some (.cells #[.bool t1070, .string t1071, .string t1072] 35 (0, 0))) ∧ Aside0 (w'.heap[gb1079]? = some (.cells #[.bool t1075, .string t1076, .string t1077] 35 (0, 0))) ∧ Aside0 (w'.heap[gb1084]? = some (.cells #[.bool t1080, .string t1081, .string t1082] 35 (0, 0))) ∧ Aside0 (Below w.heap.size w w'))
 case atStart => exact ⟨(0), sv, H', ⟨Nat.le_refl _⟩, ⟨by exact rl HO1087⟩, ⟨bk⟩, ⟨bk⟩, ⟨bk⟩, ⟨bk⟩, ⟨bk⟩, ⟨bk⟩, ⟨bk⟩, ⟨bk⟩, ⟨bk⟩, ⟨bk⟩, ⟨bk⟩, ⟨bk⟩, ⟨bs⟩⟩
 case round =>
  clear H'
  try clear c1
  try clear c2
  try clear hcz101_0
  try clear hcz101_1
  try clear hcz101_2
  try clear hcz102_0
  try clear hcz102_1
  try clear hcz102_2
  try clear hcz103_0
  try clear hcz103_1
  try clear hcz103_2
  try clear hcz116_0
  try clear hcz116_1
  try clear hcz116_2
  try clear hcz117_0
  try clear hcz117_1
  try clear hcz117_2
  try clear hcz131_0
  try clear hcz131_1
  try clear hcz131_2
  try clear hcz24_0
  try clear hcz24_1
  try clear hcz24_2
  try clear hcz26_0
  try clear hcz26_1
  try clear hcz26_2
  try clear hcz27_0
  try clear hcz27_1
  try clear hcz27_2
  try clear hcz33_0
  try clear hcz33_1
  try clear hcz33_2
  try clear hcz34_0
  try clear hcz34_1
  try clear hcz34_2
  try clear hcz35_0
  try clear hcz35_1
  try clear hcz35_2
  try clear hcz42_0
  try clear hcz42_1
  try clear hcz42_2
  try clear hcz43_0
  try clear hcz43_1
  try clear hcz43_2
  try clear hcz44_0
  try clear hcz44_1
  try clear hcz44_2
  try clear hcz52_0
  try clear hcz52_1
  try clear hcz52_2
  try clear hcz53_0
  try clear hcz53_1
  try clear hcz53_2
  try clear hcz54_0
  try clear hcz54_1
  try clear hcz54_2
  try clear hcz63_0
  try clear hcz63_1
  try clear hcz63_2
  try clear hcz64_0
  try clear hcz64_1
  try clear hcz64_2
  try clear hcz74_0
  try clear hcz74_1
  try clear hcz74_2
  try clear hcz75_0
  try clear hcz75_1
  try clear hcz75_2
  try clear hcz76_0
  try clear hcz76_1
  try clear hcz76_2
  try clear hcz87_0
  try clear hcz87_1
  try clear hcz87_2
  try clear hcz88_0
  try clear hcz88_1
  try clear hcz88_2
  try clear hcz89_0
  try clear hcz89_1
  try clear hcz89_2
  try clear hfz101_0
  try clear hfz101_1
  try clear hfz101_2
  try clear hfz102_0
  try clear hfz102_1
  try clear hfz102_2
  try clear hfz103_0
  try clear hfz103_1
  try clear hfz103_2
  try clear hfz116_0
  try clear hfz116_1
  try clear hfz116_2
  try clear hfz117_0
  try clear hfz117_1
  try clear hfz117_2
  try clear hfz131_0
  try clear hfz131_1
  try clear hfz131_2
  try clear hfz24_0
  try clear hfz24_1
  try clear hfz24_2
  try clear hfz26_0
  try clear hfz26_1
  try clear hfz26_2
  try clear hfz27_0
  try clear hfz27_1
  try clear hfz27_2
  try clear hfz33_0
  try clear hfz33_1
  try clear hfz33_2
  try clear hfz34_0
  try clear hfz34_1
  try clear hfz34_2
  try clear hfz35_0
  try clear hfz35_1
  try clear hfz35_2
  try clear hfz42_0
  try clear hfz42_1
  try clear hfz42_2
  try clear hfz43_0
  try clear hfz43_1
  try clear hfz43_2
  try clear hfz44_0
  try clear hfz44_1
  try clear hfz44_2
  try clear hfz52_0
  try clear hfz52_1
  try clear hfz52_2
  try clear hfz53_0
  try clear hfz53_1
  try clear hfz53_2
  try clear hfz54_0
  try clear hfz54_1
  try clear hfz54_2
  try clear hfz63_0
  try clear hfz63_1
  try clear hfz63_2
  try clear hfz64_0
  try clear hfz64_1
  try clear hfz64_2
  try clear hfz74_0
  try clear hfz74_1
  try clear hfz74_2
  try clear hfz75_0
  try clear hfz75_1
  try clear hfz75_2
  try clear hfz76_0
  try clear hfz76_1
  try clear hfz76_2
  try clear hfz87_0
  try clear hfz87_1
  try clear hfz87_2
  try clear hfz88_0
  try clear hfz88_1
  try clear hfz88_2
  try clear hfz89_0
  try clear hfz89_1
  try clear hfz89_2
  obtain ⟨x101_1, rfl, HA, HK1, HO_99, BK1037, BK1038, BK1039, BK1044, BK1049, BK1054, BK1059, BK1064, BK1069, BK1074, BK1079, BK1084, HB⟩ := hrel
  cases gk with
  | zero => exact absurd HA.out (by simp [corporalaw36_RatioField.l0])
  | succ k1 =>
   have H := HA.out
   clear HA
   simp only [corporalaw36_RatioField.l0] at H
   by_cases c135 : x101_1 < (y1085.length : Int)
   ·rw [if_pos c135] at H
    have c135b0 : decide (x101_1 < (y1085.length : Int)) = true := decide_eq_true c135
    clear c135
    by_cases c136 : 0 ≤ x101_1
    ·rw [if_pos c136] at H
     have c136b0 : decide (0 ≤ x101_1) = true := decide_eq_true c136
     clear c136
     by_cases c137 : x101_1 < (y1085.length : Int)
     ·rw [if_pos c137] at H
      have c137b0 : decide (x101_1 < (y1085.length : Int)) = true := decide_eq_true c137
      clear c137
      by_cases c138 : (rd y1085 x101_1) = 0
      ·rw [if_pos c138] at H
       have c138b0 : ((rd y1085 x101_1) == 0) = true := beq_iff_eq.mpr c138
       have c138b1 : ((rd y1085 x101_1) != 0) = false := bne_eq_false_iff_eq.mpr c138
       clear c138
       have H' := Aside0.mk H
       clear H
       have p1088 : 0 ≤ (x101_1 : Int) := dt
       have q1088 : x101_1 < (y1085.length : Int) := dt
       obtain ⟨ad1088, e1088, hx1088_0⟩ := Kd.at_int (Kd.R_reads' HO_99.out).2.2 x101_1 p1088 q1088
       cases e1088
       replace p1088 := eq_true p1088
       replace q1088 := eq_true q1088
       go_wp2
       go_roundg k1
       case measure => have := HK1.out; omega
       case rel => exact ⟨(wrap64 (x101_1 + 1)), sv, H', ⟨by have := HK1.out; omega⟩, ⟨by exact rl HO_99⟩, ⟨bk⟩, ⟨bk⟩, ⟨bk⟩, ⟨bk⟩, ⟨bk⟩, ⟨bk⟩, ⟨bk⟩, ⟨bk⟩, ⟨bk⟩, ⟨bk⟩, ⟨bk⟩, ⟨bk⟩, ⟨bs⟩⟩
      ·rw [if_neg c138] at H
       have c138b0 : ((rd y1085 x101_1) == 0) = false := beq_eq_false_iff_ne.mpr c138
       have c138b1 : ((rd y1085 x101_1) != 0) = true := bne_iff_ne.mpr c138
       obtain rfl := Option.some.inj H
       have p1088 : 0 ≤ (x101_1 : Int) := dt
       have q1088 : x101_1 < (y1085.length : Int) := dt
       obtain ⟨ad1088, e1088, hx1088_0⟩ := Kd.at_int (Kd.R_reads' HO_99.out).2.2 x101_1 p1088 q1088
       cases e1088
       replace p1088 := eq_true p1088
       replace q1088 := eq_true q1088
       go_wp2
       go_ret
       exact ⟨by first | rfl | (simp [errW_none, errW_some] <;> rfl) | (simp [*, errW_none, errW_some] <;> rfl), bs⟩
     ·rw [if_neg c137] at H
      exact absurd H (by simp)
    ·rw [if_neg c136] at H
     exact absurd H (by simp)
   ·rw [if_neg c135] at H
    have c135b0 : decide (x101_1 < (y1085.length : Int)) = false := decide_eq_false c135
    clear c135
    by_cases c139 : (t1040 == t1045 && (t1041.toList == t1046.toList && (t1042.toList == t1047.toList))) = true
    ·rw [if_pos c139] at H
     have c139b0 : (t1040 == t1045 && (t1041.toList == t1046.toList && (t1042.toList == t1047.toList))) = true := c139
     (try (have c139b1 : decide (t1040 = t1045 && (t1041.toList == t1046.toList && (t1042.toList == t1047.toList))) = true := by simpa using c139))
     (try (have c139b2 : (t1040 == t1045 && (t1041.toList == t1046.toList && (t1042.toList == t1047.toList))) = true := by simpa using c139))
     clear c139
     by_cases c140 : (t1050 == t1060 && (t1051.toList == t1061.toList && (t1052.toList == t1062.toList))) = true
     ·rw [if_pos c140] at H
      have c140b0 : (t1050 == t1060 && (t1051.toList == t1061.toList && (t1052.toList == t1062.toList))) = true := c140
      (try (have c140b1 : decide (t1050 = t1060 && (t1051.toList == t1061.toList && (t1052.toList == t1062.toList))) = true := by simpa using c140))
      (try (have c140b2 : (t1050 == t1060 && (t1051.toList == t1061.toList && (t1052.toList == t1062.toList))) = true := by simpa using c140))
      clear c140
      by_cases c141 : (t1065 == t1080 && (t1066.toList == t1081.toList && (t1067.toList == t1082.toList))) = true
      ·rw [if_pos c141] at H
       have c141b0 : (t1065 == t1080 && (t1066.toList == t1081.toList && (t1067.toList == t1082.toList))) = true := c141
       (try (have c141b1 : decide (t1065 = t1080 && (t1066.toList == t1081.toList && (t1067.toList == t1082.toList))) = true := by simpa using c141))
       (try (have c141b2 : (t1065 == t1080 && (t1066.toList == t1081.toList && (t1067.toList == t1082.toList))) = true := by simpa using c141))
       clear c141
       replace H := Option.bind_eq_some_iff.mp H
       obtain ⟨t1089, A1420, H⟩ := H
       replace H : (some t1089) = some r := H
       have A142 := Aside0.mk A1420
       clear A1420
       obtain rfl := Option.some.inj H
       have hnb143 := NB1044_1037.out
       have hnc143 := NB1037_1044.out
       have hnb144 := NB1044_1038.out
       have hnc144 := NB1038_1044.out
       have hnb145 := NB1044_1039.out
       have hnc145 := NB1039_1044.out
       have hnb146 := NB1044_1049.out
       have hnc146 := NB1049_1044.out
       have hnb147 := NB1044_1054.out
       have hnc147 := NB1054_1044.out
       have hnb148 := NB1044_1059.out
       have hnc148 := NB1059_1044.out
       have hnb149 := NB1044_1064.out
       have hnc149 := NB1064_1044.out
       have hnb150 := NB1044_1069.out
       have hnc150 := NB1069_1044.out
       have hnb151 := NB1044_1074.out
       have hnc151 := NB1074_1044.out
       have hnb152 := NB1044_1079.out
       have hnc152 := NB1079_1044.out
       have hnb153 := NB1044_1084.out
       have hnc153 := NB1084_1044.out
       obtain ⟨hcz154_0, hcz154_1, hcz154_2, hfz154_0, hfz154_1, hfz154_2⟩ := z3 BK1044
       have hnb155 := NB1049_1037.out
       have hnc155 := NB1037_1049.out
       have hnb156 := NB1049_1038.out
       have hnc156 := NB1038_1049.out
       have hnb157 := NB1049_1039.out
       have hnc157 := NB1039_1049.out
       have hnb158 := NB1049_1054.out
       have hnc158 := NB1054_1049.out
       have hnb159 := NB1049_1059.out
       have hnc159 := NB1059_1049.out
       have hnb160 := NB1049_1064.out
       have hnc160 := NB1064_1049.out
       have hnb161 := NB1049_1069.out
       have hnc161 := NB1069_1049.out
       have hnb162 := NB1049_1074.out
       have hnc162 := NB1074_1049.out
       have hnb163 := NB1049_1079.out
       have hnc163 := NB1079_1049.out
       have hnb164 := NB1049_1084.out
       have hnc164 := NB1084_1049.out
       obtain ⟨hcz165_0, hcz165_1, hcz165_2, hfz165_0, hfz165_1, hfz165_2⟩ := z3 BK1049
       have hnb166 := NB1054_1037.out
       have hnc166 := NB1037_1054.out
       have hnb167 := NB1054_1038.out
       have hnc167 := NB1038_1054.out
       have hnb168 := NB1054_1039.out
       have hnc168 := NB1039_1054.out
       have hnb169 := NB1054_1059.out
       have hnc169 := NB1059_1054.out
       have hnb170 := NB1054_1064.out
       have hnc170 := NB1064_1054.out
       have hnb171 := NB1054_1069.out
       have hnc171 := NB1069_1054.out
       have hnb172 := NB1054_1074.out
       have hnc172 := NB1074_1054.out
       have hnb173 := NB1054_1079.out
       have hnc173 := NB1079_1054.out
       have hnb174 := NB1054_1084.out
       have hnc174 := NB1084_1054.out
       obtain ⟨hcz175_0, hcz175_1, hcz175_2, hfz175_0, hfz175_1, hfz175_2⟩ := z3 BK1054
       have hnb176 := NB1064_1037.out
       have hnc176 := NB1037_1064.out
       have hnb177 := NB1064_1038.out
       have hnc177 := NB1038_1064.out
       have hnb178 := NB1064_1039.out
       have hnc178 := NB1039_1064.out
       have hnb179 := NB1064_1059.out
       have hnc179 := NB1059_1064.out
       have hnb180 := NB1064_1069.out
       have hnc180 := NB1069_1064.out
       have hnb181 := NB1064_1074.out
       have hnc181 := NB1074_1064.out
       have hnb182 := NB1064_1079.out
       have hnc182 := NB1079_1064.out
       have hnb183 := NB1064_1084.out
       have hnc183 := NB1084_1064.out
       obtain ⟨hcz184_0, hcz184_1, hcz184_2, hfz184_0, hfz184_1, hfz184_2⟩ := z3 BK1064
       have hnb185 := NB1069_1037.out
       have hnc185 := NB1037_1069.out
       have hnb186 := NB1069_1038.out
       have hnc186 := NB1038_1069.out
       have hnb187 := NB1069_1039.out
       have hnc187 := NB1039_1069.out
       have hnb188 := NB1069_1059.out
       have hnc188 := NB1059_1069.out
       have hnb189 := NB1069_1074.out
       have hnc189 := NB1074_1069.out
       have hnb190 := NB1069_1079.out
       have hnc190 := NB1079_1069.out
       have hnb191 := NB1069_1084.out
       have hnc191 := NB1084_1069.out
       obtain ⟨hcz192_0, hcz192_1, hcz192_2, hfz192_0, hfz192_1, hfz192_2⟩ := z3 BK1069
       have hnb193 := NB1084_1037.out
       have hnc193 := NB1037_1084.out
       have hnb194 := NB1084_1038.out
       have hnc194 := NB1038_1084.out
       have hnb195 := NB1084_1039.out
       have hnc195 := NB1039_1084.out
       have hnb196 := NB1084_1059.out
       have hnc196 := NB1059_1084.out
       have hnb197 := NB1084_1074.out
       have hnc197 := NB1074_1084.out
       have hnb198 := NB1084_1079.out
       have hnc198 := NB1079_1084.out
       obtain ⟨hcz199_0, hcz199_1, hcz199_2, hfz199_0, hfz199_1, hfz199_2⟩ := z3 BK1084
       go_wp2_with (first | (go_at_call 19; (with_reducible refine (corporalaw36_known.calls k1  t1089 _ A142.out).mono ?_); rintro e w200 ⟨rfl, hb⟩; replace HO_99 := Aside0.mk (Kd.R_below (rl HO_99) hb); replace BK1037 := bb BK1037 hb; replace BK1038 := bb BK1038 hb; replace BK1039 := bb BK1039 hb; replace BK1044 := bb BK1044 hb; replace BK1049 := bb BK1049 hb; replace BK1054 := bb BK1054 hb; replace BK1059 := bb BK1059 hb; replace BK1064 := bb BK1064 hb; replace BK1069 := bb BK1069 hb; replace BK1074 := bb BK1074 hb; replace BK1079 := bb BK1079 hb; replace BK1084 := bb BK1084 hb; replace HB := hs HB hb; (try clear hb)))
       go_ret
       exact ⟨by first | rfl | (simp [errW_none, errW_some] <;> rfl) | (simp [*, errW_none, errW_some] <;> rfl), bs⟩
      ·rw [if_neg c141] at H
       have c141b0 : (t1065 == t1080 && (t1066.toList == t1081.toList && (t1067.toList == t1082.toList))) = false := by simpa using c141
       (try (have c141b1 : decide (t1065 = t1080 && (t1066.toList == t1081.toList && (t1067.toList == t1082.toList))) = false := by simpa using c141))
       (try (have c141b2 : (t1065 == t1080 && (t1066.toList == t1081.toList && (t1067.toList == t1082.toList))) = false := by simpa using c141))
       (try (have c141b3 : ¬ (t1065 = t1080 && (t1066.toList == t1081.toList && (t1067.toList == t1082.toList))) := by simpa using c141))
       clear c141
       obtain rfl := Option.some.inj H
       have hnb201 := NB1044_1037.out
       have hnc201 := NB1037_1044.out
       have hnb202 := NB1044_1038.out
       have hnc202 := NB1038_1044.out
       have hnb203 := NB1044_1039.out
       have hnc203 := NB1039_1044.out
       have hnb204 := NB1044_1049.out
       have hnc204 := NB1049_1044.out
       have hnb205 := NB1044_1054.out
       have hnc205 := NB1054_1044.out
       have hnb206 := NB1044_1059.out
       have hnc206 := NB1059_1044.out
       have hnb207 := NB1044_1064.out
       have hnc207 := NB1064_1044.out
       have hnb208 := NB1044_1069.out
       have hnc208 := NB1069_1044.out
       have hnb209 := NB1044_1074.out
       have hnc209 := NB1074_1044.out
       have hnb210 := NB1044_1079.out
       have hnc210 := NB1079_1044.out
       have hnb211 := NB1044_1084.out
       have hnc211 := NB1084_1044.out
       obtain ⟨hcz212_0, hcz212_1, hcz212_2, hfz212_0, hfz212_1, hfz212_2⟩ := z3 BK1044
       have hnb213 := NB1049_1037.out
       have hnc213 := NB1037_1049.out
       have hnb214 := NB1049_1038.out
       have hnc214 := NB1038_1049.out
       have hnb215 := NB1049_1039.out
       have hnc215 := NB1039_1049.out
       have hnb216 := NB1049_1054.out
       have hnc216 := NB1054_1049.out
       have hnb217 := NB1049_1059.out
       have hnc217 := NB1059_1049.out
       have hnb218 := NB1049_1064.out
       have hnc218 := NB1064_1049.out
       have hnb219 := NB1049_1069.out
       have hnc219 := NB1069_1049.out
       have hnb220 := NB1049_1074.out
       have hnc220 := NB1074_1049.out
       have hnb221 := NB1049_1079.out
       have hnc221 := NB1079_1049.out
       have hnb222 := NB1049_1084.out
       have hnc222 := NB1084_1049.out
       obtain ⟨hcz223_0, hcz223_1, hcz223_2, hfz223_0, hfz223_1, hfz223_2⟩ := z3 BK1049
       have hnb224 := NB1054_1037.out
       have hnc224 := NB1037_1054.out
       have hnb225 := NB1054_1038.out
       have hnc225 := NB1038_1054.out
       have hnb226 := NB1054_1039.out
       have hnc226 := NB1039_1054.out
       have hnb227 := NB1054_1059.out
       have hnc227 := NB1059_1054.out
       have hnb228 := NB1054_1064.out
       have hnc228 := NB1064_1054.out
       have hnb229 := NB1054_1069.out
       have hnc229 := NB1069_1054.out
       have hnb230 := NB1054_1074.out
       have hnc230 := NB1074_1054.out
       have hnb231 := NB1054_1079.out
       have hnc231 := NB1079_1054.out
       have hnb232 := NB1054_1084.out
       have hnc232 := NB1084_1054.out
       obtain ⟨hcz233_0, hcz233_1, hcz233_2, hfz233_0, hfz233_1, hfz233_2⟩ := z3 BK1054
       have hnb234 := NB1064_1037.out
       have hnc234 := NB1037_1064.out
       have hnb235 := NB1064_1038.out
       have hnc235 := NB1038_1064.out
       have hnb236 := NB1064_1039.out
       have hnc236 := NB1039_1064.out
       have hnb237 := NB1064_1059.out
       have hnc237 := NB1059_1064.out
       have hnb238 := NB1064_1069.out
       have hnc238 := NB1069_1064.out
       have hnb239 := NB1064_1074.out
       have hnc239 := NB1074_1064.out
       have hnb240 := NB1064_1079.out
       have hnc240 := NB1079_1064.out
       have hnb241 := NB1064_1084.out
       have hnc241 := NB1084_1064.out
       obtain ⟨hcz242_0, hcz242_1, hcz242_2, hfz242_0, hfz242_1, hfz242_2⟩ := z3 BK1064
       have hnb243 := NB1069_1037.out
       have hnc243 := NB1037_1069.out
       have hnb244 := NB1069_1038.out
       have hnc244 := NB1038_1069.out
       have hnb245 := NB1069_1039.out
       have hnc245 := NB1039_1069.out
       have hnb246 := NB1069_1059.out
       have hnc246 := NB1059_1069.out
       have hnb247 := NB1069_1074.out
       have hnc247 := NB1074_1069.out
       have hnb248 := NB1069_1079.out
       have hnc248 := NB1079_1069.out
       have hnb249 := NB1069_1084.out
       have hnc249 := NB1084_1069.out
       obtain ⟨hcz250_0, hcz250_1, hcz250_2, hfz250_0, hfz250_1, hfz250_2⟩ := z3 BK1069
       have hnb251 := NB1084_1037.out
       have hnc251 := NB1037_1084.out
       have hnb252 := NB1084_1038.out
       have hnc252 := NB1038_1084.out
       have hnb253 := NB1084_1039.out
       have hnc253 := NB1039_1084.out
       have hnb254 := NB1084_1059.out
       have hnc254 := NB1059_1084.out
       have hnb255 := NB1084_1074.out
       have hnc255 := NB1074_1084.out
       have hnb256 := NB1084_1079.out
       have hnc256 := NB1079_1084.out
       obtain ⟨hcz257_0, hcz257_1, hcz257_2, hfz257_0, hfz257_1, hfz257_2⟩ := z3 BK1084
       go_wp2
       go_ret
       exact ⟨by first | rfl | (simp [errW_none, errW_some] <;> rfl) | (simp [*, errW_none, errW_some] <;> rfl), bs⟩
     ·rw [if_neg c140] at H
      have c140b0 : (t1050 == t1060 && (t1051.toList == t1061.toList && (t1052.toList == t1062.toList))) = false := by simpa using c140
      (try (have c140b1 : decide (t1050 = t1060 && (t1051.toList == t1061.toList && (t1052.toList == t1062.toList))) = false := by simpa using c140))
      (try (have c140b2 : (t1050 == t1060 && (t1051.toList == t1061.toList && (t1052.toList == t1062.toList))) = false := by simpa using c140))
      (try (have c140b3 : ¬ (t1050 = t1060 && (t1051.toList == t1061.toList && (t1052.toList == t1062.toList))) := by simpa using c140))
      clear c140
      obtain rfl := Option.some.inj H
      have hnb258 := NB1044_1037.out
      have hnc258 := NB1037_1044.out
      have hnb259 := NB1044_1038.out
      have hnc259 := NB1038_1044.out
      have hnb260 := NB1044_1039.out
      have hnc260 := NB1039_1044.out
      have hnb261 := NB1044_1049.out
      have hnc261 := NB1049_1044.out
      have hnb262 := NB1044_1054.out
      have hnc262 := NB1054_1044.out
      have hnb263 := NB1044_1059.out
      have hnc263 := NB1059_1044.out
      have hnb264 := NB1044_1064.out
      have hnc264 := NB1064_1044.out
      have hnb265 := NB1044_1069.out
      have hnc265 := NB1069_1044.out
      have hnb266 := NB1044_1074.out
      have hnc266 := NB1074_1044.out
      have hnb267 := NB1044_1079.out
      have hnc267 := NB1079_1044.out
      have hnb268 := NB1044_1084.out
      have hnc268 := NB1084_1044.out
      obtain ⟨hcz269_0, hcz269_1, hcz269_2, hfz269_0, hfz269_1, hfz269_2⟩ := z3 BK1044
      have hnb270 := NB1049_1037.out
      have hnc270 := NB1037_1049.out
      have hnb271 := NB1049_1038.out
      have hnc271 := NB1038_1049.out
      have hnb272 := NB1049_1039.out
      have hnc272 := NB1039_1049.out
      have hnb273 := NB1049_1054.out
      have hnc273 := NB1054_1049.out
      have hnb274 := NB1049_1059.out
      have hnc274 := NB1059_1049.out
      have hnb275 := NB1049_1064.out
      have hnc275 := NB1064_1049.out
      have hnb276 := NB1049_1069.out
      have hnc276 := NB1069_1049.out
      have hnb277 := NB1049_1074.out
      have hnc277 := NB1074_1049.out
      have hnb278 := NB1049_1079.out
      have hnc278 := NB1079_1049.out
      have hnb279 := NB1049_1084.out
      have hnc279 := NB1084_1049.out
      obtain ⟨hcz280_0, hcz280_1, hcz280_2, hfz280_0, hfz280_1, hfz280_2⟩ := z3 BK1049
      have hnb281 := NB1054_1037.out
      have hnc281 := NB1037_1054.out
      have hnb282 := NB1054_1038.out
      have hnc282 := NB1038_1054.out
      have hnb283 := NB1054_1039.out
      have hnc283 := NB1039_1054.out
      have hnb284 := NB1054_1059.out
      have hnc284 := NB1059_1054.out
      have hnb285 := NB1054_1064.out
      have hnc285 := NB1064_1054.out
      have hnb286 := NB1054_1069.out
      have hnc286 := NB1069_1054.out
      have hnb287 := NB1054_1074.out
      have hnc287 := NB1074_1054.out
      have hnb288 := NB1054_1079.out
      have hnc288 := NB1079_1054.out
      have hnb289 := NB1054_1084.out
      have hnc289 := NB1084_1054.out
      obtain ⟨hcz290_0, hcz290_1, hcz290_2, hfz290_0, hfz290_1, hfz290_2⟩ := z3 BK1054
      have hnb291 := NB1064_1037.out
      have hnc291 := NB1037_1064.out
      have hnb292 := NB1064_1038.out
      have hnc292 := NB1038_1064.out
      have hnb293 := NB1064_1039.out
      have hnc293 := NB1039_1064.out
      have hnb294 := NB1064_1059.out
      have hnc294 := NB1059_1064.out
      have hnb295 := NB1064_1069.out
      have hnc295 := NB1069_1064.out
      have hnb296 := NB1064_1074.out
      have hnc296 := NB1074_1064.out
      have hnb297 := NB1064_1079.out
      have hnc297 := NB1079_1064.out
      have hnb298 := NB1064_1084.out
      have hnc298 := NB1084_1064.out
      obtain ⟨hcz299_0, hcz299_1, hcz299_2, hfz299_0, hfz299_1, hfz299_2⟩ := z3 BK1064
      go_wp2
      go_ret
      exact ⟨by first | rfl | (simp [errW_none, errW_some] <;> rfl) | (simp [*, errW_none, errW_some] <;> rfl), bs⟩
    ·rw [if_neg c139] at H
     have c139b0 : (t1040 == t1045 && (t1041.toList == t1046.toList && (t1042.toList == t1047.toList))) = false := by simpa using c139
     (try (have c139b1 : decide (t1040 = t1045 && (t1041.toList == t1046.toList && (t1042.toList == t1047.toList))) = false := by simpa using c139))
     (try (have c139b2 : (t1040 == t1045 && (t1041.toList == t1046.toList && (t1042.toList == t1047.toList))) = false := by simpa using c139))
     (try (have c139b3 : ¬ (t1040 = t1045 && (t1041.toList == t1046.toList && (t1042.toList == t1047.toList))) := by simpa using c139))
     clear c139
     obtain rfl := Option.some.inj H
     have hnb300 := NB1044_1037.out
     have hnc300 := NB1037_1044.out
     have hnb301 := NB1044_1038.out
     have hnc301 := NB1038_1044.out
     have hnb302 := NB1044_1039.out
     have hnc302 := NB1039_1044.out
     have hnb303 := NB1044_1049.out
     have hnc303 := NB1049_1044.out
     have hnb304 := NB1044_1054.out
     have hnc304 := NB1054_1044.out
     have hnb305 := NB1044_1059.out
     have hnc305 := NB1059_1044.out
     have hnb306 := NB1044_1064.out
     have hnc306 := NB1064_1044.out
     have hnb307 := NB1044_1069.out
     have hnc307 := NB1069_1044.out
     have hnb308 := NB1044_1074.out
     have hnc308 := NB1074_1044.out
     have hnb309 := NB1044_1079.out
     have hnc309 := NB1079_1044.out
     have hnb310 := NB1044_1084.out
     have hnc310 := NB1084_1044.out
     obtain ⟨hcz311_0, hcz311_1, hcz311_2, hfz311_0, hfz311_1, hfz311_2⟩ := z3 BK1044
     have hnb312 := NB1049_1037.out
     have hnc312 := NB1037_1049.out
     have hnb313 := NB1049_1038.out
     have hnc313 := NB1038_1049.out
     have hnb314 := NB1049_1039.out
     have hnc314 := NB1039_1049.out
     have hnb315 := NB1049_1054.out
     have hnc315 := NB1054_1049.out
     have hnb316 := NB1049_1059.out
     have hnc316 := NB1059_1049.out
     have hnb317 := NB1049_1064.out
     have hnc317 := NB1064_1049.out
     have hnb318 := NB1049_1069.out
     have hnc318 := NB1069_1049.out
     have hnb319 := NB1049_1074.out
     have hnc319 := NB1074_1049.out
     have hnb320 := NB1049_1079.out
     have hnc320 := NB1079_1049.out
     have hnb321 := NB1049_1084.out
     have hnc321 := NB1084_1049.out
     obtain ⟨hcz322_0, hcz322_1, hcz322_2, hfz322_0, hfz322_1, hfz322_2⟩ := z3 BK1049
     go_wp2
     go_ret
     exact ⟨by first | rfl | (simp [errW_none, errW_some] <;> rfl) | (simp [*, errW_none, errW_some] <;> rfl), bs⟩
theorem corporalaw36_RatioField.walk (P : corporalaw36_RatioField.Pure) (a0 : Option Addr) (len0 cap0 : Nat) (z0 : List Int) (a1 : Option Addr) (len1 cap1 : Nat) (z1 : List Int) (a2 : Option Addr) (len2 cap2 : Nat) (z2 : List Int) (w : World) (w0 : (a0 = none ∧ len0 = 0 ∧ cap0 = 0 ∧ z0 = []) ∨ ∃ x, a0 = some x ∧ len0 ≤ cap0 ∧ cap0 ≤ maxLen ∧ z0.length = cap0 ∧ (∀ i, i < z0.length → w.cell? (x.add i) = some (.int .i64 (z0.getD i 0))) ∧ ∀ n ∈ z0, (Lit.int .i64 n).wf = true) (y0 : len0 * 8 ≤ 140737488351232) (w1 : (a1 = none ∧ len1 = 0 ∧ cap1 = 0 ∧ z1 = []) ∨ ∃ x, a1 = some x ∧ len1 ≤ cap1 ∧ cap1 ≤ maxLen ∧ z1.length = cap1 ∧ (∀ i, i < z1.length → w.cell? (x.add i) = some (.int .i64 (z1.getD i 0))) ∧ ∀ n ∈ z1, (Lit.int .i64 n).wf = true) (y1 : len1 * 8 ≤ 140737488351232) (w2 : (a2 = none ∧ len2 = 0 ∧ cap2 = 0 ∧ z2 = []) ∨ ∃ x, a2 = some x ∧ len2 ≤ cap2 ∧ cap2 ≤ maxLen ∧ z2.length = cap2 ∧ (∀ i, i < z2.length → w.cell? (x.add i) = some (.int .i64 (z2.getD i 0))) ∧ ∀ n ∈ z2, (Lit.int .i64 n).wf = true) (y2 : len2 * 8 ≤ 140737488351232) :
  Calls Try.prog 8 #[.slice a0 len0 cap0, .slice a1 len1 cap1, .slice a2 len2 cap2] w fun e w' => e = .returned (.bool true) ∧ Below w.heap.size w w' := by
 obtain ⟨l0, rfl, hr0, hm0, hw0, hc0⟩ := ReadsInt.ofRowC w0
 obtain ⟨l1, rfl, hr1, hm1, hw1, hc1⟩ := ReadsInt.ofRowC w1
 obtain ⟨l2, rfl, hr2, hm2, hw2, hc2⟩ := ReadsInt.ofRowC w2
 obtain ⟨k, h⟩ := P l0 l1 l2 hm0 y0 hw0 hm1 y1 hw1 hm2 y2 hw2
 refine (corporalaw36_RatioField.calls k _ _ l0 _ _ l1 _ _ l2 true w (Kd.C_of_reads (d := (0 : Int)) (h1 := fun _ => rfl) hr0) hc0 (Kd.C_of_reads (d := (0 : Int)) (h1 := fun _ => rfl) hr1) hc1 (Kd.C_of_reads (d := (0 : Int)) (h1 := fun _ => rfl) hr2) hc2 h).mono ?_
 rintro e w' ⟨rfl, hd⟩
 exact ⟨rfl, hd⟩
end Go.Proofs.Ytccgfmjcldifcaa.P
