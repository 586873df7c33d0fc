/- What each Go function computes, as plain Lean functions, and the walks that show it; each theorem's conditions stand in it. -/
import Derived.Test.YtccgfmjcldifcaaT
import Derived.Test.YtccgfmjcldifcaaCIsRatio
import Derived.Test.YtccgfmjcldifcaaCKnown
import Derived.Test.YtccgfmjcldifcaaCRaAdd
import Derived.Test.YtccgfmjcldifcaaCRaMul
import Derived.Test.YtccgfmjcldifcaaCRaQuo
import Derived.Test.YtccgfmjcldifcaaCSome36
import Derived.Test.YtccgfmjcldifcaaDA
import Derived.Test.YtccgfmjcldifcaaDB
import Derived.Test.YtccgfmjcldifcaaDE
import Derived.Test.YtccgfmjcldifcaaDLRatioInverse
namespace Go.Proofs.Ytccgfmjcldifcaa.P
open Go.RowKit Go.Proofs.YtccgfmjcldifcaaW.PrintWords Go.Proofs.YtccgfmjcldifcaaW.PrintLast Go.Proofs.YtccgfmjcldifcaaW.PrintMore
attribute [local go_sem] max2_int min2_int max_two min_two max_three min_three max_four min_four   -- for this text's walks alone
set_option linter.unusedVariables false
set_option linter.unusedSimpArgs false
attribute [local go_sem high] eqA35
set_option maxHeartbeats 8000000 in
set_option maxRecDepth 100000 in
theorem corporalaw36_RatioInverse.calls (k : Nat) (A0 : Option Addr) (c0 : Nat) (l0 : List Int) (A1 : Option Addr) (c1 : Nat) (l1 : List Int) (r : Bool) (w : World) (hr0 : Kd.C (Kd.int .i64) w A0 l0.length l0) (hc0 : l0.length ≤ c0) (hr1 : Kd.C (Kd.int .i64) w A1 l1.length l1) (hc1 : l1.length ≤ c1) (h : corporalaw36_RatioInverse.f k l0 l1 = some r) :
  Calls Try.prog 9 #[.slice A0 l0.length c0, .slice A1 l1.length c1] w fun e w' => e = .returned (.bool r) ∧ Below w.heap.size w w' := by
 have hu35 := Try.underlying35
 have HR0 := Aside0.mk hr0
 have HC0 := Aside0.mk hc0
 clear hr0 hc0
 have HR1 := Aside0.mk hr1
 have HC1 := Aside0.mk hc1
 clear hr1 hc1
 have HB := Aside0.mk (Below.refl w.heap.size w)
 have H : Option.bind (corporalaw36_some.f k l0) _ = _ := h
 clear h
 replace H := Option.bind_eq_some_iff.mp H
 obtain ⟨⟨t1115, t1116, t1117⟩, A30, H⟩ := H
 replace H : Option.bind (corporalaw36_some.f k l1) _ = _ := H
 have A3 := Aside0.mk A30
 clear A30
 replace H := Option.bind_eq_some_iff.mp H
 obtain ⟨⟨t1118, t1119, t1120⟩, A40, H⟩ := H
 replace H : Option.bind (ratio_Sub.f k t1115 t1116 t1117 t1118 t1119 t1120) _ = _ := H
 have A4 := Aside0.mk A40
 clear A40
 replace H := Option.bind_eq_some_iff.mp H
 obtain ⟨⟨t1123, t1124, t1125, t1126⟩, A50, H⟩ := H
 replace H : Option.bind (ratio_Add.f k t1123 t1124 t1125 t1118 t1119 t1120) _ = _ := H
 have A5 := Aside0.mk A50
 clear A50
 replace H := Option.bind_eq_some_iff.mp H
 obtain ⟨⟨t1128, t1129, t1130, t1131⟩, A60, H⟩ := H
 replace H : Option.bind (ratio_Quo.f k t1115 t1116 t1117 t1118 t1119 t1120) _ = _ := H
 have A6 := Aside0.mk A60
 clear A60
 replace H := Option.bind_eq_some_iff.mp H
 obtain ⟨⟨t1133, t1134, t1135, t1136⟩, A70, H⟩ := H
 replace H : Option.bind (ratio_Mul.f k t1133 t1134 t1135 t1118 t1119 t1120) _ = _ := H
 have A7 := Aside0.mk A70
 clear A70
 replace H := Option.bind_eq_some_iff.mp H
 obtain ⟨⟨t1138, t1139, t1140, t1141⟩, A80, H⟩ := H
 replace H : (if t1126 = 0 then _ else _) = _ := H
 have A8 := Aside0.mk A80
 clear A80
 have HC9 := Aside0.mk H
 clear H
 go_enter Try.func9, Try.ntmps9
 go_upto_region 6 with (first | ((with_reducible refine gate_callee (f := 41) rfl ?_); refine goesL_ (some 16) rfl rfl Try.func41 (by kernel_rfl) rfl #[.slice A0 l0.length c0] rfl ga ?_; (with_reducible refine (corporalaw36_some.calls k _ _ l0 t1115 t1116 t1117 _ ?side1 ?side2 A3.out).mono ?_); (case side1 => exact cl HR0.out); (case side2 => exact HC0.out); rintro e w10 ⟨rfl, hb⟩; refine ⟨_, rfl, ?_⟩; replace HB := hs HB hb; (try clear hb)) | ((with_reducible refine gate_callee (f := 41) rfl ?_); refine goesL_ (some 18) rfl rfl Try.func41 (by kernel_rfl) rfl #[.slice A1 l1.length c1] rfl ga ?_; (with_reducible refine (corporalaw36_some.calls k _ _ l1 t1118 t1119 t1120 _ ?side1 ?side2 A4.out).mono ?_); (case side1 => exact cl ((Kd.C_below HR1.out HB.out))); (case side2 => exact HC1.out); rintro e w11 ⟨rfl, hb⟩; refine ⟨_, rfl, ?_⟩; replace HB := hs HB hb; (try clear hb)) | ((with_reducible refine gate_dst (N := 5) rfl ?_); refine be (N := 5) (cs := #[.bool false, .string (⟨#[]⟩ : ByteArray), .string (⟨#[]⟩ : ByteArray)]) (t := 35) ?_; intro gb1121 hg w12 hbox hb; have BK1121 := Aside0.mk (hbox); have GW1121 := gw HB hg; have GE1121 := GW1121; replace HB := hs HB hb; clear hb hbox hg) | ((with_reducible refine gate_dst (N := 6) rfl ?_); refine be (N := 6) (cs := #[.bool false, .string (⟨#[]⟩ : ByteArray), .string (⟨#[]⟩ : ByteArray)]) (t := 35) ?_; intro gb1122 hg w13 hbox hb; have BK1122 := Aside0.mk (hbox); have GW1122 := gw HB hg; have GE1122 := GW1122; replace HB := hs HB hb; have NB1121_1122 := na BK1121 hg; have NB1122_1121 := nz NB1121_1122; replace BK1121 := bb BK1121 hb; clear hb hbox hg; have hnb14 := NB1121_1122.out; have hnc14 := NB1122_1121.out; obtain ⟨hcz15_0, hcz15_1, hcz15_2, hfz15_0, hfz15_1, hfz15_2⟩ := z3 BK1121; obtain ⟨hcz16_0, hcz16_1, hcz16_2, hfz16_0, hfz16_1, hfz16_2⟩ := z3 BK1122) | ((with_reducible refine gate_callee (f := 43) rfl ?_); refine goesL_ (some 22) rfl rfl Try.func43 (by kernel_rfl) rfl #[.agg #[.bool t1115, .string t1116, .string t1117], .agg #[.bool t1118, .string t1119, .string t1120]] rfl ga ?_; (with_reducible refine (ratio_Sub.calls k t1115 t1116 t1117 t1118 t1119 t1120 t1123 t1124 t1125 t1126 _ A5.out).mono ?_); rintro e w17 ⟨rfl, hb⟩; refine ⟨_, rfl, ?_⟩; replace BK1121 := bq BK1121 #[.bool t1115, .string t1116, .string t1117] hb; replace BK1122 := bq BK1122 #[.bool t1118, .string t1119, .string t1120] hb; replace HB := hs HB hb; (try clear hb)) | ((with_reducible refine gate_dst (N := 7) rfl ?_); refine be (N := 7) (cs := #[.bool false, .string (⟨#[]⟩ : ByteArray), .string (⟨#[]⟩ : ByteArray)]) (t := 35) ?_; intro gb1127 hg w18 hbox hb; have BK1127 := Aside0.mk (hbox); have GW1127 := gw HB hg; have GE1127 := GW1127; replace HB := hs HB hb; have NB1121_1127 := na BK1121 hg; have NB1127_1121 := nz NB1121_1127; replace BK1121 := bb BK1121 hb; have NB1122_1127 := na BK1122 hg; have NB1127_1122 := nz NB1122_1127; replace BK1122 := bb BK1122 hb; clear hb hbox hg; have hnb19 := NB1127_1121.out; have hnc19 := NB1121_1127.out; have hnb20 := NB1127_1122.out; have hnc20 := NB1122_1127.out; obtain ⟨hcz21_0, hcz21_1, hcz21_2, hfz21_0, hfz21_1, hfz21_2⟩ := z3 BK1127; obtain ⟨hcz22_0, hcz22_1, hcz22_2, hfz22_0, hfz22_1, hfz22_2⟩ := z3 BK1122) | ((with_reducible refine gate_callee (f := 42) rfl ?_); refine goesL_ (some 28) rfl rfl Try.func42 (by kernel_rfl) rfl #[.agg #[.bool t1123, .string t1124, .string t1125], .agg #[.bool t1118, .string t1119, .string t1120]] rfl ga ?_; (with_reducible refine (ratio_Add.calls k t1123 t1124 t1125 t1118 t1119 t1120 t1128 t1129 t1130 t1131 _ A6.out).mono ?_); rintro e w23 ⟨rfl, hb⟩; refine ⟨_, rfl, ?_⟩; replace BK1121 := bb BK1121 hb; replace BK1122 := bb BK1122 hb; replace BK1127 := bq BK1127 #[.bool t1123, .string t1124, .string t1125] hb; replace HB := hs HB hb; (try clear hb)) | ((with_reducible refine gate_dst (N := 9) rfl ?_); refine be (N := 9) (cs := #[.bool false, .string (⟨#[]⟩ : ByteArray), .string (⟨#[]⟩ : ByteArray)]) (t := 35) ?_; intro gb1132 hg w24 hbox hb; have BK1132 := Aside0.mk (hbox); have GW1132 := gw HB hg; have GE1132 := GW1132; replace HB := hs HB hb; have NB1121_1132 := na BK1121 hg; have NB1132_1121 := nz NB1121_1132; replace BK1121 := bb BK1121 hb; have NB1122_1132 := na BK1122 hg; have NB1132_1122 := nz NB1122_1132; replace BK1122 := bb BK1122 hb; have NB1127_1132 := na BK1127 hg; have NB1132_1127 := nz NB1127_1132; replace BK1127 := bb BK1127 hb; clear hb hbox hg; have hnb25 := NB1132_1121.out; have hnc25 := NB1121_1132.out; have hnb26 := NB1132_1122.out; have hnc26 := NB1122_1132.out; have hnb27 := NB1132_1127.out; have hnc27 := NB1127_1132.out; obtain ⟨hcz28_0, hcz28_1, hcz28_2, hfz28_0, hfz28_1, hfz28_2⟩ := z3 BK1132; obtain ⟨hcz29_0, hcz29_1, hcz29_2, hfz29_0, hfz29_1, hfz29_2⟩ := z3 BK1121; obtain ⟨hcz30_0, hcz30_1, hcz30_2, hfz30_0, hfz30_1, hfz30_2⟩ := z3 BK1122) | ((with_reducible refine gate_callee (f := 29) rfl ?_); refine goesL_ (some 34) rfl rfl Try.func29 (by kernel_rfl) rfl #[.agg #[.bool t1115, .string t1116, .string t1117], .agg #[.bool t1118, .string t1119, .string t1120]] rfl ga ?_; (with_reducible refine (ratio_Quo.calls k t1115 t1116 t1117 t1118 t1119 t1120 t1133 t1134 t1135 t1136 _ A7.out).mono ?_); rintro e w31 ⟨rfl, hb⟩; refine ⟨_, rfl, ?_⟩; replace BK1121 := bb BK1121 hb; replace BK1122 := bb BK1122 hb; replace BK1127 := bb BK1127 hb; replace BK1132 := bq BK1132 #[.bool t1128, .string t1129, .string t1130] hb; replace HB := hs HB hb; (try clear hb)) | ((with_reducible refine gate_dst (N := 11) rfl ?_); refine be (N := 11) (cs := #[.bool false, .string (⟨#[]⟩ : ByteArray), .string (⟨#[]⟩ : ByteArray)]) (t := 35) ?_; intro gb1137 hg w32 hbox hb; have BK1137 := Aside0.mk (hbox); have GW1137 := gw HB hg; have GE1137 := GW1137; replace HB := hs HB hb; have NB1121_1137 := na BK1121 hg; have NB1137_1121 := nz NB1121_1137; replace BK1121 := bb BK1121 hb; have NB1122_1137 := na BK1122 hg; have NB1137_1122 := nz NB1122_1137; replace BK1122 := bb BK1122 hb; have NB1127_1137 := na BK1127 hg; have NB1137_1127 := nz NB1127_1137; replace BK1127 := bb BK1127 hb; have NB1132_1137 := na BK1132 hg; have NB1137_1132 := nz NB1132_1137; replace BK1132 := bb BK1132 hb; clear hb hbox hg; have hnb33 := NB1137_1121.out; have hnc33 := NB1121_1137.out; have hnb34 := NB1137_1122.out; have hnc34 := NB1122_1137.out; have hnb35 := NB1137_1127.out; have hnc35 := NB1127_1137.out; have hnb36 := NB1137_1132.out; have hnc36 := NB1132_1137.out; obtain ⟨hcz37_0, hcz37_1, hcz37_2, hfz37_0, hfz37_1, hfz37_2⟩ := z3 BK1137; obtain ⟨hcz38_0, hcz38_1, hcz38_2, hfz38_0, hfz38_1, hfz38_2⟩ := z3 BK1122) | ((with_reducible refine gate_callee (f := 26) rfl ?_); refine goesL_ (some 40) rfl rfl Try.func26 (by kernel_rfl) rfl #[.agg #[.bool t1133, .string t1134, .string t1135], .agg #[.bool t1118, .string t1119, .string t1120]] rfl ga ?_; (with_reducible refine (ratio_Mul.calls k t1133 t1134 t1135 t1118 t1119 t1120 t1138 t1139 t1140 t1141 _ A8.out).mono ?_); rintro e w39 ⟨rfl, hb⟩; refine ⟨_, rfl, ?_⟩; replace BK1121 := bb BK1121 hb; replace BK1122 := bb BK1122 hb; replace BK1127 := bb BK1127 hb; replace BK1132 := bb BK1132 hb; replace BK1137 := bq BK1137 #[.bool t1133, .string t1134, .string t1135] hb; replace HB := hs HB hb; (try clear hb)) | ((with_reducible refine gate_dst (N := 13) rfl ?_); refine be (N := 13) (cs := #[.bool false, .string (⟨#[]⟩ : ByteArray), .string (⟨#[]⟩ : ByteArray)]) (t := 35) ?_; intro gb1142 hg w40 hbox hb; have BK1142 := Aside0.mk (hbox); have GW1142 := gw HB hg; have GE1142 := GW1142; replace HB := hs HB hb; have NB1121_1142 := na BK1121 hg; have NB1142_1121 := nz NB1121_1142; replace BK1121 := bb BK1121 hb; have NB1122_1142 := na BK1122 hg; have NB1142_1122 := nz NB1122_1142; replace BK1122 := bb BK1122 hb; have NB1127_1142 := na BK1127 hg; have NB1142_1127 := nz NB1127_1142; replace BK1127 := bb BK1127 hb; have NB1132_1142 := na BK1132 hg; have NB1142_1132 := nz NB1132_1142; replace BK1132 := bb BK1132 hb; have NB1137_1142 := na BK1137 hg; have NB1142_1137 := nz NB1137_1142; replace BK1137 := bb BK1137 hb; clear hb hbox hg; have hnb41 := NB1142_1121.out; have hnc41 := NB1121_1142.out; have hnb42 := NB1142_1122.out; have hnc42 := NB1122_1142.out; have hnb43 := NB1142_1127.out; have hnc43 := NB1127_1142.out; have hnb44 := NB1142_1132.out; have hnc44 := NB1132_1142.out; have hnb45 := NB1142_1137.out; have hnc45 := NB1137_1142.out; obtain ⟨hcz46_0, hcz46_1, hcz46_2, hfz46_0, hfz46_1, hfz46_2⟩ := z3 BK1142))
 (try simp only [Act.put, List.setIfInBounds_toArray, List.set_cons_zero, List.set_cons_succ])
 go_cut [58] (fun v58 wc => ∃ (kq : Nat) (x58_8 : Bool), v58 = .bool x58_8 ∧ Aside0 (corporalaw36_RatioInverse.j0 kq t1136 t1141 x58_8 t1115 t1116 t1117 t1118 t1119 t1120 t1133 t1134 t1135 t1138 t1139 t1140 = some r) ∧ Aside0 (kq ≤ k) ∧ Aside0 (wc.heap[gb1121]? = some (.cells #[.bool t1115, .string t1116, .string t1117] 35 (0, 0))) ∧ Aside0 (wc.heap[gb1122]? = some (.cells #[.bool t1118, .string t1119, .string t1120] 35 (0, 0))) ∧ Aside0 (wc.heap[gb1127]? = some (.cells #[.bool t1123, .string t1124, .string t1125] 35 (0, 0))) ∧ Aside0 (wc.heap[gb1132]? = some (.cells #[.bool t1128, .string t1129, .string t1130] 35 (0, 0))) ∧ Aside0 (wc.heap[gb1137]? = some (.cells #[.bool t1133, .string t1134, .string t1135] 35 (0, 0))) ∧ Aside0 (wc.heap[gb1142]? = some (.cells #[.bool t1138, .string t1139, .string t1140] 35 (0, 0))) ∧ Aside0 (Below w.heap.size w wc))
 case first =>
  have H := HC9.out
  clear HC9
  by_cases c47 : t1126 = 0
  ·rw [if_pos c47] at H
   have c47b0 : (t1126 == 0) = true := beq_iff_eq.mpr c47
   have c47b1 : (t1126 != 0) = false := bne_eq_false_iff_eq.mpr c47
   clear c47
   (first | rw [c47b0] | (simp only [i64_w, i32_w]; rw [c47b0]) | skip)
   by_cases c48 : t1131 = 0
   ·rw [if_pos c48] at H
    have c48b0 : (t1131 == 0) = true := beq_iff_eq.mpr c48
    have c48b1 : (t1131 != 0) = false := bne_eq_false_iff_eq.mpr c48
    clear c48
    by_cases c49 : (!(t1128 == t1115) || (!(t1129.toList == t1116.toList) || (!(t1130.toList == t1117.toList)))) = true
    ·rw [if_pos c49] at H
     have c49b0 : (!(t1128 == t1115) || (!(t1129.toList == t1116.toList) || (!(t1130.toList == t1117.toList)))) = true := c49
     clear c49
     have H' := Aside0.mk H
     clear H
     have hnb50 := NB1132_1121.out
     have hnc50 := NB1121_1132.out
     have hnb51 := NB1132_1122.out
     have hnc51 := NB1122_1132.out
     have hnb52 := NB1132_1127.out
     have hnc52 := NB1127_1132.out
     have hnb53 := NB1132_1137.out
     have hnc53 := NB1137_1132.out
     have hnb54 := NB1132_1142.out
     have hnc54 := NB1142_1132.out
     obtain ⟨hcz55_0, hcz55_1, hcz55_2, hfz55_0, hfz55_1, hfz55_2⟩ := z3 BK1132
     have hnb56 := NB1121_1122.out
     have hnc56 := NB1122_1121.out
     have hnb57 := NB1121_1127.out
     have hnc57 := NB1127_1121.out
     have hnb58 := NB1121_1137.out
     have hnc58 := NB1137_1121.out
     have hnb59 := NB1121_1142.out
     have hnc59 := NB1142_1121.out
     obtain ⟨hcz60_0, hcz60_1, hcz60_2, hfz60_0, hfz60_1, hfz60_2⟩ := z3 BK1121
     go_wp2
     go_meet
     case rel => exact ⟨_, (true), sv, H', ⟨by first | omega | exact Nat.le_refl _⟩, ⟨bk⟩, ⟨bk⟩, ⟨bk⟩, ⟨bk⟩, ⟨bk⟩, ⟨by (with_reducible repeat (first | refine blk_drewN ?_ _ | refine blk_drew ?_ | refine blk_alloc ?_ _)); refine blk_put (cs := #[.bool t1138, .string t1139, .string (⟨#[]⟩ : ByteArray)]) ?_ 2 _ rfl; (with_reducible repeat (first | refine blk_drewN ?_ _ | refine blk_drew ?_ | refine blk_alloc ?_ _)); refine blk_put (cs := #[.bool t1138, .string (⟨#[]⟩ : ByteArray), .string (⟨#[]⟩ : ByteArray)]) ?_ 1 _ rfl; (with_reducible repeat (first | refine blk_drewN ?_ _ | refine blk_drew ?_ | refine blk_alloc ?_ _)); refine blk_put (cs := #[.bool false, .string (⟨#[]⟩ : ByteArray), .string (⟨#[]⟩ : ByteArray)]) ?_ 0 _ rfl; (with_reducible repeat (first | refine blk_drewN ?_ _ | refine blk_drew ?_ | refine blk_alloc ?_ _)); exact BK1142.out⟩, ⟨bs⟩⟩
    ·rw [if_neg c49] at H
     have c49b0 : (!(t1128 == t1115) || (!(t1129.toList == t1116.toList) || (!(t1130.toList == t1117.toList)))) = false := by simpa using c49
     clear c49
     replace H := Option.bind_eq_some_iff.mp H
     obtain ⟨t1143, A610, H⟩ := H
     replace H : (corporalaw36_RatioInverse.j0 k t1136 t1141 (!t1143) t1115 t1116 t1117 t1118 t1119 t1120 t1133 t1134 t1135 t1138 t1139 t1140) = some r := H
     have A61 := Aside0.mk A610
     clear A610
     have H' := Aside0.mk H
     clear H
     have hnb62 := NB1132_1121.out
     have hnc62 := NB1121_1132.out
     have hnb63 := NB1132_1122.out
     have hnc63 := NB1122_1132.out
     have hnb64 := NB1132_1127.out
     have hnc64 := NB1127_1132.out
     have hnb65 := NB1132_1137.out
     have hnc65 := NB1137_1132.out
     have hnb66 := NB1132_1142.out
     have hnc66 := NB1142_1132.out
     obtain ⟨hcz67_0, hcz67_1, hcz67_2, hfz67_0, hfz67_1, hfz67_2⟩ := z3 BK1132
     have hnb68 := NB1121_1122.out
     have hnc68 := NB1122_1121.out
     have hnb69 := NB1121_1127.out
     have hnc69 := NB1127_1121.out
     have hnb70 := NB1121_1137.out
     have hnc70 := NB1137_1121.out
     have hnb71 := NB1121_1142.out
     have hnc71 := NB1142_1121.out
     obtain ⟨hcz72_0, hcz72_1, hcz72_2, hfz72_0, hfz72_1, hfz72_2⟩ := z3 BK1121
     have hnb73 := NB1127_1122.out
     have hnc73 := NB1122_1127.out
     have hnb74 := NB1127_1137.out
     have hnc74 := NB1137_1127.out
     have hnb75 := NB1127_1142.out
     have hnc75 := NB1142_1127.out
     obtain ⟨hcz76_0, hcz76_1, hcz76_2, hfz76_0, hfz76_1, hfz76_2⟩ := z3 BK1127
     go_wp2_with (first | (go_at_call 44; (with_reducible refine (ratio_IsRatio.calls k t1123 t1124 t1125 t1143 _ A61.out).mono ?_); rintro e w77 ⟨rfl, hb⟩; replace BK1121 := bb BK1121 hb; replace BK1122 := bb BK1122 hb; replace BK1127 := bb BK1127 hb; replace BK1132 := bb BK1132 hb; replace BK1137 := bb BK1137 hb; replace BK1142 := bq BK1142 #[.bool t1138, .string t1139, .string t1140] hb; replace HB := hs HB hb; (try clear hb)))
     go_meet
     case rel => exact ⟨_, (!t1143), sv, H', ⟨by first | omega | exact Nat.le_refl _⟩, ⟨bk⟩, ⟨bk⟩, ⟨bk⟩, ⟨bk⟩, ⟨bk⟩, ⟨bk⟩, ⟨bs⟩⟩
   ·rw [if_neg c48] at H
    have c48b0 : (t1131 == 0) = false := beq_eq_false_iff_ne.mpr c48
    have c48b1 : (t1131 != 0) = true := bne_iff_ne.mpr c48
    have H' := Aside0.mk H
    clear H
    go_wp2
    go_meet
    case rel => exact ⟨_, (true), sv, H', ⟨by first | omega | exact Nat.le_refl _⟩, ⟨bk⟩, ⟨bk⟩, ⟨bk⟩, ⟨bk⟩, ⟨bk⟩, ⟨by (with_reducible repeat (first | refine blk_drewN ?_ _ | refine blk_drew ?_ | refine blk_alloc ?_ _)); refine blk_put (cs := #[.bool t1138, .string t1139, .string (⟨#[]⟩ : ByteArray)]) ?_ 2 _ rfl; (with_reducible repeat (first | refine blk_drewN ?_ _ | refine blk_drew ?_ | refine blk_alloc ?_ _)); refine blk_put (cs := #[.bool t1138, .string (⟨#[]⟩ : ByteArray), .string (⟨#[]⟩ : ByteArray)]) ?_ 1 _ rfl; (with_reducible repeat (first | refine blk_drewN ?_ _ | refine blk_drew ?_ | refine blk_alloc ?_ _)); refine blk_put (cs := #[.bool false, .string (⟨#[]⟩ : ByteArray), .string (⟨#[]⟩ : ByteArray)]) ?_ 0 _ rfl; (with_reducible repeat (first | refine blk_drewN ?_ _ | refine blk_drew ?_ | refine blk_alloc ?_ _)); exact BK1142.out⟩, ⟨bs⟩⟩
  ·rw [if_neg c47] at H
   have c47b0 : (t1126 == 0) = false := beq_eq_false_iff_ne.mpr c47
   have c47b1 : (t1126 != 0) = true := bne_iff_ne.mpr c47
   (first | rw [c47b0] | (simp only [i64_w, i32_w]; rw [c47b0]) | skip)
   have H' := Aside0.mk H
   clear H
   go_wp2
   go_meet
   case rel => exact ⟨_, (true), sv, H', ⟨by first | omega | exact Nat.le_refl _⟩, ⟨bk⟩, ⟨bk⟩, ⟨bk⟩, ⟨bk⟩, ⟨bk⟩, ⟨by (with_reducible repeat (first | refine blk_drewN ?_ _ | refine blk_drew ?_ | refine blk_alloc ?_ _)); refine blk_put (cs := #[.bool t1138, .string t1139, .string (⟨#[]⟩ : ByteArray)]) ?_ 2 _ rfl; (with_reducible repeat (first | refine blk_drewN ?_ _ | refine blk_drew ?_ | refine blk_alloc ?_ _)); refine blk_put (cs := #[.bool t1138, .string (⟨#[]⟩ : ByteArray), .string (⟨#[]⟩ : ByteArray)]) ?_ 1 _ rfl; (with_reducible repeat (first | refine blk_drewN ?_ _ | refine blk_drew ?_ | refine blk_alloc ?_ _)); refine blk_put (cs := #[.bool false, .string (⟨#[]⟩ : ByteArray), .string (⟨#[]⟩ : ByteArray)]) ?_ 0 _ rfl; (with_reducible repeat (first | refine blk_drewN ?_ _ | refine blk_drew ?_ | refine blk_alloc ?_ _)); exact BK1142.out⟩, ⟨bs⟩⟩
 case rest =>
  clear HC9
  try clear c1
  try clear c47b0
  try clear c47b1
  try clear c48b0
  try clear c48b1
  try clear c49b0
  try clear hcz15_0
  try clear hcz15_1
  try clear hcz15_2
  try clear hcz16_0
  try clear hcz16_1
  try clear hcz16_2
  try clear hcz21_0
  try clear hcz21_1
  try clear hcz21_2
  try clear hcz22_0
  try clear hcz22_1
  try clear hcz22_2
  try clear hcz28_0
  try clear hcz28_1
  try clear hcz28_2
  try clear hcz29_0
  try clear hcz29_1
  try clear hcz29_2
  try clear hcz30_0
  try clear hcz30_1
  try clear hcz30_2
  try clear hcz37_0
  try clear hcz37_1
  try clear hcz37_2
  try clear hcz38_0
  try clear hcz38_1
  try clear hcz38_2
  try clear hcz46_0
  try clear hcz46_1
  try clear hcz46_2
  try clear hcz55_0
  try clear hcz55_1
  try clear hcz55_2
  try clear hcz60_0
  try clear hcz60_1
  try clear hcz60_2
  try clear hcz67_0
  try clear hcz67_1
  try clear hcz67_2
  try clear hcz72_0
  try clear hcz72_1
  try clear hcz72_2
  try clear hcz76_0
  try clear hcz76_1
  try clear hcz76_2
  try clear hfz15_0
  try clear hfz15_1
  try clear hfz15_2
  try clear hfz16_0
  try clear hfz16_1
  try clear hfz16_2
  try clear hfz21_0
  try clear hfz21_1
  try clear hfz21_2
  try clear hfz22_0
  try clear hfz22_1
  try clear hfz22_2
  try clear hfz28_0
  try clear hfz28_1
  try clear hfz28_2
  try clear hfz29_0
  try clear hfz29_1
  try clear hfz29_2
  try clear hfz30_0
  try clear hfz30_1
  try clear hfz30_2
  try clear hfz37_0
  try clear hfz37_1
  try clear hfz37_2
  try clear hfz38_0
  try clear hfz38_1
  try clear hfz38_2
  try clear hfz46_0
  try clear hfz46_1
  try clear hfz46_2
  try clear hfz55_0
  try clear hfz55_1
  try clear hfz55_2
  try clear hfz60_0
  try clear hfz60_1
  try clear hfz60_2
  try clear hfz67_0
  try clear hfz67_1
  try clear hfz67_2
  try clear hfz72_0
  try clear hfz72_1
  try clear hfz72_2
  try clear hfz76_0
  try clear hfz76_1
  try clear hfz76_2
  obtain ⟨kq, x58_8, rfl, HA, HJ8, BK1121, BK1122, BK1127, BK1132, BK1137, BK1142, HB⟩ := hcut
  cases kq with
  | zero => exact absurd HA.out (by simp [corporalaw36_RatioInverse.j0])
  | succ kj8 =>
   have H := HA.out
   clear HA
   simp only [corporalaw36_RatioInverse.j0] at H
   by_cases c78 : x58_8 = true
   ·subst c78
    have H1 : (some false) = some r := by rw [if_pos rfl] at H; exact H
    clear H
    have H := H1
    clear H1
    obtain rfl := Option.some.inj H
    go_wp2
    go_ret
    exact ⟨by first | rfl | (simp [errW_none, errW_some] <;> rfl) | (simp [*, errW_none, errW_some] <;> rfl), bs⟩
   ·replace c78 := Bool.eq_false_iff.mpr c78
    subst c78
    have H1 : (if t1119.toList = ([48] : List UInt8) then _ else _) = _ := (if_neg (show ¬ (false = true) by decide)).symm.trans H
    clear H
    have H := H1
    clear H1
    by_cases c79 : t1119.toList = ([48] : List UInt8)
    ·rw [if_pos c79] at H
     have c79b0 : (t1119.toList == ([48] : List UInt8)) = true := beq_iff_eq.mpr c79
     have c79b1 : (t1119.toList != ([48] : List UInt8)) = false := bne_eq_false_iff_eq.mpr c79
     clear c79
     by_cases c80 : t1136 = 25
     ·rw [if_pos c80] at H
      have c80b0 : (t1136 == 25) = true := beq_iff_eq.mpr c80
      have c80b1 : (t1136 != 25) = false := bne_eq_false_iff_eq.mpr c80
      clear c80
      replace H := Option.bind_eq_some_iff.mp H
      obtain ⟨t1144, A810, H⟩ := H
      replace H : (some t1144) = some r := H
      have A81 := Aside0.mk A810
      clear A810
      obtain rfl := Option.some.inj H
      have hnb82 := NB1122_1121.out
      have hnc82 := NB1121_1122.out
      have hnb83 := NB1122_1127.out
      have hnc83 := NB1127_1122.out
      have hnb84 := NB1122_1132.out
      have hnc84 := NB1132_1122.out
      have hnb85 := NB1122_1137.out
      have hnc85 := NB1137_1122.out
      have hnb86 := NB1122_1142.out
      have hnc86 := NB1142_1122.out
      obtain ⟨hcz87_0, hcz87_1, hcz87_2, hfz87_0, hfz87_1, hfz87_2⟩ := z3 BK1122
      go_wp2_with (first | (go_at_call 19; (with_reducible refine (corporalaw36_known.calls kj8  t1144 _ A81.out).mono ?_); rintro e w88 ⟨rfl, hb⟩; replace BK1121 := bb BK1121 hb; replace BK1122 := bb BK1122 hb; replace BK1127 := bb BK1127 hb; replace BK1132 := bb BK1132 hb; replace BK1137 := bb BK1137 hb; replace BK1142 := bb BK1142 hb; replace HB := hs HB hb; (try clear hb)))
      go_ret
      exact ⟨by first | rfl | (simp [errW_none, errW_some] <;> rfl) | (simp [*, errW_none, errW_some] <;> rfl), bs⟩
     ·rw [if_neg c80] at H
      have c80b0 : (t1136 == 25) = false := beq_eq_false_iff_ne.mpr c80
      have c80b1 : (t1136 != 25) = true := bne_iff_ne.mpr c80
      obtain rfl := Option.some.inj H
      have hnb89 := NB1122_1121.out
      have hnc89 := NB1121_1122.out
      have hnb90 := NB1122_1127.out
      have hnc90 := NB1127_1122.out
      have hnb91 := NB1122_1132.out
      have hnc91 := NB1132_1122.out
      have hnb92 := NB1122_1137.out
      have hnc92 := NB1137_1122.out
      have hnb93 := NB1122_1142.out
      have hnc93 := NB1142_1122.out
      obtain ⟨hcz94_0, hcz94_1, hcz94_2, hfz94_0, hfz94_1, hfz94_2⟩ := z3 BK1122
      go_wp2
      go_ret
      exact ⟨by first | rfl | (simp [errW_none, errW_some] <;> rfl) | (simp [*, errW_none, errW_some] <;> rfl), bs⟩
    ·rw [if_neg c79] at H
     have c79b0 : (t1119.toList == ([48] : List UInt8)) = false := beq_eq_false_iff_ne.mpr c79
     have c79b1 : (t1119.toList != ([48] : List UInt8)) = true := bne_iff_ne.mpr c79
     by_cases c95 : t1136 = 0
     ·rw [if_pos c95] at H
      have c95b0 : (t1136 == 0) = true := beq_iff_eq.mpr c95
      have c95b1 : (t1136 != 0) = false := bne_eq_false_iff_eq.mpr c95
      clear c95
      by_cases c96 : t1141 = 0
      ·rw [if_pos c96] at H
       have c96b0 : (t1141 == 0) = true := beq_iff_eq.mpr c96
       have c96b1 : (t1141 != 0) = false := bne_eq_false_iff_eq.mpr c96
       clear c96
       by_cases c97 : (t1138 == t1115 && (t1139.toList == t1116.toList && (t1140.toList == t1117.toList))) = true
       ·rw [if_pos c97] at H
        have c97b0 : (t1138 == t1115 && (t1139.toList == t1116.toList && (t1140.toList == t1117.toList))) = true := c97
        (try (have c97b1 : decide (t1138 = t1115 && (t1139.toList == t1116.toList && (t1140.toList == t1117.toList))) = true := by simpa using c97))
        (try (have c97b2 : (t1138 == t1115 && (t1139.toList == t1116.toList && (t1140.toList == t1117.toList))) = true := by simpa using c97))
        clear c97
        replace H := Option.bind_eq_some_iff.mp H
        obtain ⟨t1145, A980, H⟩ := H
        replace H : (if t1145 = true then ((corporalaw36_known.f kj8).bind fun t1146 => (some t1146)) else (some false)) = some r := H
        have A98 := Aside0.mk A980
        clear A980
        by_cases c99 : t1145 = true
        ·subst c99
         have H1 : ((corporalaw36_known.f kj8).bind fun t1146 => (some t1146)) = some r := by rw [if_pos rfl] at H; exact H
         clear H
         have H := H1
         clear H1
         replace H := Option.bind_eq_some_iff.mp H
         obtain ⟨t1146, A1000, H⟩ := H
         replace H : (some t1146) = some r := H
         have A100 := Aside0.mk A1000
         clear A1000
         obtain rfl := Option.some.inj H
         have hnb101 := NB1122_1121.out
         have hnc101 := NB1121_1122.out
         have hnb102 := NB1122_1127.out
         have hnc102 := NB1127_1122.out
         have hnb103 := NB1122_1132.out
         have hnc103 := NB1132_1122.out
         have hnb104 := NB1122_1137.out
         have hnc104 := NB1137_1122.out
         have hnb105 := NB1122_1142.out
         have hnc105 := NB1142_1122.out
         obtain ⟨hcz106_0, hcz106_1, hcz106_2, hfz106_0, hfz106_1, hfz106_2⟩ := z3 BK1122
         have hnb107 := NB1142_1121.out
         have hnc107 := NB1121_1142.out
         have hnb108 := NB1142_1127.out
         have hnc108 := NB1127_1142.out
         have hnb109 := NB1142_1132.out
         have hnc109 := NB1132_1142.out
         have hnb110 := NB1142_1137.out
         have hnc110 := NB1137_1142.out
         obtain ⟨hcz111_0, hcz111_1, hcz111_2, hfz111_0, hfz111_1, hfz111_2⟩ := z3 BK1142
         have hnb112 := NB1121_1127.out
         have hnc112 := NB1127_1121.out
         have hnb113 := NB1121_1132.out
         have hnc113 := NB1132_1121.out
         have hnb114 := NB1121_1137.out
         have hnc114 := NB1137_1121.out
         obtain ⟨hcz115_0, hcz115_1, hcz115_2, hfz115_0, hfz115_1, hfz115_2⟩ := z3 BK1121
         have hnb116 := NB1137_1127.out
         have hnc116 := NB1127_1137.out
         have hnb117 := NB1137_1132.out
         have hnc117 := NB1132_1137.out
         obtain ⟨hcz118_0, hcz118_1, hcz118_2, hfz118_0, hfz118_1, hfz118_2⟩ := z3 BK1137
         go_wp2_with (first | (go_at_call 44; (with_reducible refine (ratio_IsRatio.calls kj8 t1133 t1134 t1135 true _ A98.out).mono ?_); rintro e w119 ⟨rfl, hb⟩; replace BK1121 := bb BK1121 hb; replace BK1122 := bb BK1122 hb; replace BK1127 := bb BK1127 hb; replace BK1132 := bb BK1132 hb; replace BK1137 := bb BK1137 hb; replace BK1142 := bb BK1142 hb; replace HB := hs HB hb; (try clear hb)) | (go_at_call 19; (with_reducible refine (corporalaw36_known.calls kj8  t1146 _ A100.out).mono ?_); rintro e w120 ⟨rfl, hb⟩; replace BK1121 := bb BK1121 hb; replace BK1122 := bb BK1122 hb; replace BK1127 := bb BK1127 hb; replace BK1132 := bb BK1132 hb; replace BK1137 := bb BK1137 hb; replace BK1142 := bb BK1142 hb; replace HB := hs HB hb; (try clear hb)))
         go_ret
         exact ⟨by first | rfl | (simp [errW_none, errW_some] <;> rfl) | (simp [*, errW_none, errW_some] <;> rfl), bs⟩
        ·replace c99 := Bool.eq_false_iff.mpr c99
         subst c99
         have H1 : (some false) = some r := by rw [if_neg (show ¬ (false = true) by decide)] at H; exact H
         clear H
         have H := H1
         clear H1
         obtain rfl := Option.some.inj H
         have hnb121 := NB1122_1121.out
         have hnc121 := NB1121_1122.out
         have hnb122 := NB1122_1127.out
         have hnc122 := NB1127_1122.out
         have hnb123 := NB1122_1132.out
         have hnc123 := NB1132_1122.out
         have hnb124 := NB1122_1137.out
         have hnc124 := NB1137_1122.out
         have hnb125 := NB1122_1142.out
         have hnc125 := NB1142_1122.out
         obtain ⟨hcz126_0, hcz126_1, hcz126_2, hfz126_0, hfz126_1, hfz126_2⟩ := z3 BK1122
         have hnb127 := NB1142_1121.out
         have hnc127 := NB1121_1142.out
         have hnb128 := NB1142_1127.out
         have hnc128 := NB1127_1142.out
         have hnb129 := NB1142_1132.out
         have hnc129 := NB1132_1142.out
         have hnb130 := NB1142_1137.out
         have hnc130 := NB1137_1142.out
         obtain ⟨hcz131_0, hcz131_1, hcz131_2, hfz131_0, hfz131_1, hfz131_2⟩ := z3 BK1142
         have hnb132 := NB1121_1127.out
         have hnc132 := NB1127_1121.out
         have hnb133 := NB1121_1132.out
         have hnc133 := NB1132_1121.out
         have hnb134 := NB1121_1137.out
         have hnc134 := NB1137_1121.out
         obtain ⟨hcz135_0, hcz135_1, hcz135_2, hfz135_0, hfz135_1, hfz135_2⟩ := z3 BK1121
         have hnb136 := NB1137_1127.out
         have hnc136 := NB1127_1137.out
         have hnb137 := NB1137_1132.out
         have hnc137 := NB1132_1137.out
         obtain ⟨hcz138_0, hcz138_1, hcz138_2, hfz138_0, hfz138_1, hfz138_2⟩ := z3 BK1137
         go_wp2_with (first | (go_at_call 44; (with_reducible refine (ratio_IsRatio.calls kj8 t1133 t1134 t1135 false _ A98.out).mono ?_); rintro e w139 ⟨rfl, hb⟩; replace BK1121 := bb BK1121 hb; replace BK1122 := bb BK1122 hb; replace BK1127 := bb BK1127 hb; replace BK1132 := bb BK1132 hb; replace BK1137 := bb BK1137 hb; replace BK1142 := bb BK1142 hb; replace HB := hs HB hb; (try clear hb)))
         go_ret
         exact ⟨by first | rfl | (simp [errW_none, errW_some] <;> rfl) | (simp [*, errW_none, errW_some] <;> rfl), bs⟩
       ·rw [if_neg c97] at H
        have c97b0 : (t1138 == t1115 && (t1139.toList == t1116.toList && (t1140.toList == t1117.toList))) = false := by simpa using c97
        (try (have c97b1 : decide (t1138 = t1115 && (t1139.toList == t1116.toList && (t1140.toList == t1117.toList))) = false := by simpa using c97))
        (try (have c97b2 : (t1138 == t1115 && (t1139.toList == t1116.toList && (t1140.toList == t1117.toList))) = false := by simpa using c97))
        (try (have c97b3 : ¬ (t1138 = t1115 && (t1139.toList == t1116.toList && (t1140.toList == t1117.toList))) := by simpa using c97))
        clear c97
        obtain rfl := Option.some.inj H
        have hnb140 := NB1122_1121.out
        have hnc140 := NB1121_1122.out
        have hnb141 := NB1122_1127.out
        have hnc141 := NB1127_1122.out
        have hnb142 := NB1122_1132.out
        have hnc142 := NB1132_1122.out
        have hnb143 := NB1122_1137.out
        have hnc143 := NB1137_1122.out
        have hnb144 := NB1122_1142.out
        have hnc144 := NB1142_1122.out
        obtain ⟨hcz145_0, hcz145_1, hcz145_2, hfz145_0, hfz145_1, hfz145_2⟩ := z3 BK1122
        have hnb146 := NB1142_1121.out
        have hnc146 := NB1121_1142.out
        have hnb147 := NB1142_1127.out
        have hnc147 := NB1127_1142.out
        have hnb148 := NB1142_1132.out
        have hnc148 := NB1132_1142.out
        have hnb149 := NB1142_1137.out
        have hnc149 := NB1137_1142.out
        obtain ⟨hcz150_0, hcz150_1, hcz150_2, hfz150_0, hfz150_1, hfz150_2⟩ := z3 BK1142
        have hnb151 := NB1121_1127.out
        have hnc151 := NB1127_1121.out
        have hnb152 := NB1121_1132.out
        have hnc152 := NB1132_1121.out
        have hnb153 := NB1121_1137.out
        have hnc153 := NB1137_1121.out
        obtain ⟨hcz154_0, hcz154_1, hcz154_2, hfz154_0, hfz154_1, hfz154_2⟩ := z3 BK1121
        go_wp2
        go_ret
        exact ⟨by first | rfl | (simp [errW_none, errW_some] <;> rfl) | (simp [*, errW_none, errW_some] <;> rfl), bs⟩
      ·rw [if_neg c96] at H
       have c96b0 : (t1141 == 0) = false := beq_eq_false_iff_ne.mpr c96
       have c96b1 : (t1141 != 0) = true := bne_iff_ne.mpr c96
       obtain rfl := Option.some.inj H
       have hnb155 := NB1122_1121.out
       have hnc155 := NB1121_1122.out
       have hnb156 := NB1122_1127.out
       have hnc156 := NB1127_1122.out
       have hnb157 := NB1122_1132.out
       have hnc157 := NB1132_1122.out
       have hnb158 := NB1122_1137.out
       have hnc158 := NB1137_1122.out
       have hnb159 := NB1122_1142.out
       have hnc159 := NB1142_1122.out
       obtain ⟨hcz160_0, hcz160_1, hcz160_2, hfz160_0, hfz160_1, hfz160_2⟩ := z3 BK1122
       go_wp2
       go_ret
       exact ⟨by first | rfl | (simp [errW_none, errW_some] <;> rfl) | (simp [*, errW_none, errW_some] <;> rfl), bs⟩
     ·rw [if_neg c95] at H
      have c95b0 : (t1136 == 0) = false := beq_eq_false_iff_ne.mpr c95
      have c95b1 : (t1136 != 0) = true := bne_iff_ne.mpr c95
      obtain rfl := Option.some.inj H
      have hnb161 := NB1122_1121.out
      have hnc161 := NB1121_1122.out
      have hnb162 := NB1122_1127.out
      have hnc162 := NB1127_1122.out
      have hnb163 := NB1122_1132.out
      have hnc163 := NB1132_1122.out
      have hnb164 := NB1122_1137.out
      have hnc164 := NB1137_1122.out
      have hnb165 := NB1122_1142.out
      have hnc165 := NB1142_1122.out
      obtain ⟨hcz166_0, hcz166_1, hcz166_2, hfz166_0, hfz166_1, hfz166_2⟩ := z3 BK1122
      go_wp2
      go_ret
      exact ⟨by first | rfl | (simp [errW_none, errW_some] <;> rfl) | (simp [*, errW_none, errW_some] <;> rfl), bs⟩
theorem corporalaw36_RatioInverse.walk (P : corporalaw36_RatioInverse.Pure) (a0 : Option Addr) (len0 cap0 : Nat) (z0 : List Int) (a1 : Option Addr) (len1 cap1 : Nat) (z1 : List Int) (w : World) (w0 : (a0 = none ∧ len0 = 0 ∧ cap0 = 0 ∧ z0 = []) ∨ ∃ x, a0 = some x ∧ len0 ≤ cap0 ∧ cap0 ≤ maxLen ∧ z0.length = cap0 ∧ (∀ i, i < z0.length → w.cell? (x.add i) = some (.int .i64 (z0.getD i 0))) ∧ ∀ n ∈ z0, (Lit.int .i64 n).wf = true) (y0 : len0 * 8 ≤ 140737488351232) (w1 : (a1 = none ∧ len1 = 0 ∧ cap1 = 0 ∧ z1 = []) ∨ ∃ x, a1 = some x ∧ len1 ≤ cap1 ∧ cap1 ≤ maxLen ∧ z1.length = cap1 ∧ (∀ i, i < z1.length → w.cell? (x.add i) = some (.int .i64 (z1.getD i 0))) ∧ ∀ n ∈ z1, (Lit.int .i64 n).wf = true) (y1 : len1 * 8 ≤ 140737488351232) :
  Calls Try.prog 9 #[.slice a0 len0 cap0, .slice a1 len1 cap1] w fun e w' => e = .returned (.bool true) ∧ Below w.heap.size w w' := by
 obtain ⟨l0, rfl, hr0, hm0, hw0, hc0⟩ := ReadsInt.ofRowC w0
 obtain ⟨l1, rfl, hr1, hm1, hw1, hc1⟩ := ReadsInt.ofRowC w1
 obtain ⟨k, h⟩ := P l0 l1 hm0 y0 hw0 hm1 y1 hw1
 refine (corporalaw36_RatioInverse.calls k _ _ l0 _ _ l1 true w (Kd.C_of_reads (d := (0 : Int)) (h1 := fun _ => rfl) hr0) hc0 (Kd.C_of_reads (d := (0 : Int)) (h1 := fun _ => rfl) hr1) hc1 h).mono ?_
 rintro e w' ⟨rfl, hd⟩
 exact ⟨rfl, hd⟩
end Go.Proofs.Ytccgfmjcldifcaa.P
