/- Walks of Go functions: what they compute; each theorem's conditions stand in it. -/
import Derived.Test.YtccgfmjcldifcaaT
import Derived.Test.YtccgfmjcldifcaaCEValid
import Derived.Test.YtccgfmjcldifcaaCIntv
import Derived.Test.YtccgfmjcldifcaaCKnown37
import Derived.Test.YtccgfmjcldifcaaCMade
import Derived.Test.YtccgfmjcldifcaaCREnc
import Derived.Test.YtccgfmjcldifcaaCRaCmp
import Derived.Test.YtccgfmjcldifcaaDA
import Derived.Test.YtccgfmjcldifcaaDE
import Derived.Test.YtccgfmjcldifcaaDLEncloseCompares
namespace Go.Proofs.Ytccgfmjcldifcaa.P
open Go.RowKit Go.Proofs.YtccgfmjcldifcaaW.PrintWords Go.Proofs.YtccgfmjcldifcaaW.PrintLast Go.Proofs.YtccgfmjcldifcaaW.PrintMore
attribute [local go_sem] max2_int min2_int max_two min_two max_three min_three max_four min_four
set_option linter.unusedVariables false
set_option linter.unusedSimpArgs false
set_option maxHeartbeats 8000000 in
set_option maxRecDepth 100000 in
theorem corporalaw37_EncloseCompares.calls (k : Nat) (A0 : Option Addr) (c0 : Nat) (l0 : List Int) (r : Bool) (w : World) (hr0 : Kd.C (Kd.int .i64) w A0 l0.length l0) (hc0 : l0.length ≤ c0) (h : corporalaw37_EncloseCompares.f k l0 = some r) :
  Calls Try.prog 10 #[.slice A0 l0.length c0] w fun e w' => e = .returned (.bool r) ∧ Below w.heap.size w w' := by
 have hu44 := Try.underlying44
 have hu35 := Try.underlying35
 have HR0 := Aside0.mk hr0
 have HC0 := Aside0.mk hc0
 clear hr0 hc0
 have HB := Aside0.mk (Below.refl w.heap.size w)
 have H : Option.bind (corporamade_New.f l0) _ = _ := h
 clear h
 replace H := Option.bind_eq_some_iff.mp H
 obtain ⟨⟨t1229, t1230⟩, A20, H⟩ := H
 replace H : Option.bind (corporalaw37_interval.f k t1229 t1230) _ = _ := H
 have A2 := Aside0.mk A20
 clear A20
 replace H := Option.bind_eq_some_iff.mp H
 obtain ⟨⟨t1232, t1233, t1234, t1235, t1236, t1237, t1238⟩, A30, H⟩ := H
 replace H : Option.bind (corporalaw37_interval.f k t1229 t1238) _ = _ := H
 have A3 := Aside0.mk A30
 clear A30
 replace H := Option.bind_eq_some_iff.mp H
 obtain ⟨⟨t1239, t1240, t1241, t1242, t1243, t1244, t1245⟩, A40, H⟩ := H
 replace H : Option.bind (enclose_Compare.f k t1232 t1233 t1234 t1235 t1236 t1237 t1239 t1240 t1241 t1242 t1243 t1244) _ = _ := H
 have A4 := Aside0.mk A40
 clear A40
 replace H := Option.bind_eq_some_iff.mp H
 obtain ⟨t1248, A50, H⟩ := H
 replace H : Option.bind (ratio_Compare.f k t1235 t1236 t1237 t1239 t1240 t1241) _ = _ := H
 have A5 := Aside0.mk A50
 clear A50
 have HC6 := Aside0.mk H
 clear H
 go_enter Try.func10, Try.ntmps10
 go_upto_region 4 with (first | ((with_reducible refine gate_callee (f := 23) rfl ?_); refine goesL_ (some 9) rfl rfl Try.func23 (by kernel_rfl) rfl #[.slice A0 l0.length c0] rfl ga ?_; (with_reducible refine (corporamade_New.calls _ _ l0 t1229 t1230 w _ ?side1 ?side2 ?side3 A2.out).mono ?_); (case side1 => repeat (first | (with_reducible first | exact HB.out | apply below_alloc | apply pw_below_drewN | apply below_drew1) | exact HB.out)); (case side2 => exact HR0.out); (case side3 => exact HC0.out); rintro e w7 ⟨g1231, rfl, hi, hb, hb2⟩; refine ⟨_, rfl, ?_⟩; replace HB := Aside0.mk (hb); have HI1231 := Aside0.mk (hi); (try clear hb); (try clear hb2); (try clear hi)) | ((with_reducible refine gate_callee (f := 45) rfl ?_); refine goesL_ (some 11) rfl rfl Try.func45 (by kernel_rfl) rfl #[.pointer (some ⟨g1231, 0, none⟩)] rfl ga ?_; (with_reducible refine (corporalaw37_interval.calls k g1231 t1229 t1230 t1232 t1233 t1234 t1235 t1236 t1237 t1238 w _ ?side1 ?side2 A3.out).mono ?_); (case side1 => exact sx HI1231); (case side2 => exact bx); rintro e w8 ⟨rfl, hi, hb, hk⟩; refine ⟨_, rfl, ?_⟩; replace HB := Aside0.mk (hb); replace HI1231 := Aside0.mk (hi); (try clear hb); (try clear hk); (try clear hi)) | ((with_reducible refine gate_callee (f := 45) rfl ?_); refine goesL_ (some 13) rfl rfl Try.func45 (by kernel_rfl) rfl #[.pointer (some ⟨g1231, 0, none⟩)] rfl ga ?_; (with_reducible refine (corporalaw37_interval.calls k g1231 t1229 t1238 t1239 t1240 t1241 t1242 t1243 t1244 t1245 w _ ?side1 ?side2 A4.out).mono ?_); (case side1 => exact sx HI1231); (case side2 => exact bx); rintro e w9 ⟨rfl, hi, hb, hk⟩; refine ⟨_, rfl, ?_⟩; replace HB := Aside0.mk (hb); replace HI1231 := Aside0.mk (hi); (try clear hb); (try clear hk); (try clear hi)) | ((with_reducible refine gate_dst (N := 4) rfl ?_); refine be (N := 4) (cs := #[.bool false, .string (⟨#[]⟩ : ByteArray), .string (⟨#[]⟩ : ByteArray), .bool false, .string (⟨#[]⟩ : ByteArray), .string (⟨#[]⟩ : ByteArray)]) (t := 44) ?_; intro gb1246 hg w10 hbox hb; have BK1246 := Aside0.mk (hbox); have GW1246 := Aside0.mk (by rw [hg]; exact below_size bx : w.heap.size ≤ gb1246); have GE1246 := GW1246; replace HB := Aside0.mk (below_step bx hb); have NB1231_1246 := Aside0.mk ((by rw [hg]; exact Nat.ne_of_lt (IsS83.lt (sx HI1231)) : g1231 ≠ gb1246)); have NB1246_1231 := Aside0.mk ((by rw [hg]; exact Nat.ne_of_gt (IsS83.lt (sx HI1231)) : gb1246 ≠ g1231)); replace HI1231 := Aside0.mk (IsS83.below (sx HI1231) hb); clear hb hbox hg) | ((with_reducible refine gate_dst (N := 5) rfl ?_); refine be (N := 5) (cs := #[.bool false, .string (⟨#[]⟩ : ByteArray), .string (⟨#[]⟩ : ByteArray), .bool false, .string (⟨#[]⟩ : ByteArray), .string (⟨#[]⟩ : ByteArray)]) (t := 44) ?_; intro gb1247 hg w11 hbox hb; have BK1247 := Aside0.mk (hbox); have GW1247 := Aside0.mk (by rw [hg]; exact below_size bx : w.heap.size ≤ gb1247); have GE1247 := GW1247; replace HB := Aside0.mk (below_step bx hb); have NB1246_1247 := na BK1246 hg; have NB1247_1246 := nz NB1246_1247; replace BK1246 := bb BK1246 hb; have NB1231_1247 := Aside0.mk ((by rw [hg]; exact Nat.ne_of_lt (IsS83.lt (sx HI1231)) : g1231 ≠ gb1247)); have NB1247_1231 := Aside0.mk ((by rw [hg]; exact Nat.ne_of_gt (IsS83.lt (sx HI1231)) : gb1247 ≠ g1231)); replace HI1231 := Aside0.mk (IsS83.below (sx HI1231) hb); clear hb hbox hg; have hnb12 := NB1246_1247.out; have hnc12 := NB1247_1246.out; have hnb13 := NB1246_1231.out; have hnc13 := NB1231_1246.out; have hcz14_0 : w11.cell? ⟨gb1246, 0, none⟩ = some (.bool false) := (blk_cell BK1246.out 0).trans rfl; have hcz14_1 : w11.cell? ⟨gb1246, 1, none⟩ = some (.string (⟨#[]⟩ : ByteArray)) := (blk_cell BK1246.out 1).trans rfl; have hcz14_2 : w11.cell? ⟨gb1246, 2, none⟩ = some (.string (⟨#[]⟩ : ByteArray)) := (blk_cell BK1246.out 2).trans rfl; have hcz14_3 : w11.cell? ⟨gb1246, 3, none⟩ = some (.bool false) := (blk_cell BK1246.out 3).trans rfl; have hcz14_4 : w11.cell? ⟨gb1246, 4, none⟩ = some (.string (⟨#[]⟩ : ByteArray)) := (blk_cell BK1246.out 4).trans rfl; have hcz14_5 : w11.cell? ⟨gb1246, 5, none⟩ = some (.string (⟨#[]⟩ : ByteArray)) := (blk_cell BK1246.out 5).trans rfl; have hfz14_0 := blk_frozen BK1246.out 0; have hfz14_1 := blk_frozen BK1246.out 1; have hfz14_2 := blk_frozen BK1246.out 2; have hfz14_3 := blk_frozen BK1246.out 3; have hfz14_4 := blk_frozen BK1246.out 4; have hfz14_5 := blk_frozen BK1246.out 5; have hnb15 := NB1247_1231.out; have hnc15 := NB1231_1247.out; have hcz16_0 : w11.cell? ⟨gb1247, 0, none⟩ = some (.bool false) := (blk_cell BK1247.out 0).trans rfl; have hcz16_1 : w11.cell? ⟨gb1247, 1, none⟩ = some (.string (⟨#[]⟩ : ByteArray)) := (blk_cell BK1247.out 1).trans rfl; have hcz16_2 : w11.cell? ⟨gb1247, 2, none⟩ = some (.string (⟨#[]⟩ : ByteArray)) := (blk_cell BK1247.out 2).trans rfl; have hcz16_3 : w11.cell? ⟨gb1247, 3, none⟩ = some (.bool false) := (blk_cell BK1247.out 3).trans rfl; have hcz16_4 : w11.cell? ⟨gb1247, 4, none⟩ = some (.string (⟨#[]⟩ : ByteArray)) := (blk_cell BK1247.out 4).trans rfl; have hcz16_5 : w11.cell? ⟨gb1247, 5, none⟩ = some (.string (⟨#[]⟩ : ByteArray)) := (blk_cell BK1247.out 5).trans rfl; have hfz16_0 := blk_frozen BK1247.out 0; have hfz16_1 := blk_frozen BK1247.out 1; have hfz16_2 := blk_frozen BK1247.out 2; have hfz16_3 := blk_frozen BK1247.out 3; have hfz16_4 := blk_frozen BK1247.out 4; have hfz16_5 := blk_frozen BK1247.out 5) | ((with_reducible refine gate_callee (f := 46) rfl ?_); refine goesL_ (some 16) rfl rfl Try.func46 (by kernel_rfl) rfl #[.agg #[.bool t1232, .string t1233, .string t1234, .bool t1235, .string t1236, .string t1237], .agg #[.bool t1239, .string t1240, .string t1241, .bool t1242, .string t1243, .string t1244]] rfl ga ?_; (with_reducible refine (enclose_Compare.calls k t1232 t1233 t1234 t1235 t1236 t1237 t1239 t1240 t1241 t1242 t1243 t1244 t1248 _ A5.out).mono ?_); rintro e w17 ⟨rfl, hb⟩; refine ⟨_, rfl, ?_⟩; replace BK1246 := bq BK1246 #[.bool t1232, .string t1233, .string t1234, .bool t1235, .string t1236, .string t1237] hb; replace BK1247 := bq BK1247 #[.bool t1239, .string t1240, .string t1241, .bool t1242, .string t1243, .string t1244] hb; replace HB := Aside0.mk (below_step bx hb); replace HI1231 := Aside0.mk (IsS83.below (sx HI1231) hb); (try clear hb)))
 (try simp only [Act.put, List.setIfInBounds_toArray, List.set_cons_zero, List.set_cons_succ])
 go_cut [7] (fun v7 wc => ∃ (kq : Nat) (x7_5 : Bool), v7 = .bool x7_5 ∧ Aside0 (corporalaw37_EncloseCompares.j0 kq t1248 x7_5 t1232 t1233 t1234 t1235 t1236 t1237 t1239 t1240 t1241 t1242 t1243 t1244 = some r) ∧ Aside0 (kq ≤ k) ∧ Aside0 (wc.heap[gb1246]? = some (.cells #[.bool t1232, .string t1233, .string t1234, .bool t1235, .string t1236, .string t1237] 44 (0, 0))) ∧ Aside0 (wc.heap[gb1247]? = some (.cells #[.bool t1239, .string t1240, .string t1241, .bool t1242, .string t1243, .string t1244] 44 (0, 0))) ∧ Aside0 (Below w.heap.size w wc))
 case first =>
  have H := HC6.out
  clear HC6
  replace H := Option.bind_eq_some_iff.mp H
  obtain ⟨t1249, A180, H⟩ := H
  replace H : (if t1249 < 0 then _ else _) = _ := H
  have A18 := Aside0.mk A180
  clear A180
  by_cases c19 : t1249 < 0
  ·rw [if_pos c19] at H
   have c19b0 : decide (t1249 < 0) = true := decide_eq_true c19
   clear c19
   (first | rw [c19b0] | (simp only [i64_w, i32_w]; rw [c19b0]) | skip)
   have H' := Aside0.mk H
   clear H
   have hnb20 := NB1246_1247.out
   have hnc20 := NB1247_1246.out
   have hnb21 := NB1246_1231.out
   have hnc21 := NB1231_1246.out
   have hcz22_0 : w17.cell? ⟨gb1246, 0, none⟩ = some (.bool t1232) := (blk_cell BK1246.out 0).trans rfl
   have hcz22_1 : w17.cell? ⟨gb1246, 1, none⟩ = some (.string t1233) := (blk_cell BK1246.out 1).trans rfl
   have hcz22_2 : w17.cell? ⟨gb1246, 2, none⟩ = some (.string t1234) := (blk_cell BK1246.out 2).trans rfl
   have hcz22_3 : w17.cell? ⟨gb1246, 3, none⟩ = some (.bool t1235) := (blk_cell BK1246.out 3).trans rfl
   have hcz22_4 : w17.cell? ⟨gb1246, 4, none⟩ = some (.string t1236) := (blk_cell BK1246.out 4).trans rfl
   have hcz22_5 : w17.cell? ⟨gb1246, 5, none⟩ = some (.string t1237) := (blk_cell BK1246.out 5).trans rfl
   have hfz22_0 := blk_frozen BK1246.out 0
   have hfz22_1 := blk_frozen BK1246.out 1
   have hfz22_2 := blk_frozen BK1246.out 2
   have hfz22_3 := blk_frozen BK1246.out 3
   have hfz22_4 := blk_frozen BK1246.out 4
   have hfz22_5 := blk_frozen BK1246.out 5
   have hnb23 := NB1247_1231.out
   have hnc23 := NB1231_1247.out
   have hcz24_0 : w17.cell? ⟨gb1247, 0, none⟩ = some (.bool t1239) := (blk_cell BK1247.out 0).trans rfl
   have hcz24_1 : w17.cell? ⟨gb1247, 1, none⟩ = some (.string t1240) := (blk_cell BK1247.out 1).trans rfl
   have hcz24_2 : w17.cell? ⟨gb1247, 2, none⟩ = some (.string t1241) := (blk_cell BK1247.out 2).trans rfl
   have hcz24_3 : w17.cell? ⟨gb1247, 3, none⟩ = some (.bool t1242) := (blk_cell BK1247.out 3).trans rfl
   have hcz24_4 : w17.cell? ⟨gb1247, 4, none⟩ = some (.string t1243) := (blk_cell BK1247.out 4).trans rfl
   have hcz24_5 : w17.cell? ⟨gb1247, 5, none⟩ = some (.string t1244) := (blk_cell BK1247.out 5).trans rfl
   have hfz24_0 := blk_frozen BK1247.out 0
   have hfz24_1 := blk_frozen BK1247.out 1
   have hfz24_2 := blk_frozen BK1247.out 2
   have hfz24_3 := blk_frozen BK1247.out 3
   have hfz24_4 := blk_frozen BK1247.out 4
   have hfz24_5 := blk_frozen BK1247.out 5
   go_wp2_with (first | ((with_reducible refine gate_callee (f := 47) rfl ?_); refine goesL_ (some 21) rfl rfl Try.func47 (by kernel_rfl) rfl #[.agg #[.bool t1235, .string t1236, .string t1237], .agg #[.bool t1239, .string t1240, .string t1241]] rfl ga ?_; (with_reducible refine (ratio_Compare.calls k t1235 t1236 t1237 t1239 t1240 t1241 t1249 _ A18.out).mono ?_); rintro e w25 ⟨rfl, hb⟩; refine ⟨_, rfl, ?_⟩; replace BK1246 := bb BK1246 hb; replace BK1247 := bb BK1247 hb; replace HB := Aside0.mk (below_step bx hb); replace HI1231 := Aside0.mk (IsS83.below (sx HI1231) hb); (try clear hb)))
   go_meet
   case rel => exact ⟨_, (true), sv, H', ⟨by first | omega | exact Nat.le_refl _⟩, ⟨bk⟩, ⟨bk⟩, ⟨bx⟩⟩
  ·rw [if_neg c19] at H
   have c19b0 : decide (t1249 < 0) = false := decide_eq_false c19
   clear c19
   (first | rw [c19b0] | (simp only [i64_w, i32_w]; rw [c19b0]) | skip)
   replace H := Option.bind_eq_some_iff.mp H
   obtain ⟨t1250, A260, H⟩ := H
   replace H : (corporalaw37_EncloseCompares.j0 k t1248 (decide (t1250 < 0)) t1232 t1233 t1234 t1235 t1236 t1237 t1239 t1240 t1241 t1242 t1243 t1244) = some r := H
   have A26 := Aside0.mk A260
   clear A260
   have H' := Aside0.mk H
   clear H
   have hnb27 := NB1246_1247.out
   have hnc27 := NB1247_1246.out
   have hnb28 := NB1246_1231.out
   have hnc28 := NB1231_1246.out
   have hcz29_0 : w17.cell? ⟨gb1246, 0, none⟩ = some (.bool t1232) := (blk_cell BK1246.out 0).trans rfl
   have hcz29_1 : w17.cell? ⟨gb1246, 1, none⟩ = some (.string t1233) := (blk_cell BK1246.out 1).trans rfl
   have hcz29_2 : w17.cell? ⟨gb1246, 2, none⟩ = some (.string t1234) := (blk_cell BK1246.out 2).trans rfl
   have hcz29_3 : w17.cell? ⟨gb1246, 3, none⟩ = some (.bool t1235) := (blk_cell BK1246.out 3).trans rfl
   have hcz29_4 : w17.cell? ⟨gb1246, 4, none⟩ = some (.string t1236) := (blk_cell BK1246.out 4).trans rfl
   have hcz29_5 : w17.cell? ⟨gb1246, 5, none⟩ = some (.string t1237) := (blk_cell BK1246.out 5).trans rfl
   have hfz29_0 := blk_frozen BK1246.out 0
   have hfz29_1 := blk_frozen BK1246.out 1
   have hfz29_2 := blk_frozen BK1246.out 2
   have hfz29_3 := blk_frozen BK1246.out 3
   have hfz29_4 := blk_frozen BK1246.out 4
   have hfz29_5 := blk_frozen BK1246.out 5
   have hnb30 := NB1247_1231.out
   have hnc30 := NB1231_1247.out
   have hcz31_0 : w17.cell? ⟨gb1247, 0, none⟩ = some (.bool t1239) := (blk_cell BK1247.out 0).trans rfl
   have hcz31_1 : w17.cell? ⟨gb1247, 1, none⟩ = some (.string t1240) := (blk_cell BK1247.out 1).trans rfl
   have hcz31_2 : w17.cell? ⟨gb1247, 2, none⟩ = some (.string t1241) := (blk_cell BK1247.out 2).trans rfl
   have hcz31_3 : w17.cell? ⟨gb1247, 3, none⟩ = some (.bool t1242) := (blk_cell BK1247.out 3).trans rfl
   have hcz31_4 : w17.cell? ⟨gb1247, 4, none⟩ = some (.string t1243) := (blk_cell BK1247.out 4).trans rfl
   have hcz31_5 : w17.cell? ⟨gb1247, 5, none⟩ = some (.string t1244) := (blk_cell BK1247.out 5).trans rfl
   have hfz31_0 := blk_frozen BK1247.out 0
   have hfz31_1 := blk_frozen BK1247.out 1
   have hfz31_2 := blk_frozen BK1247.out 2
   have hfz31_3 := blk_frozen BK1247.out 3
   have hfz31_4 := blk_frozen BK1247.out 4
   have hfz31_5 := blk_frozen BK1247.out 5
   go_wp2_with (first | ((with_reducible refine gate_callee (f := 47) rfl ?_); refine goesL_ (some 21) rfl rfl Try.func47 (by kernel_rfl) rfl #[.agg #[.bool t1235, .string t1236, .string t1237], .agg #[.bool t1239, .string t1240, .string t1241]] rfl ga ?_; (with_reducible refine (ratio_Compare.calls k t1235 t1236 t1237 t1239 t1240 t1241 t1249 _ A18.out).mono ?_); rintro e w32 ⟨rfl, hb⟩; refine ⟨_, rfl, ?_⟩; replace BK1246 := bb BK1246 hb; replace BK1247 := bb BK1247 hb; replace HB := Aside0.mk (below_step bx hb); replace HI1231 := Aside0.mk (IsS83.below (sx HI1231) hb); (try clear hb); have hcz33_0 : w32.cell? ⟨gb1247, 0, none⟩ = some (.bool t1239) := (blk_cell BK1247.out 0).trans rfl; have hcz33_1 : w32.cell? ⟨gb1247, 1, none⟩ = some (.string t1240) := (blk_cell BK1247.out 1).trans rfl; have hcz33_2 : w32.cell? ⟨gb1247, 2, none⟩ = some (.string t1241) := (blk_cell BK1247.out 2).trans rfl; have hcz33_3 : w32.cell? ⟨gb1247, 3, none⟩ = some (.bool t1242) := (blk_cell BK1247.out 3).trans rfl; have hcz33_4 : w32.cell? ⟨gb1247, 4, none⟩ = some (.string t1243) := (blk_cell BK1247.out 4).trans rfl; have hcz33_5 : w32.cell? ⟨gb1247, 5, none⟩ = some (.string t1244) := (blk_cell BK1247.out 5).trans rfl; have hfz33_0 := blk_frozen BK1247.out 0; have hfz33_1 := blk_frozen BK1247.out 1; have hfz33_2 := blk_frozen BK1247.out 2; have hfz33_3 := blk_frozen BK1247.out 3; have hfz33_4 := blk_frozen BK1247.out 4; have hfz33_5 := blk_frozen BK1247.out 5; have hcz34_0 : w32.cell? ⟨gb1246, 0, none⟩ = some (.bool t1232) := (blk_cell BK1246.out 0).trans rfl; have hcz34_1 : w32.cell? ⟨gb1246, 1, none⟩ = some (.string t1233) := (blk_cell BK1246.out 1).trans rfl; have hcz34_2 : w32.cell? ⟨gb1246, 2, none⟩ = some (.string t1234) := (blk_cell BK1246.out 2).trans rfl; have hcz34_3 : w32.cell? ⟨gb1246, 3, none⟩ = some (.bool t1235) := (blk_cell BK1246.out 3).trans rfl; have hcz34_4 : w32.cell? ⟨gb1246, 4, none⟩ = some (.string t1236) := (blk_cell BK1246.out 4).trans rfl; have hcz34_5 : w32.cell? ⟨gb1246, 5, none⟩ = some (.string t1237) := (blk_cell BK1246.out 5).trans rfl; have hfz34_0 := blk_frozen BK1246.out 0; have hfz34_1 := blk_frozen BK1246.out 1; have hfz34_2 := blk_frozen BK1246.out 2; have hfz34_3 := blk_frozen BK1246.out 3; have hfz34_4 := blk_frozen BK1246.out 4; have hfz34_5 := blk_frozen BK1246.out 5) | (go_at_call 47; (with_reducible refine (ratio_Compare.calls k t1242 t1243 t1244 t1232 t1233 t1234 t1250 _ A26.out).mono ?_); rintro e w35 ⟨rfl, hb⟩; replace BK1246 := bb BK1246 hb; replace BK1247 := bb BK1247 hb; replace HB := Aside0.mk (below_step bx hb); replace HI1231 := Aside0.mk (IsS83.below (sx HI1231) hb); (try clear hb)))
   go_meet
   case rel => exact ⟨_, (decide (t1250 < 0)), sv, H', ⟨by first | omega | exact Nat.le_refl _⟩, ⟨bk⟩, ⟨bk⟩, ⟨bx⟩⟩
 case rest =>
  clear HC6
  try clear c19b0
  try clear hcz14_0
  try clear hcz14_1
  try clear hcz14_2
  try clear hcz14_3
  try clear hcz14_4
  try clear hcz14_5
  try clear hcz16_0
  try clear hcz16_1
  try clear hcz16_2
  try clear hcz16_3
  try clear hcz16_4
  try clear hcz16_5
  try clear hcz22_0
  try clear hcz22_1
  try clear hcz22_2
  try clear hcz22_3
  try clear hcz22_4
  try clear hcz22_5
  try clear hcz24_0
  try clear hcz24_1
  try clear hcz24_2
  try clear hcz24_3
  try clear hcz24_4
  try clear hcz24_5
  try clear hcz29_0
  try clear hcz29_1
  try clear hcz29_2
  try clear hcz29_3
  try clear hcz29_4
  try clear hcz29_5
  try clear hcz31_0
  try clear hcz31_1
  try clear hcz31_2
  try clear hcz31_3
  try clear hcz31_4
  try clear hcz31_5
  try clear hcz33_0
  try clear hcz33_1
  try clear hcz33_2
  try clear hcz33_3
  try clear hcz33_4
  try clear hcz33_5
  try clear hcz34_0
  try clear hcz34_1
  try clear hcz34_2
  try clear hcz34_3
  try clear hcz34_4
  try clear hcz34_5
  try clear hfz14_0
  try clear hfz14_1
  try clear hfz14_2
  try clear hfz14_3
  try clear hfz14_4
  try clear hfz14_5
  try clear hfz16_0
  try clear hfz16_1
  try clear hfz16_2
  try clear hfz16_3
  try clear hfz16_4
  try clear hfz16_5
  try clear hfz22_0
  try clear hfz22_1
  try clear hfz22_2
  try clear hfz22_3
  try clear hfz22_4
  try clear hfz22_5
  try clear hfz24_0
  try clear hfz24_1
  try clear hfz24_2
  try clear hfz24_3
  try clear hfz24_4
  try clear hfz24_5
  try clear hfz29_0
  try clear hfz29_1
  try clear hfz29_2
  try clear hfz29_3
  try clear hfz29_4
  try clear hfz29_5
  try clear hfz31_0
  try clear hfz31_1
  try clear hfz31_2
  try clear hfz31_3
  try clear hfz31_4
  try clear hfz31_5
  try clear hfz33_0
  try clear hfz33_1
  try clear hfz33_2
  try clear hfz33_3
  try clear hfz33_4
  try clear hfz33_5
  try clear hfz34_0
  try clear hfz34_1
  try clear hfz34_2
  try clear hfz34_3
  try clear hfz34_4
  try clear hfz34_5
  obtain ⟨kq, x7_5, rfl, HA, HJ5, BK1246, BK1247, HB⟩ := hcut
  cases kq with
  | zero => exact absurd HA.out (by simp [corporalaw37_EncloseCompares.j0])
  | succ kj5 =>
   have H := HA.out
   clear HA
   simp only [corporalaw37_EncloseCompares.j0] at H
   replace H := Option.bind_eq_some_iff.mp H
   obtain ⟨t1251, A360, H⟩ := H
   replace H : (if t1248 = t1251 then _ else _) = _ := H
   have A36 := Aside0.mk A360
   clear A360
   by_cases c37 : t1248 = t1251
   ·rw [if_pos c37] at H
    have c37b0 : (t1248 == t1251) = true := beq_iff_eq.mpr c37
    have c37b1 : (t1248 != t1251) = false := bne_eq_false_iff_eq.mpr c37
    clear c37
    replace H := Option.bind_eq_some_iff.mp H
    obtain ⟨t1252, A380, H⟩ := H
    replace H : (if t1252 = (wrap64 (-t1248)) then _ else _) = _ := H
    have A38 := Aside0.mk A380
    clear A380
    by_cases c39 : t1252 = (wrap64 (-t1248))
    ·rw [if_pos c39] at H
     have c39b0 : (t1252 == (wrap64 (-t1248))) = true := beq_iff_eq.mpr c39
     have c39b1 : (t1252 != (wrap64 (-t1248))) = false := bne_eq_false_iff_eq.mpr c39
     clear c39
     by_cases c40 : ((t1248 != 0) == x7_5) = true
     ·rw [if_pos c40] at H
      have c40b0 : ((t1248 != 0) == x7_5) = true := c40
      (try (have c40b1 : decide ((t1248 != 0) = x7_5) = true := by simpa using c40))
      (try (have c40b2 : ((t1248 != 0) == x7_5) = true := by simpa using c40))
      clear c40
      replace H := Option.bind_eq_some_iff.mp H
      obtain ⟨t1253, A410, H⟩ := H
      replace H : (if t1253 = true then _ else _) = _ := H
      have A41 := Aside0.mk A410
      clear A410
      by_cases c42 : t1253 = true
      ·subst c42
       have H1 : Option.bind (enclose_Contains.f kj5 t1232 t1233 t1234 t1235 t1236 t1237 t1235 t1236 t1237) _ = _ := (if_pos rfl).symm.trans H
       clear H
       have H := H1
       clear H1
       replace H := Option.bind_eq_some_iff.mp H
       obtain ⟨t1254, A430, H⟩ := H
       replace H : (if t1254 = true then ((corporalaw37_known.f kj5).bind fun t1255 => (some t1255)) else (some false)) = some r := H
       have A43 := Aside0.mk A430
       clear A430
       by_cases c44 : t1254 = true
       ·subst c44
        have H1 : ((corporalaw37_known.f kj5).bind fun t1255 => (some t1255)) = some r := by rw [if_pos rfl] at H; exact H
        clear H
        have H := H1
        clear H1
        replace H := Option.bind_eq_some_iff.mp H
        obtain ⟨t1255, A450, H⟩ := H
        replace H : (some t1255) = some r := H
        have A45 := Aside0.mk A450
        clear A450
        obtain rfl := Option.some.inj H
        have hnb46 := NB1246_1247.out
        have hnc46 := NB1247_1246.out
        have hcz47_0 : wc.cell? ⟨gb1246, 0, none⟩ = some (.bool t1232) := (blk_cell BK1246.out 0).trans rfl
        have hcz47_1 : wc.cell? ⟨gb1246, 1, none⟩ = some (.string t1233) := (blk_cell BK1246.out 1).trans rfl
        have hcz47_2 : wc.cell? ⟨gb1246, 2, none⟩ = some (.string t1234) := (blk_cell BK1246.out 2).trans rfl
        have hcz47_3 : wc.cell? ⟨gb1246, 3, none⟩ = some (.bool t1235) := (blk_cell BK1246.out 3).trans rfl
        have hcz47_4 : wc.cell? ⟨gb1246, 4, none⟩ = some (.string t1236) := (blk_cell BK1246.out 4).trans rfl
        have hcz47_5 : wc.cell? ⟨gb1246, 5, none⟩ = some (.string t1237) := (blk_cell BK1246.out 5).trans rfl
        have hfz47_0 := blk_frozen BK1246.out 0
        have hfz47_1 := blk_frozen BK1246.out 1
        have hfz47_2 := blk_frozen BK1246.out 2
        have hfz47_3 := blk_frozen BK1246.out 3
        have hfz47_4 := blk_frozen BK1246.out 4
        have hfz47_5 := blk_frozen BK1246.out 5
        have hcz48_0 : wc.cell? ⟨gb1247, 0, none⟩ = some (.bool t1239) := (blk_cell BK1247.out 0).trans rfl
        have hcz48_1 : wc.cell? ⟨gb1247, 1, none⟩ = some (.string t1240) := (blk_cell BK1247.out 1).trans rfl
        have hcz48_2 : wc.cell? ⟨gb1247, 2, none⟩ = some (.string t1241) := (blk_cell BK1247.out 2).trans rfl
        have hcz48_3 : wc.cell? ⟨gb1247, 3, none⟩ = some (.bool t1242) := (blk_cell BK1247.out 3).trans rfl
        have hcz48_4 : wc.cell? ⟨gb1247, 4, none⟩ = some (.string t1243) := (blk_cell BK1247.out 4).trans rfl
        have hcz48_5 : wc.cell? ⟨gb1247, 5, none⟩ = some (.string t1244) := (blk_cell BK1247.out 5).trans rfl
        have hfz48_0 := blk_frozen BK1247.out 0
        have hfz48_1 := blk_frozen BK1247.out 1
        have hfz48_2 := blk_frozen BK1247.out 2
        have hfz48_3 := blk_frozen BK1247.out 3
        have hfz48_4 := blk_frozen BK1247.out 4
        have hfz48_5 := blk_frozen BK1247.out 5
        go_wp2_with (first | ((with_reducible refine gate_callee (f := 48) rfl ?_); refine goesL_ (some 34) rfl rfl Try.func48 (by kernel_rfl) rfl #[.agg #[.bool t1232, .string t1233, .string t1234, .bool t1235, .string t1236, .string t1237], .agg #[.bool t1239, .string t1240, .string t1241, .bool t1242, .string t1243, .string t1244]] rfl ga ?_; (with_reducible refine (corporaref37_Compare.calls kj5 t1232 t1233 t1234 t1235 t1236 t1237 t1239 t1240 t1241 t1242 t1243 t1244 t1251 _ A36.out).mono ?_); rintro e w49 ⟨rfl, hb⟩; refine ⟨_, rfl, ?_⟩; replace BK1246 := bb BK1246 hb; replace BK1247 := bb BK1247 hb; replace HB := hs HB hb; (try clear hb); have hcz50_0 : w49.cell? ⟨gb1247, 0, none⟩ = some (.bool t1239) := (blk_cell BK1247.out 0).trans rfl; have hcz50_1 : w49.cell? ⟨gb1247, 1, none⟩ = some (.string t1240) := (blk_cell BK1247.out 1).trans rfl; have hcz50_2 : w49.cell? ⟨gb1247, 2, none⟩ = some (.string t1241) := (blk_cell BK1247.out 2).trans rfl; have hcz50_3 : w49.cell? ⟨gb1247, 3, none⟩ = some (.bool t1242) := (blk_cell BK1247.out 3).trans rfl; have hcz50_4 : w49.cell? ⟨gb1247, 4, none⟩ = some (.string t1243) := (blk_cell BK1247.out 4).trans rfl; have hcz50_5 : w49.cell? ⟨gb1247, 5, none⟩ = some (.string t1244) := (blk_cell BK1247.out 5).trans rfl; have hfz50_0 := blk_frozen BK1247.out 0; have hfz50_1 := blk_frozen BK1247.out 1; have hfz50_2 := blk_frozen BK1247.out 2; have hfz50_3 := blk_frozen BK1247.out 3; have hfz50_4 := blk_frozen BK1247.out 4; have hfz50_5 := blk_frozen BK1247.out 5; have hcz51_0 : w49.cell? ⟨gb1246, 0, none⟩ = some (.bool t1232) := (blk_cell BK1246.out 0).trans rfl; have hcz51_1 : w49.cell? ⟨gb1246, 1, none⟩ = some (.string t1233) := (blk_cell BK1246.out 1).trans rfl; have hcz51_2 : w49.cell? ⟨gb1246, 2, none⟩ = some (.string t1234) := (blk_cell BK1246.out 2).trans rfl; have hcz51_3 : w49.cell? ⟨gb1246, 3, none⟩ = some (.bool t1235) := (blk_cell BK1246.out 3).trans rfl; have hcz51_4 : w49.cell? ⟨gb1246, 4, none⟩ = some (.string t1236) := (blk_cell BK1246.out 4).trans rfl; have hcz51_5 : w49.cell? ⟨gb1246, 5, none⟩ = some (.string t1237) := (blk_cell BK1246.out 5).trans rfl; have hfz51_0 := blk_frozen BK1246.out 0; have hfz51_1 := blk_frozen BK1246.out 1; have hfz51_2 := blk_frozen BK1246.out 2; have hfz51_3 := blk_frozen BK1246.out 3; have hfz51_4 := blk_frozen BK1246.out 4; have hfz51_5 := blk_frozen BK1246.out 5) | (go_at_call 46; (with_reducible refine (enclose_Compare.calls kj5 t1239 t1240 t1241 t1242 t1243 t1244 t1232 t1233 t1234 t1235 t1236 t1237 t1252 _ A38.out).mono ?_); rintro e w52 ⟨rfl, hb⟩; replace BK1246 := bb BK1246 hb; replace BK1247 := bb BK1247 hb; replace HB := hs HB hb; (try clear hb); have hcz53_0 : w52.cell? ⟨gb1246, 0, none⟩ = some (.bool t1232) := (blk_cell BK1246.out 0).trans rfl; have hcz53_1 : w52.cell? ⟨gb1246, 1, none⟩ = some (.string t1233) := (blk_cell BK1246.out 1).trans rfl; have hcz53_2 : w52.cell? ⟨gb1246, 2, none⟩ = some (.string t1234) := (blk_cell BK1246.out 2).trans rfl; have hcz53_3 : w52.cell? ⟨gb1246, 3, none⟩ = some (.bool t1235) := (blk_cell BK1246.out 3).trans rfl; have hcz53_4 : w52.cell? ⟨gb1246, 4, none⟩ = some (.string t1236) := (blk_cell BK1246.out 4).trans rfl; have hcz53_5 : w52.cell? ⟨gb1246, 5, none⟩ = some (.string t1237) := (blk_cell BK1246.out 5).trans rfl; have hfz53_0 := blk_frozen BK1246.out 0; have hfz53_1 := blk_frozen BK1246.out 1; have hfz53_2 := blk_frozen BK1246.out 2; have hfz53_3 := blk_frozen BK1246.out 3; have hfz53_4 := blk_frozen BK1246.out 4; have hfz53_5 := blk_frozen BK1246.out 5) | (go_at_call 49; (with_reducible refine (enclose_Contains.calls kj5 t1232 t1233 t1234 t1235 t1236 t1237 t1232 t1233 t1234 true _ A41.out).mono ?_); rintro e w54 ⟨rfl, hb⟩; replace BK1246 := bb BK1246 hb; replace BK1247 := bb BK1247 hb; replace HB := hs HB hb; (try clear hb); have hcz55_0 : w54.cell? ⟨gb1246, 0, none⟩ = some (.bool t1232) := (blk_cell BK1246.out 0).trans rfl; have hcz55_1 : w54.cell? ⟨gb1246, 1, none⟩ = some (.string t1233) := (blk_cell BK1246.out 1).trans rfl; have hcz55_2 : w54.cell? ⟨gb1246, 2, none⟩ = some (.string t1234) := (blk_cell BK1246.out 2).trans rfl; have hcz55_3 : w54.cell? ⟨gb1246, 3, none⟩ = some (.bool t1235) := (blk_cell BK1246.out 3).trans rfl; have hcz55_4 : w54.cell? ⟨gb1246, 4, none⟩ = some (.string t1236) := (blk_cell BK1246.out 4).trans rfl; have hcz55_5 : w54.cell? ⟨gb1246, 5, none⟩ = some (.string t1237) := (blk_cell BK1246.out 5).trans rfl; have hfz55_0 := blk_frozen BK1246.out 0; have hfz55_1 := blk_frozen BK1246.out 1; have hfz55_2 := blk_frozen BK1246.out 2; have hfz55_3 := blk_frozen BK1246.out 3; have hfz55_4 := blk_frozen BK1246.out 4; have hfz55_5 := blk_frozen BK1246.out 5) | (go_at_call 49; (with_reducible refine (enclose_Contains.calls kj5 t1232 t1233 t1234 t1235 t1236 t1237 t1235 t1236 t1237 true _ A43.out).mono ?_); rintro e w56 ⟨rfl, hb⟩; replace BK1246 := bb BK1246 hb; replace BK1247 := bb BK1247 hb; replace HB := hs HB hb; (try clear hb)) | (go_at_call 28; (with_reducible refine (corporalaw37_known.calls kj5  t1255 _ A45.out).mono ?_); rintro e w57 ⟨rfl, hb⟩; replace BK1246 := bb BK1246 hb; replace BK1247 := bb BK1247 hb; replace HB := hs HB hb; (try clear hb)))
        go_ret
        exact ⟨er, bs⟩
       ·replace c44 := Bool.eq_false_iff.mpr c44
        subst c44
        have H1 : (some false) = some r := by rw [if_neg (show ¬ (false = true) by decide)] at H; exact H
        clear H
        have H := H1
        clear H1
        obtain rfl := Option.some.inj H
        have hnb58 := NB1246_1247.out
        have hnc58 := NB1247_1246.out
        have hcz59_0 : wc.cell? ⟨gb1246, 0, none⟩ = some (.bool t1232) := (blk_cell BK1246.out 0).trans rfl
        have hcz59_1 : wc.cell? ⟨gb1246, 1, none⟩ = some (.string t1233) := (blk_cell BK1246.out 1).trans rfl
        have hcz59_2 : wc.cell? ⟨gb1246, 2, none⟩ = some (.string t1234) := (blk_cell BK1246.out 2).trans rfl
        have hcz59_3 : wc.cell? ⟨gb1246, 3, none⟩ = some (.bool t1235) := (blk_cell BK1246.out 3).trans rfl
        have hcz59_4 : wc.cell? ⟨gb1246, 4, none⟩ = some (.string t1236) := (blk_cell BK1246.out 4).trans rfl
        have hcz59_5 : wc.cell? ⟨gb1246, 5, none⟩ = some (.string t1237) := (blk_cell BK1246.out 5).trans rfl
        have hfz59_0 := blk_frozen BK1246.out 0
        have hfz59_1 := blk_frozen BK1246.out 1
        have hfz59_2 := blk_frozen BK1246.out 2
        have hfz59_3 := blk_frozen BK1246.out 3
        have hfz59_4 := blk_frozen BK1246.out 4
        have hfz59_5 := blk_frozen BK1246.out 5
        have hcz60_0 : wc.cell? ⟨gb1247, 0, none⟩ = some (.bool t1239) := (blk_cell BK1247.out 0).trans rfl
        have hcz60_1 : wc.cell? ⟨gb1247, 1, none⟩ = some (.string t1240) := (blk_cell BK1247.out 1).trans rfl
        have hcz60_2 : wc.cell? ⟨gb1247, 2, none⟩ = some (.string t1241) := (blk_cell BK1247.out 2).trans rfl
        have hcz60_3 : wc.cell? ⟨gb1247, 3, none⟩ = some (.bool t1242) := (blk_cell BK1247.out 3).trans rfl
        have hcz60_4 : wc.cell? ⟨gb1247, 4, none⟩ = some (.string t1243) := (blk_cell BK1247.out 4).trans rfl
        have hcz60_5 : wc.cell? ⟨gb1247, 5, none⟩ = some (.string t1244) := (blk_cell BK1247.out 5).trans rfl
        have hfz60_0 := blk_frozen BK1247.out 0
        have hfz60_1 := blk_frozen BK1247.out 1
        have hfz60_2 := blk_frozen BK1247.out 2
        have hfz60_3 := blk_frozen BK1247.out 3
        have hfz60_4 := blk_frozen BK1247.out 4
        have hfz60_5 := blk_frozen BK1247.out 5
        go_wp2_with (first | ((with_reducible refine gate_callee (f := 48) rfl ?_); refine goesL_ (some 34) rfl rfl Try.func48 (by kernel_rfl) rfl #[.agg #[.bool t1232, .string t1233, .string t1234, .bool t1235, .string t1236, .string t1237], .agg #[.bool t1239, .string t1240, .string t1241, .bool t1242, .string t1243, .string t1244]] rfl ga ?_; (with_reducible refine (corporaref37_Compare.calls kj5 t1232 t1233 t1234 t1235 t1236 t1237 t1239 t1240 t1241 t1242 t1243 t1244 t1251 _ A36.out).mono ?_); rintro e w61 ⟨rfl, hb⟩; refine ⟨_, rfl, ?_⟩; replace BK1246 := bb BK1246 hb; replace BK1247 := bb BK1247 hb; replace HB := hs HB hb; (try clear hb); have hcz62_0 : w61.cell? ⟨gb1247, 0, none⟩ = some (.bool t1239) := (blk_cell BK1247.out 0).trans rfl; have hcz62_1 : w61.cell? ⟨gb1247, 1, none⟩ = some (.string t1240) := (blk_cell BK1247.out 1).trans rfl; have hcz62_2 : w61.cell? ⟨gb1247, 2, none⟩ = some (.string t1241) := (blk_cell BK1247.out 2).trans rfl; have hcz62_3 : w61.cell? ⟨gb1247, 3, none⟩ = some (.bool t1242) := (blk_cell BK1247.out 3).trans rfl; have hcz62_4 : w61.cell? ⟨gb1247, 4, none⟩ = some (.string t1243) := (blk_cell BK1247.out 4).trans rfl; have hcz62_5 : w61.cell? ⟨gb1247, 5, none⟩ = some (.string t1244) := (blk_cell BK1247.out 5).trans rfl; have hfz62_0 := blk_frozen BK1247.out 0; have hfz62_1 := blk_frozen BK1247.out 1; have hfz62_2 := blk_frozen BK1247.out 2; have hfz62_3 := blk_frozen BK1247.out 3; have hfz62_4 := blk_frozen BK1247.out 4; have hfz62_5 := blk_frozen BK1247.out 5; have hcz63_0 : w61.cell? ⟨gb1246, 0, none⟩ = some (.bool t1232) := (blk_cell BK1246.out 0).trans rfl; have hcz63_1 : w61.cell? ⟨gb1246, 1, none⟩ = some (.string t1233) := (blk_cell BK1246.out 1).trans rfl; have hcz63_2 : w61.cell? ⟨gb1246, 2, none⟩ = some (.string t1234) := (blk_cell BK1246.out 2).trans rfl; have hcz63_3 : w61.cell? ⟨gb1246, 3, none⟩ = some (.bool t1235) := (blk_cell BK1246.out 3).trans rfl; have hcz63_4 : w61.cell? ⟨gb1246, 4, none⟩ = some (.string t1236) := (blk_cell BK1246.out 4).trans rfl; have hcz63_5 : w61.cell? ⟨gb1246, 5, none⟩ = some (.string t1237) := (blk_cell BK1246.out 5).trans rfl; have hfz63_0 := blk_frozen BK1246.out 0; have hfz63_1 := blk_frozen BK1246.out 1; have hfz63_2 := blk_frozen BK1246.out 2; have hfz63_3 := blk_frozen BK1246.out 3; have hfz63_4 := blk_frozen BK1246.out 4; have hfz63_5 := blk_frozen BK1246.out 5) | (go_at_call 46; (with_reducible refine (enclose_Compare.calls kj5 t1239 t1240 t1241 t1242 t1243 t1244 t1232 t1233 t1234 t1235 t1236 t1237 t1252 _ A38.out).mono ?_); rintro e w64 ⟨rfl, hb⟩; replace BK1246 := bb BK1246 hb; replace BK1247 := bb BK1247 hb; replace HB := hs HB hb; (try clear hb); have hcz65_0 : w64.cell? ⟨gb1246, 0, none⟩ = some (.bool t1232) := (blk_cell BK1246.out 0).trans rfl; have hcz65_1 : w64.cell? ⟨gb1246, 1, none⟩ = some (.string t1233) := (blk_cell BK1246.out 1).trans rfl; have hcz65_2 : w64.cell? ⟨gb1246, 2, none⟩ = some (.string t1234) := (blk_cell BK1246.out 2).trans rfl; have hcz65_3 : w64.cell? ⟨gb1246, 3, none⟩ = some (.bool t1235) := (blk_cell BK1246.out 3).trans rfl; have hcz65_4 : w64.cell? ⟨gb1246, 4, none⟩ = some (.string t1236) := (blk_cell BK1246.out 4).trans rfl; have hcz65_5 : w64.cell? ⟨gb1246, 5, none⟩ = some (.string t1237) := (blk_cell BK1246.out 5).trans rfl; have hfz65_0 := blk_frozen BK1246.out 0; have hfz65_1 := blk_frozen BK1246.out 1; have hfz65_2 := blk_frozen BK1246.out 2; have hfz65_3 := blk_frozen BK1246.out 3; have hfz65_4 := blk_frozen BK1246.out 4; have hfz65_5 := blk_frozen BK1246.out 5) | (go_at_call 49; (with_reducible refine (enclose_Contains.calls kj5 t1232 t1233 t1234 t1235 t1236 t1237 t1232 t1233 t1234 true _ A41.out).mono ?_); rintro e w66 ⟨rfl, hb⟩; replace BK1246 := bb BK1246 hb; replace BK1247 := bb BK1247 hb; replace HB := hs HB hb; (try clear hb); have hcz67_0 : w66.cell? ⟨gb1246, 0, none⟩ = some (.bool t1232) := (blk_cell BK1246.out 0).trans rfl; have hcz67_1 : w66.cell? ⟨gb1246, 1, none⟩ = some (.string t1233) := (blk_cell BK1246.out 1).trans rfl; have hcz67_2 : w66.cell? ⟨gb1246, 2, none⟩ = some (.string t1234) := (blk_cell BK1246.out 2).trans rfl; have hcz67_3 : w66.cell? ⟨gb1246, 3, none⟩ = some (.bool t1235) := (blk_cell BK1246.out 3).trans rfl; have hcz67_4 : w66.cell? ⟨gb1246, 4, none⟩ = some (.string t1236) := (blk_cell BK1246.out 4).trans rfl; have hcz67_5 : w66.cell? ⟨gb1246, 5, none⟩ = some (.string t1237) := (blk_cell BK1246.out 5).trans rfl; have hfz67_0 := blk_frozen BK1246.out 0; have hfz67_1 := blk_frozen BK1246.out 1; have hfz67_2 := blk_frozen BK1246.out 2; have hfz67_3 := blk_frozen BK1246.out 3; have hfz67_4 := blk_frozen BK1246.out 4; have hfz67_5 := blk_frozen BK1246.out 5) | (go_at_call 49; (with_reducible refine (enclose_Contains.calls kj5 t1232 t1233 t1234 t1235 t1236 t1237 t1235 t1236 t1237 false _ A43.out).mono ?_); rintro e w68 ⟨rfl, hb⟩; replace BK1246 := bb BK1246 hb; replace BK1247 := bb BK1247 hb; replace HB := hs HB hb; (try clear hb)))
        go_ret
        exact ⟨er, bs⟩
      ·replace c42 := Bool.eq_false_iff.mpr c42
       subst c42
       have H1 : (some false) = some r := by rw [if_neg (show ¬ (false = true) by decide)] at H; exact H
       clear H
       have H := H1
       clear H1
       obtain rfl := Option.some.inj H
       have hnb69 := NB1246_1247.out
       have hnc69 := NB1247_1246.out
       have hcz70_0 : wc.cell? ⟨gb1246, 0, none⟩ = some (.bool t1232) := (blk_cell BK1246.out 0).trans rfl
       have hcz70_1 : wc.cell? ⟨gb1246, 1, none⟩ = some (.string t1233) := (blk_cell BK1246.out 1).trans rfl
       have hcz70_2 : wc.cell? ⟨gb1246, 2, none⟩ = some (.string t1234) := (blk_cell BK1246.out 2).trans rfl
       have hcz70_3 : wc.cell? ⟨gb1246, 3, none⟩ = some (.bool t1235) := (blk_cell BK1246.out 3).trans rfl
       have hcz70_4 : wc.cell? ⟨gb1246, 4, none⟩ = some (.string t1236) := (blk_cell BK1246.out 4).trans rfl
       have hcz70_5 : wc.cell? ⟨gb1246, 5, none⟩ = some (.string t1237) := (blk_cell BK1246.out 5).trans rfl
       have hfz70_0 := blk_frozen BK1246.out 0
       have hfz70_1 := blk_frozen BK1246.out 1
       have hfz70_2 := blk_frozen BK1246.out 2
       have hfz70_3 := blk_frozen BK1246.out 3
       have hfz70_4 := blk_frozen BK1246.out 4
       have hfz70_5 := blk_frozen BK1246.out 5
       have hcz71_0 : wc.cell? ⟨gb1247, 0, none⟩ = some (.bool t1239) := (blk_cell BK1247.out 0).trans rfl
       have hcz71_1 : wc.cell? ⟨gb1247, 1, none⟩ = some (.string t1240) := (blk_cell BK1247.out 1).trans rfl
       have hcz71_2 : wc.cell? ⟨gb1247, 2, none⟩ = some (.string t1241) := (blk_cell BK1247.out 2).trans rfl
       have hcz71_3 : wc.cell? ⟨gb1247, 3, none⟩ = some (.bool t1242) := (blk_cell BK1247.out 3).trans rfl
       have hcz71_4 : wc.cell? ⟨gb1247, 4, none⟩ = some (.string t1243) := (blk_cell BK1247.out 4).trans rfl
       have hcz71_5 : wc.cell? ⟨gb1247, 5, none⟩ = some (.string t1244) := (blk_cell BK1247.out 5).trans rfl
       have hfz71_0 := blk_frozen BK1247.out 0
       have hfz71_1 := blk_frozen BK1247.out 1
       have hfz71_2 := blk_frozen BK1247.out 2
       have hfz71_3 := blk_frozen BK1247.out 3
       have hfz71_4 := blk_frozen BK1247.out 4
       have hfz71_5 := blk_frozen BK1247.out 5
       go_wp2_with (first | ((with_reducible refine gate_callee (f := 48) rfl ?_); refine goesL_ (some 34) rfl rfl Try.func48 (by kernel_rfl) rfl #[.agg #[.bool t1232, .string t1233, .string t1234, .bool t1235, .string t1236, .string t1237], .agg #[.bool t1239, .string t1240, .string t1241, .bool t1242, .string t1243, .string t1244]] rfl ga ?_; (with_reducible refine (corporaref37_Compare.calls kj5 t1232 t1233 t1234 t1235 t1236 t1237 t1239 t1240 t1241 t1242 t1243 t1244 t1251 _ A36.out).mono ?_); rintro e w72 ⟨rfl, hb⟩; refine ⟨_, rfl, ?_⟩; replace BK1246 := bb BK1246 hb; replace BK1247 := bb BK1247 hb; replace HB := hs HB hb; (try clear hb); have hcz73_0 : w72.cell? ⟨gb1247, 0, none⟩ = some (.bool t1239) := (blk_cell BK1247.out 0).trans rfl; have hcz73_1 : w72.cell? ⟨gb1247, 1, none⟩ = some (.string t1240) := (blk_cell BK1247.out 1).trans rfl; have hcz73_2 : w72.cell? ⟨gb1247, 2, none⟩ = some (.string t1241) := (blk_cell BK1247.out 2).trans rfl; have hcz73_3 : w72.cell? ⟨gb1247, 3, none⟩ = some (.bool t1242) := (blk_cell BK1247.out 3).trans rfl; have hcz73_4 : w72.cell? ⟨gb1247, 4, none⟩ = some (.string t1243) := (blk_cell BK1247.out 4).trans rfl; have hcz73_5 : w72.cell? ⟨gb1247, 5, none⟩ = some (.string t1244) := (blk_cell BK1247.out 5).trans rfl; have hfz73_0 := blk_frozen BK1247.out 0; have hfz73_1 := blk_frozen BK1247.out 1; have hfz73_2 := blk_frozen BK1247.out 2; have hfz73_3 := blk_frozen BK1247.out 3; have hfz73_4 := blk_frozen BK1247.out 4; have hfz73_5 := blk_frozen BK1247.out 5; have hcz74_0 : w72.cell? ⟨gb1246, 0, none⟩ = some (.bool t1232) := (blk_cell BK1246.out 0).trans rfl; have hcz74_1 : w72.cell? ⟨gb1246, 1, none⟩ = some (.string t1233) := (blk_cell BK1246.out 1).trans rfl; have hcz74_2 : w72.cell? ⟨gb1246, 2, none⟩ = some (.string t1234) := (blk_cell BK1246.out 2).trans rfl; have hcz74_3 : w72.cell? ⟨gb1246, 3, none⟩ = some (.bool t1235) := (blk_cell BK1246.out 3).trans rfl; have hcz74_4 : w72.cell? ⟨gb1246, 4, none⟩ = some (.string t1236) := (blk_cell BK1246.out 4).trans rfl; have hcz74_5 : w72.cell? ⟨gb1246, 5, none⟩ = some (.string t1237) := (blk_cell BK1246.out 5).trans rfl; have hfz74_0 := blk_frozen BK1246.out 0; have hfz74_1 := blk_frozen BK1246.out 1; have hfz74_2 := blk_frozen BK1246.out 2; have hfz74_3 := blk_frozen BK1246.out 3; have hfz74_4 := blk_frozen BK1246.out 4; have hfz74_5 := blk_frozen BK1246.out 5) | (go_at_call 46; (with_reducible refine (enclose_Compare.calls kj5 t1239 t1240 t1241 t1242 t1243 t1244 t1232 t1233 t1234 t1235 t1236 t1237 t1252 _ A38.out).mono ?_); rintro e w75 ⟨rfl, hb⟩; replace BK1246 := bb BK1246 hb; replace BK1247 := bb BK1247 hb; replace HB := hs HB hb; (try clear hb); have hcz76_0 : w75.cell? ⟨gb1246, 0, none⟩ = some (.bool t1232) := (blk_cell BK1246.out 0).trans rfl; have hcz76_1 : w75.cell? ⟨gb1246, 1, none⟩ = some (.string t1233) := (blk_cell BK1246.out 1).trans rfl; have hcz76_2 : w75.cell? ⟨gb1246, 2, none⟩ = some (.string t1234) := (blk_cell BK1246.out 2).trans rfl; have hcz76_3 : w75.cell? ⟨gb1246, 3, none⟩ = some (.bool t1235) := (blk_cell BK1246.out 3).trans rfl; have hcz76_4 : w75.cell? ⟨gb1246, 4, none⟩ = some (.string t1236) := (blk_cell BK1246.out 4).trans rfl; have hcz76_5 : w75.cell? ⟨gb1246, 5, none⟩ = some (.string t1237) := (blk_cell BK1246.out 5).trans rfl; have hfz76_0 := blk_frozen BK1246.out 0; have hfz76_1 := blk_frozen BK1246.out 1; have hfz76_2 := blk_frozen BK1246.out 2; have hfz76_3 := blk_frozen BK1246.out 3; have hfz76_4 := blk_frozen BK1246.out 4; have hfz76_5 := blk_frozen BK1246.out 5) | (go_at_call 49; (with_reducible refine (enclose_Contains.calls kj5 t1232 t1233 t1234 t1235 t1236 t1237 t1232 t1233 t1234 false _ A41.out).mono ?_); rintro e w77 ⟨rfl, hb⟩; replace BK1246 := bb BK1246 hb; replace BK1247 := bb BK1247 hb; replace HB := hs HB hb; (try clear hb)))
       go_ret
       exact ⟨er, bs⟩
     ·rw [if_neg c40] at H
      have c40b0 : ((t1248 != 0) == x7_5) = false := by simpa using c40
      (try (have c40b1 : decide ((t1248 != 0) = x7_5) = false := by simpa using c40))
      (try (have c40b2 : ((t1248 != 0) == x7_5) = false := by simpa using c40))
      (try (have c40b3 : ¬ ((t1248 != 0) = x7_5) := by simpa using c40))
      clear c40
      obtain rfl := Option.some.inj H
      have hnb78 := NB1246_1247.out
      have hnc78 := NB1247_1246.out
      have hcz79_0 : wc.cell? ⟨gb1246, 0, none⟩ = some (.bool t1232) := (blk_cell BK1246.out 0).trans rfl
      have hcz79_1 : wc.cell? ⟨gb1246, 1, none⟩ = some (.string t1233) := (blk_cell BK1246.out 1).trans rfl
      have hcz79_2 : wc.cell? ⟨gb1246, 2, none⟩ = some (.string t1234) := (blk_cell BK1246.out 2).trans rfl
      have hcz79_3 : wc.cell? ⟨gb1246, 3, none⟩ = some (.bool t1235) := (blk_cell BK1246.out 3).trans rfl
      have hcz79_4 : wc.cell? ⟨gb1246, 4, none⟩ = some (.string t1236) := (blk_cell BK1246.out 4).trans rfl
      have hcz79_5 : wc.cell? ⟨gb1246, 5, none⟩ = some (.string t1237) := (blk_cell BK1246.out 5).trans rfl
      have hfz79_0 := blk_frozen BK1246.out 0
      have hfz79_1 := blk_frozen BK1246.out 1
      have hfz79_2 := blk_frozen BK1246.out 2
      have hfz79_3 := blk_frozen BK1246.out 3
      have hfz79_4 := blk_frozen BK1246.out 4
      have hfz79_5 := blk_frozen BK1246.out 5
      have hcz80_0 : wc.cell? ⟨gb1247, 0, none⟩ = some (.bool t1239) := (blk_cell BK1247.out 0).trans rfl
      have hcz80_1 : wc.cell? ⟨gb1247, 1, none⟩ = some (.string t1240) := (blk_cell BK1247.out 1).trans rfl
      have hcz80_2 : wc.cell? ⟨gb1247, 2, none⟩ = some (.string t1241) := (blk_cell BK1247.out 2).trans rfl
      have hcz80_3 : wc.cell? ⟨gb1247, 3, none⟩ = some (.bool t1242) := (blk_cell BK1247.out 3).trans rfl
      have hcz80_4 : wc.cell? ⟨gb1247, 4, none⟩ = some (.string t1243) := (blk_cell BK1247.out 4).trans rfl
      have hcz80_5 : wc.cell? ⟨gb1247, 5, none⟩ = some (.string t1244) := (blk_cell BK1247.out 5).trans rfl
      have hfz80_0 := blk_frozen BK1247.out 0
      have hfz80_1 := blk_frozen BK1247.out 1
      have hfz80_2 := blk_frozen BK1247.out 2
      have hfz80_3 := blk_frozen BK1247.out 3
      have hfz80_4 := blk_frozen BK1247.out 4
      have hfz80_5 := blk_frozen BK1247.out 5
      go_wp2_with (first | ((with_reducible refine gate_callee (f := 48) rfl ?_); refine goesL_ (some 34) rfl rfl Try.func48 (by kernel_rfl) rfl #[.agg #[.bool t1232, .string t1233, .string t1234, .bool t1235, .string t1236, .string t1237], .agg #[.bool t1239, .string t1240, .string t1241, .bool t1242, .string t1243, .string t1244]] rfl ga ?_; (with_reducible refine (corporaref37_Compare.calls kj5 t1232 t1233 t1234 t1235 t1236 t1237 t1239 t1240 t1241 t1242 t1243 t1244 t1251 _ A36.out).mono ?_); rintro e w81 ⟨rfl, hb⟩; refine ⟨_, rfl, ?_⟩; replace BK1246 := bb BK1246 hb; replace BK1247 := bb BK1247 hb; replace HB := hs HB hb; (try clear hb); have hcz82_0 : w81.cell? ⟨gb1247, 0, none⟩ = some (.bool t1239) := (blk_cell BK1247.out 0).trans rfl; have hcz82_1 : w81.cell? ⟨gb1247, 1, none⟩ = some (.string t1240) := (blk_cell BK1247.out 1).trans rfl; have hcz82_2 : w81.cell? ⟨gb1247, 2, none⟩ = some (.string t1241) := (blk_cell BK1247.out 2).trans rfl; have hcz82_3 : w81.cell? ⟨gb1247, 3, none⟩ = some (.bool t1242) := (blk_cell BK1247.out 3).trans rfl; have hcz82_4 : w81.cell? ⟨gb1247, 4, none⟩ = some (.string t1243) := (blk_cell BK1247.out 4).trans rfl; have hcz82_5 : w81.cell? ⟨gb1247, 5, none⟩ = some (.string t1244) := (blk_cell BK1247.out 5).trans rfl; have hfz82_0 := blk_frozen BK1247.out 0; have hfz82_1 := blk_frozen BK1247.out 1; have hfz82_2 := blk_frozen BK1247.out 2; have hfz82_3 := blk_frozen BK1247.out 3; have hfz82_4 := blk_frozen BK1247.out 4; have hfz82_5 := blk_frozen BK1247.out 5; have hcz83_0 : w81.cell? ⟨gb1246, 0, none⟩ = some (.bool t1232) := (blk_cell BK1246.out 0).trans rfl; have hcz83_1 : w81.cell? ⟨gb1246, 1, none⟩ = some (.string t1233) := (blk_cell BK1246.out 1).trans rfl; have hcz83_2 : w81.cell? ⟨gb1246, 2, none⟩ = some (.string t1234) := (blk_cell BK1246.out 2).trans rfl; have hcz83_3 : w81.cell? ⟨gb1246, 3, none⟩ = some (.bool t1235) := (blk_cell BK1246.out 3).trans rfl; have hcz83_4 : w81.cell? ⟨gb1246, 4, none⟩ = some (.string t1236) := (blk_cell BK1246.out 4).trans rfl; have hcz83_5 : w81.cell? ⟨gb1246, 5, none⟩ = some (.string t1237) := (blk_cell BK1246.out 5).trans rfl; have hfz83_0 := blk_frozen BK1246.out 0; have hfz83_1 := blk_frozen BK1246.out 1; have hfz83_2 := blk_frozen BK1246.out 2; have hfz83_3 := blk_frozen BK1246.out 3; have hfz83_4 := blk_frozen BK1246.out 4; have hfz83_5 := blk_frozen BK1246.out 5) | (go_at_call 46; (with_reducible refine (enclose_Compare.calls kj5 t1239 t1240 t1241 t1242 t1243 t1244 t1232 t1233 t1234 t1235 t1236 t1237 t1252 _ A38.out).mono ?_); rintro e w84 ⟨rfl, hb⟩; replace BK1246 := bb BK1246 hb; replace BK1247 := bb BK1247 hb; replace HB := hs HB hb; (try clear hb)))
      go_ret
      exact ⟨er, bs⟩
    ·rw [if_neg c39] at H
     have c39b0 : (t1252 == (wrap64 (-t1248))) = false := beq_eq_false_iff_ne.mpr c39
     have c39b1 : (t1252 != (wrap64 (-t1248))) = true := bne_iff_ne.mpr c39
     obtain rfl := Option.some.inj H
     have hnb85 := NB1246_1247.out
     have hnc85 := NB1247_1246.out
     have hcz86_0 : wc.cell? ⟨gb1246, 0, none⟩ = some (.bool t1232) := (blk_cell BK1246.out 0).trans rfl
     have hcz86_1 : wc.cell? ⟨gb1246, 1, none⟩ = some (.string t1233) := (blk_cell BK1246.out 1).trans rfl
     have hcz86_2 : wc.cell? ⟨gb1246, 2, none⟩ = some (.string t1234) := (blk_cell BK1246.out 2).trans rfl
     have hcz86_3 : wc.cell? ⟨gb1246, 3, none⟩ = some (.bool t1235) := (blk_cell BK1246.out 3).trans rfl
     have hcz86_4 : wc.cell? ⟨gb1246, 4, none⟩ = some (.string t1236) := (blk_cell BK1246.out 4).trans rfl
     have hcz86_5 : wc.cell? ⟨gb1246, 5, none⟩ = some (.string t1237) := (blk_cell BK1246.out 5).trans rfl
     have hfz86_0 := blk_frozen BK1246.out 0
     have hfz86_1 := blk_frozen BK1246.out 1
     have hfz86_2 := blk_frozen BK1246.out 2
     have hfz86_3 := blk_frozen BK1246.out 3
     have hfz86_4 := blk_frozen BK1246.out 4
     have hfz86_5 := blk_frozen BK1246.out 5
     have hcz87_0 : wc.cell? ⟨gb1247, 0, none⟩ = some (.bool t1239) := (blk_cell BK1247.out 0).trans rfl
     have hcz87_1 : wc.cell? ⟨gb1247, 1, none⟩ = some (.string t1240) := (blk_cell BK1247.out 1).trans rfl
     have hcz87_2 : wc.cell? ⟨gb1247, 2, none⟩ = some (.string t1241) := (blk_cell BK1247.out 2).trans rfl
     have hcz87_3 : wc.cell? ⟨gb1247, 3, none⟩ = some (.bool t1242) := (blk_cell BK1247.out 3).trans rfl
     have hcz87_4 : wc.cell? ⟨gb1247, 4, none⟩ = some (.string t1243) := (blk_cell BK1247.out 4).trans rfl
     have hcz87_5 : wc.cell? ⟨gb1247, 5, none⟩ = some (.string t1244) := (blk_cell BK1247.out 5).trans rfl
     have hfz87_0 := blk_frozen BK1247.out 0
     have hfz87_1 := blk_frozen BK1247.out 1
     have hfz87_2 := blk_frozen BK1247.out 2
     have hfz87_3 := blk_frozen BK1247.out 3
     have hfz87_4 := blk_frozen BK1247.out 4
     have hfz87_5 := blk_frozen BK1247.out 5
     go_wp2_with (first | ((with_reducible refine gate_callee (f := 48) rfl ?_); refine goesL_ (some 34) rfl rfl Try.func48 (by kernel_rfl) rfl #[.agg #[.bool t1232, .string t1233, .string t1234, .bool t1235, .string t1236, .string t1237], .agg #[.bool t1239, .string t1240, .string t1241, .bool t1242, .string t1243, .string t1244]] rfl ga ?_; (with_reducible refine (corporaref37_Compare.calls kj5 t1232 t1233 t1234 t1235 t1236 t1237 t1239 t1240 t1241 t1242 t1243 t1244 t1251 _ A36.out).mono ?_); rintro e w88 ⟨rfl, hb⟩; refine ⟨_, rfl, ?_⟩; replace BK1246 := bb BK1246 hb; replace BK1247 := bb BK1247 hb; replace HB := hs HB hb; (try clear hb); have hcz89_0 : w88.cell? ⟨gb1247, 0, none⟩ = some (.bool t1239) := (blk_cell BK1247.out 0).trans rfl; have hcz89_1 : w88.cell? ⟨gb1247, 1, none⟩ = some (.string t1240) := (blk_cell BK1247.out 1).trans rfl; have hcz89_2 : w88.cell? ⟨gb1247, 2, none⟩ = some (.string t1241) := (blk_cell BK1247.out 2).trans rfl; have hcz89_3 : w88.cell? ⟨gb1247, 3, none⟩ = some (.bool t1242) := (blk_cell BK1247.out 3).trans rfl; have hcz89_4 : w88.cell? ⟨gb1247, 4, none⟩ = some (.string t1243) := (blk_cell BK1247.out 4).trans rfl; have hcz89_5 : w88.cell? ⟨gb1247, 5, none⟩ = some (.string t1244) := (blk_cell BK1247.out 5).trans rfl; have hfz89_0 := blk_frozen BK1247.out 0; have hfz89_1 := blk_frozen BK1247.out 1; have hfz89_2 := blk_frozen BK1247.out 2; have hfz89_3 := blk_frozen BK1247.out 3; have hfz89_4 := blk_frozen BK1247.out 4; have hfz89_5 := blk_frozen BK1247.out 5; have hcz90_0 : w88.cell? ⟨gb1246, 0, none⟩ = some (.bool t1232) := (blk_cell BK1246.out 0).trans rfl; have hcz90_1 : w88.cell? ⟨gb1246, 1, none⟩ = some (.string t1233) := (blk_cell BK1246.out 1).trans rfl; have hcz90_2 : w88.cell? ⟨gb1246, 2, none⟩ = some (.string t1234) := (blk_cell BK1246.out 2).trans rfl; have hcz90_3 : w88.cell? ⟨gb1246, 3, none⟩ = some (.bool t1235) := (blk_cell BK1246.out 3).trans rfl; have hcz90_4 : w88.cell? ⟨gb1246, 4, none⟩ = some (.string t1236) := (blk_cell BK1246.out 4).trans rfl; have hcz90_5 : w88.cell? ⟨gb1246, 5, none⟩ = some (.string t1237) := (blk_cell BK1246.out 5).trans rfl; have hfz90_0 := blk_frozen BK1246.out 0; have hfz90_1 := blk_frozen BK1246.out 1; have hfz90_2 := blk_frozen BK1246.out 2; have hfz90_3 := blk_frozen BK1246.out 3; have hfz90_4 := blk_frozen BK1246.out 4; have hfz90_5 := blk_frozen BK1246.out 5) | (go_at_call 46; (with_reducible refine (enclose_Compare.calls kj5 t1239 t1240 t1241 t1242 t1243 t1244 t1232 t1233 t1234 t1235 t1236 t1237 t1252 _ A38.out).mono ?_); rintro e w91 ⟨rfl, hb⟩; replace BK1246 := bb BK1246 hb; replace BK1247 := bb BK1247 hb; replace HB := hs HB hb; (try clear hb)))
     go_ret
     exact ⟨er, bs⟩
   ·rw [if_neg c37] at H
    have c37b0 : (t1248 == t1251) = false := beq_eq_false_iff_ne.mpr c37
    have c37b1 : (t1248 != t1251) = true := bne_iff_ne.mpr c37
    obtain rfl := Option.some.inj H
    have hnb92 := NB1246_1247.out
    have hnc92 := NB1247_1246.out
    have hcz93_0 : wc.cell? ⟨gb1246, 0, none⟩ = some (.bool t1232) := (blk_cell BK1246.out 0).trans rfl
    have hcz93_1 : wc.cell? ⟨gb1246, 1, none⟩ = some (.string t1233) := (blk_cell BK1246.out 1).trans rfl
    have hcz93_2 : wc.cell? ⟨gb1246, 2, none⟩ = some (.string t1234) := (blk_cell BK1246.out 2).trans rfl
    have hcz93_3 : wc.cell? ⟨gb1246, 3, none⟩ = some (.bool t1235) := (blk_cell BK1246.out 3).trans rfl
    have hcz93_4 : wc.cell? ⟨gb1246, 4, none⟩ = some (.string t1236) := (blk_cell BK1246.out 4).trans rfl
    have hcz93_5 : wc.cell? ⟨gb1246, 5, none⟩ = some (.string t1237) := (blk_cell BK1246.out 5).trans rfl
    have hfz93_0 := blk_frozen BK1246.out 0
    have hfz93_1 := blk_frozen BK1246.out 1
    have hfz93_2 := blk_frozen BK1246.out 2
    have hfz93_3 := blk_frozen BK1246.out 3
    have hfz93_4 := blk_frozen BK1246.out 4
    have hfz93_5 := blk_frozen BK1246.out 5
    have hcz94_0 : wc.cell? ⟨gb1247, 0, none⟩ = some (.bool t1239) := (blk_cell BK1247.out 0).trans rfl
    have hcz94_1 : wc.cell? ⟨gb1247, 1, none⟩ = some (.string t1240) := (blk_cell BK1247.out 1).trans rfl
    have hcz94_2 : wc.cell? ⟨gb1247, 2, none⟩ = some (.string t1241) := (blk_cell BK1247.out 2).trans rfl
    have hcz94_3 : wc.cell? ⟨gb1247, 3, none⟩ = some (.bool t1242) := (blk_cell BK1247.out 3).trans rfl
    have hcz94_4 : wc.cell? ⟨gb1247, 4, none⟩ = some (.string t1243) := (blk_cell BK1247.out 4).trans rfl
    have hcz94_5 : wc.cell? ⟨gb1247, 5, none⟩ = some (.string t1244) := (blk_cell BK1247.out 5).trans rfl
    have hfz94_0 := blk_frozen BK1247.out 0
    have hfz94_1 := blk_frozen BK1247.out 1
    have hfz94_2 := blk_frozen BK1247.out 2
    have hfz94_3 := blk_frozen BK1247.out 3
    have hfz94_4 := blk_frozen BK1247.out 4
    have hfz94_5 := blk_frozen BK1247.out 5
    go_wp2_with (first | ((with_reducible refine gate_callee (f := 48) rfl ?_); refine goesL_ (some 34) rfl rfl Try.func48 (by kernel_rfl) rfl #[.agg #[.bool t1232, .string t1233, .string t1234, .bool t1235, .string t1236, .string t1237], .agg #[.bool t1239, .string t1240, .string t1241, .bool t1242, .string t1243, .string t1244]] rfl ga ?_; (with_reducible refine (corporaref37_Compare.calls kj5 t1232 t1233 t1234 t1235 t1236 t1237 t1239 t1240 t1241 t1242 t1243 t1244 t1251 _ A36.out).mono ?_); rintro e w95 ⟨rfl, hb⟩; refine ⟨_, rfl, ?_⟩; replace BK1246 := bb BK1246 hb; replace BK1247 := bb BK1247 hb; replace HB := hs HB hb; (try clear hb)))
    go_ret
    exact ⟨er, bs⟩
theorem corporalaw37_EncloseCompares.walk (P : corporalaw37_EncloseCompares.Pure) (a0 : Option Addr) (len0 cap0 : Nat) (z0 : List Int) (w : World) (w0 : (a0 = none ∧ len0 = 0 ∧ cap0 = 0 ∧ z0 = []) ∨ ∃ x, a0 = some x ∧ len0 ≤ cap0 ∧ cap0 ≤ maxLen ∧ z0.length = cap0 ∧ (∀ i, i < z0.length → w.cell? (x.add i) = some (.int .i64 (z0.getD i 0))) ∧ ∀ n ∈ z0, (Lit.int .i64 n).wf = true) (y0 : len0 * 8 ≤ 140737488351232) :
  Calls Try.prog 10 #[.slice a0 len0 cap0] w fun e w' => e = .returned (.bool true) ∧ Below w.heap.size w w' := by
 obtain ⟨l0, rfl, hr0, hm0, hw0, hc0⟩ := ReadsInt.ofRowC w0
 obtain ⟨k, h⟩ := P l0 hm0 y0 hw0
 refine (corporalaw37_EncloseCompares.calls k _ _ l0 true w (Kd.C_of_reads (d := (0 : Int)) (h1 := fun _ => rfl) hr0) hc0 h).mono ?_
 rintro e w' ⟨rfl, hd⟩
 exact ⟨rfl, hd⟩
end Go.Proofs.Ytccgfmjcldifcaa.P
