/- Walks of Go functions: what they compute; each theorem's conditions stand in it. -/
import Derived.Test.YtccgfmjcldifcaaT
import Derived.Test.YtccgfmjcldifcaaCIsRatio
import Derived.Test.YtccgfmjcldifcaaCRaCmp
import Derived.Test.YtccgfmjcldifcaaDE
namespace Go.Proofs.Ytccgfmjcldifcaa.P
open Go.RowKit Go.Proofs.YtccgfmjcldifcaaW.PrintWords Go.Proofs.YtccgfmjcldifcaaW.PrintLast Go.Proofs.YtccgfmjcldifcaaW.PrintMore
attribute [local go_sem] max2_int min2_int max_two min_two max_three min_three max_four min_four
set_option linter.unusedVariables false
set_option linter.unusedSimpArgs false
set_option maxHeartbeats 8000000 in
set_option maxRecDepth 100000 in
theorem enclose_Valid.calls (k : Nat) (a0_0 : Bool) (a0_1 : ByteArray) (a0_2 : ByteArray) (a0_3 : Bool) (a0_4 : ByteArray) (a0_5 : ByteArray) (r : Bool) (w : World) (h : enclose_Valid.f k a0_0 a0_1 a0_2 a0_3 a0_4 a0_5 = some r) :
  Calls Try.prog 50 #[.agg #[.bool a0_0, .string a0_1, .string a0_2, .bool a0_3, .string a0_4, .string a0_5]] w fun e w' => e = .returned (.bool r) ∧ Below w.heap.size w w' := by
 have hu44 := Try.underlying44
 have hu35 := Try.underlying35
 have HB := Aside0.mk (Below.refl w.heap.size w)
 have H : Option.bind (ratio_IsRatio.f k a0_0 a0_1 a0_2) _ = _ := h
 clear h
 replace H := Option.bind_eq_some_iff.mp H
 obtain ⟨t1204, A20, H⟩ := H
 replace H : (if t1204 = true then _ else _) = _ := H
 have A2 := Aside0.mk A20
 clear A20
 by_cases c3 : t1204 = true
 ·subst c3
  have H1 : Option.bind (ratio_IsRatio.f k a0_3 a0_4 a0_5) _ = _ := (if_pos rfl).symm.trans H
  clear H
  have H := H1
  clear H1
  replace H := Option.bind_eq_some_iff.mp H
  obtain ⟨t1205, A40, H⟩ := H
  replace H : (if t1205 = true then _ else _) = _ := H
  have A4 := Aside0.mk A40
  clear A40
  by_cases c5 : t1205 = true
  ·subst c5
   have H1 : ((ratio_Compare.f k a0_0 a0_1 a0_2 a0_3 a0_4 a0_5).bind fun t1206 => (some (decide (t1206 ≤ 0)))) = some r := by rw [if_pos rfl] at H; exact H
   clear H
   have H := H1
   clear H1
   replace H := Option.bind_eq_some_iff.mp H
   obtain ⟨t1206, A60, H⟩ := H
   replace H : (some (decide (t1206 ≤ 0))) = some r := H
   have A6 := Aside0.mk A60
   clear A60
   obtain rfl := Option.some.inj H
   go_enter Try.func50, Try.ntmps50
   go_wp2_with (first | ((with_reducible refine gate_dst (N := 1) rfl ?_); refine be (N := 1) (cs := #[.bool a0_0, .string a0_1, .string a0_2, .bool a0_3, .string a0_4, .string a0_5]) (t := 44) ?_; intro gb1203 hg w7 hbox hb; have BK1203 := Aside0.mk (hbox); have GW1203 := gw HB hg; have GE1203 := GW1203; replace HB := hs HB hb; clear hb hbox hg; have hcz8_0 : w7.cell? ⟨gb1203, 0, none⟩ = some (.bool a0_0) := (blk_cell BK1203.out 0).trans rfl; have hcz8_1 : w7.cell? ⟨gb1203, 1, none⟩ = some (.string a0_1) := (blk_cell BK1203.out 1).trans rfl; have hcz8_2 : w7.cell? ⟨gb1203, 2, none⟩ = some (.string a0_2) := (blk_cell BK1203.out 2).trans rfl; have hcz8_3 : w7.cell? ⟨gb1203, 3, none⟩ = some (.bool a0_3) := (blk_cell BK1203.out 3).trans rfl; have hcz8_4 : w7.cell? ⟨gb1203, 4, none⟩ = some (.string a0_4) := (blk_cell BK1203.out 4).trans rfl; have hcz8_5 : w7.cell? ⟨gb1203, 5, none⟩ = some (.string a0_5) := (blk_cell BK1203.out 5).trans rfl; have hfz8_0 := blk_frozen BK1203.out 0; have hfz8_1 := blk_frozen BK1203.out 1; have hfz8_2 := blk_frozen BK1203.out 2; have hfz8_3 := blk_frozen BK1203.out 3; have hfz8_4 := blk_frozen BK1203.out 4; have hfz8_5 := blk_frozen BK1203.out 5) | ((with_reducible refine gate_callee (f := 44) rfl ?_); refine goesL_ (some 5) rfl rfl Try.func44 (by kernel_rfl) rfl #[.agg #[.bool a0_0, .string a0_1, .string a0_2]] rfl ga ?_; (with_reducible refine (ratio_IsRatio.calls k a0_0 a0_1 a0_2 true _ A2.out).mono ?_); rintro e w9 ⟨rfl, hb⟩; refine ⟨_, rfl, ?_⟩; replace BK1203 := bb BK1203 hb; replace HB := hs HB hb; (try clear hb); have hcz10_0 : w9.cell? ⟨gb1203, 0, none⟩ = some (.bool a0_0) := (blk_cell BK1203.out 0).trans rfl; have hcz10_1 : w9.cell? ⟨gb1203, 1, none⟩ = some (.string a0_1) := (blk_cell BK1203.out 1).trans rfl; have hcz10_2 : w9.cell? ⟨gb1203, 2, none⟩ = some (.string a0_2) := (blk_cell BK1203.out 2).trans rfl; have hcz10_3 : w9.cell? ⟨gb1203, 3, none⟩ = some (.bool a0_3) := (blk_cell BK1203.out 3).trans rfl; have hcz10_4 : w9.cell? ⟨gb1203, 4, none⟩ = some (.string a0_4) := (blk_cell BK1203.out 4).trans rfl; have hcz10_5 : w9.cell? ⟨gb1203, 5, none⟩ = some (.string a0_5) := (blk_cell BK1203.out 5).trans rfl; have hfz10_0 := blk_frozen BK1203.out 0; have hfz10_1 := blk_frozen BK1203.out 1; have hfz10_2 := blk_frozen BK1203.out 2; have hfz10_3 := blk_frozen BK1203.out 3; have hfz10_4 := blk_frozen BK1203.out 4; have hfz10_5 := blk_frozen BK1203.out 5) | (go_at_call 44; (with_reducible refine (ratio_IsRatio.calls k a0_3 a0_4 a0_5 true _ A4.out).mono ?_); rintro e w11 ⟨rfl, hb⟩; replace BK1203 := bb BK1203 hb; replace HB := hs HB hb; (try clear hb); have hcz12_0 : w11.cell? ⟨gb1203, 0, none⟩ = some (.bool a0_0) := (blk_cell BK1203.out 0).trans rfl; have hcz12_1 : w11.cell? ⟨gb1203, 1, none⟩ = some (.string a0_1) := (blk_cell BK1203.out 1).trans rfl; have hcz12_2 : w11.cell? ⟨gb1203, 2, none⟩ = some (.string a0_2) := (blk_cell BK1203.out 2).trans rfl; have hcz12_3 : w11.cell? ⟨gb1203, 3, none⟩ = some (.bool a0_3) := (blk_cell BK1203.out 3).trans rfl; have hcz12_4 : w11.cell? ⟨gb1203, 4, none⟩ = some (.string a0_4) := (blk_cell BK1203.out 4).trans rfl; have hcz12_5 : w11.cell? ⟨gb1203, 5, none⟩ = some (.string a0_5) := (blk_cell BK1203.out 5).trans rfl; have hfz12_0 := blk_frozen BK1203.out 0; have hfz12_1 := blk_frozen BK1203.out 1; have hfz12_2 := blk_frozen BK1203.out 2; have hfz12_3 := blk_frozen BK1203.out 3; have hfz12_4 := blk_frozen BK1203.out 4; have hfz12_5 := blk_frozen BK1203.out 5) | (go_at_call 47; (with_reducible refine (ratio_Compare.calls k a0_0 a0_1 a0_2 a0_3 a0_4 a0_5 t1206 _ A6.out).mono ?_); rintro e w13 ⟨rfl, hb⟩; replace BK1203 := bb BK1203 hb; replace HB := hs HB hb; (try clear hb)))
   go_ret
   exact ⟨er, bs⟩
  ·replace c5 := Bool.eq_false_iff.mpr c5
   subst c5
   have H1 : (some false) = some r := by rw [if_neg (show ¬ (false = true) by decide)] at H; exact H
   clear H
   have H := H1
   clear H1
   obtain rfl := Option.some.inj H
   go_enter Try.func50, Try.ntmps50
   go_wp2_with (first | ((with_reducible refine gate_dst (N := 1) rfl ?_); refine be (N := 1) (cs := #[.bool a0_0, .string a0_1, .string a0_2, .bool a0_3, .string a0_4, .string a0_5]) (t := 44) ?_; intro gb1203 hg w14 hbox hb; have BK1203 := Aside0.mk (hbox); have GW1203 := gw HB hg; have GE1203 := GW1203; replace HB := hs HB hb; clear hb hbox hg; have hcz15_0 : w14.cell? ⟨gb1203, 0, none⟩ = some (.bool a0_0) := (blk_cell BK1203.out 0).trans rfl; have hcz15_1 : w14.cell? ⟨gb1203, 1, none⟩ = some (.string a0_1) := (blk_cell BK1203.out 1).trans rfl; have hcz15_2 : w14.cell? ⟨gb1203, 2, none⟩ = some (.string a0_2) := (blk_cell BK1203.out 2).trans rfl; have hcz15_3 : w14.cell? ⟨gb1203, 3, none⟩ = some (.bool a0_3) := (blk_cell BK1203.out 3).trans rfl; have hcz15_4 : w14.cell? ⟨gb1203, 4, none⟩ = some (.string a0_4) := (blk_cell BK1203.out 4).trans rfl; have hcz15_5 : w14.cell? ⟨gb1203, 5, none⟩ = some (.string a0_5) := (blk_cell BK1203.out 5).trans rfl; have hfz15_0 := blk_frozen BK1203.out 0; have hfz15_1 := blk_frozen BK1203.out 1; have hfz15_2 := blk_frozen BK1203.out 2; have hfz15_3 := blk_frozen BK1203.out 3; have hfz15_4 := blk_frozen BK1203.out 4; have hfz15_5 := blk_frozen BK1203.out 5) | ((with_reducible refine gate_callee (f := 44) rfl ?_); refine goesL_ (some 5) rfl rfl Try.func44 (by kernel_rfl) rfl #[.agg #[.bool a0_0, .string a0_1, .string a0_2]] rfl ga ?_; (with_reducible refine (ratio_IsRatio.calls k a0_0 a0_1 a0_2 true _ A2.out).mono ?_); rintro e w16 ⟨rfl, hb⟩; refine ⟨_, rfl, ?_⟩; replace BK1203 := bb BK1203 hb; replace HB := hs HB hb; (try clear hb); have hcz17_0 : w16.cell? ⟨gb1203, 0, none⟩ = some (.bool a0_0) := (blk_cell BK1203.out 0).trans rfl; have hcz17_1 : w16.cell? ⟨gb1203, 1, none⟩ = some (.string a0_1) := (blk_cell BK1203.out 1).trans rfl; have hcz17_2 : w16.cell? ⟨gb1203, 2, none⟩ = some (.string a0_2) := (blk_cell BK1203.out 2).trans rfl; have hcz17_3 : w16.cell? ⟨gb1203, 3, none⟩ = some (.bool a0_3) := (blk_cell BK1203.out 3).trans rfl; have hcz17_4 : w16.cell? ⟨gb1203, 4, none⟩ = some (.string a0_4) := (blk_cell BK1203.out 4).trans rfl; have hcz17_5 : w16.cell? ⟨gb1203, 5, none⟩ = some (.string a0_5) := (blk_cell BK1203.out 5).trans rfl; have hfz17_0 := blk_frozen BK1203.out 0; have hfz17_1 := blk_frozen BK1203.out 1; have hfz17_2 := blk_frozen BK1203.out 2; have hfz17_3 := blk_frozen BK1203.out 3; have hfz17_4 := blk_frozen BK1203.out 4; have hfz17_5 := blk_frozen BK1203.out 5) | (go_at_call 44; (with_reducible refine (ratio_IsRatio.calls k a0_3 a0_4 a0_5 false _ A4.out).mono ?_); rintro e w18 ⟨rfl, hb⟩; replace BK1203 := bb BK1203 hb; replace HB := hs HB hb; (try clear hb)))
   go_ret
   exact ⟨er, bs⟩
 ·replace c3 := Bool.eq_false_iff.mpr c3
  subst c3
  have H1 : (some false) = some r := by rw [if_neg (show ¬ (false = true) by decide)] at H; exact H
  clear H
  have H := H1
  clear H1
  obtain rfl := Option.some.inj H
  go_enter Try.func50, Try.ntmps50
  go_wp2_with (first | ((with_reducible refine gate_dst (N := 1) rfl ?_); refine be (N := 1) (cs := #[.bool a0_0, .string a0_1, .string a0_2, .bool a0_3, .string a0_4, .string a0_5]) (t := 44) ?_; intro gb1203 hg w19 hbox hb; have BK1203 := Aside0.mk (hbox); have GW1203 := gw HB hg; have GE1203 := GW1203; replace HB := hs HB hb; clear hb hbox hg; have hcz20_0 : w19.cell? ⟨gb1203, 0, none⟩ = some (.bool a0_0) := (blk_cell BK1203.out 0).trans rfl; have hcz20_1 : w19.cell? ⟨gb1203, 1, none⟩ = some (.string a0_1) := (blk_cell BK1203.out 1).trans rfl; have hcz20_2 : w19.cell? ⟨gb1203, 2, none⟩ = some (.string a0_2) := (blk_cell BK1203.out 2).trans rfl; have hcz20_3 : w19.cell? ⟨gb1203, 3, none⟩ = some (.bool a0_3) := (blk_cell BK1203.out 3).trans rfl; have hcz20_4 : w19.cell? ⟨gb1203, 4, none⟩ = some (.string a0_4) := (blk_cell BK1203.out 4).trans rfl; have hcz20_5 : w19.cell? ⟨gb1203, 5, none⟩ = some (.string a0_5) := (blk_cell BK1203.out 5).trans rfl; have hfz20_0 := blk_frozen BK1203.out 0; have hfz20_1 := blk_frozen BK1203.out 1; have hfz20_2 := blk_frozen BK1203.out 2; have hfz20_3 := blk_frozen BK1203.out 3; have hfz20_4 := blk_frozen BK1203.out 4; have hfz20_5 := blk_frozen BK1203.out 5) | ((with_reducible refine gate_callee (f := 44) rfl ?_); refine goesL_ (some 5) rfl rfl Try.func44 (by kernel_rfl) rfl #[.agg #[.bool a0_0, .string a0_1, .string a0_2]] rfl ga ?_; (with_reducible refine (ratio_IsRatio.calls k a0_0 a0_1 a0_2 false _ A2.out).mono ?_); rintro e w21 ⟨rfl, hb⟩; refine ⟨_, rfl, ?_⟩; replace BK1203 := bb BK1203 hb; replace HB := hs HB hb; (try clear hb)))
  go_ret
  exact ⟨er, bs⟩
set_option maxHeartbeats 8000000 in
set_option maxRecDepth 100000 in
theorem enclose_Compare.calls (k : Nat) (a0_0 : Bool) (a0_1 : ByteArray) (a0_2 : ByteArray) (a0_3 : Bool) (a0_4 : ByteArray) (a0_5 : ByteArray) (a1_0 : Bool) (a1_1 : ByteArray) (a1_2 : ByteArray) (a1_3 : Bool) (a1_4 : ByteArray) (a1_5 : ByteArray) (r : Int) (w : World) (h : enclose_Compare.f k a0_0 a0_1 a0_2 a0_3 a0_4 a0_5 a1_0 a1_1 a1_2 a1_3 a1_4 a1_5 = some r) :
  Calls Try.prog 46 #[.agg #[.bool a0_0, .string a0_1, .string a0_2, .bool a0_3, .string a0_4, .string a0_5], .agg #[.bool a1_0, .string a1_1, .string a1_2, .bool a1_3, .string a1_4, .string a1_5]] w fun e w' => e = .returned (.int .i64 r) ∧ Below w.heap.size w w' := by
 have hu44 := Try.underlying44
 have hu35 := Try.underlying35
 have HB := Aside0.mk (Below.refl w.heap.size w)
 have H : Option.bind (enclose_Valid.f k a0_0 a0_1 a0_2 a0_3 a0_4 a0_5) _ = _ := h
 clear h
 have HC3 := Aside0.mk H
 clear H
 go_enter Try.func46, Try.ntmps46
 go_upto_region 1 with (first | ((with_reducible refine gate_dst (N := 2) rfl ?_); refine be (N := 2) (cs := #[.bool a0_0, .string a0_1, .string a0_2, .bool a0_3, .string a0_4, .string a0_5]) (t := 44) ?_; intro gb1207 hg w4 hbox hb; have BK1207 := Aside0.mk (hbox); have GW1207 := gw HB hg; have GE1207 := GW1207; replace HB := hs HB hb; clear hb hbox hg) | ((with_reducible refine gate_dst (N := 3) rfl ?_); refine be (N := 3) (cs := #[.bool a1_0, .string a1_1, .string a1_2, .bool a1_3, .string a1_4, .string a1_5]) (t := 44) ?_; intro gb1208 hg w5 hbox hb; have BK1208 := Aside0.mk (hbox); have GW1208 := gw HB hg; have GE1208 := GW1208; replace HB := hs HB hb; have NB1207_1208 := na BK1207 hg; have NB1208_1207 := nz NB1207_1208; replace BK1207 := bb BK1207 hb; clear hb hbox hg))
 (try simp only [Act.put, List.setIfInBounds_toArray, List.set_cons_zero, List.set_cons_succ])
 go_cut [5] (fun v5 wc => ∃ (kq : Nat) (x5_2 : Bool), v5 = .bool x5_2 ∧ Aside0 (enclose_Compare.j0 kq x5_2 a0_0 a0_1 a0_2 a0_3 a0_4 a0_5 a1_0 a1_1 a1_2 a1_3 a1_4 a1_5 = some r) ∧ Aside0 (kq ≤ k) ∧ Aside0 (wc.heap[gb1207]? = some (.cells #[.bool a0_0, .string a0_1, .string a0_2, .bool a0_3, .string a0_4, .string a0_5] 44 (0, 0))) ∧ Aside0 (wc.heap[gb1208]? = some (.cells #[.bool a1_0, .string a1_1, .string a1_2, .bool a1_3, .string a1_4, .string a1_5] 44 (0, 0))) ∧ Aside0 (Below w.heap.size w wc))
 case first =>
  have H := HC3.out
  clear HC3
  replace H := Option.bind_eq_some_iff.mp H
  obtain ⟨t1209, A60, H⟩ := H
  replace H : (if t1209 = true then _ else _) = _ := H
  have A6 := Aside0.mk A60
  clear A60
  by_cases c7 : t1209 = true
  ·subst c7
   have H1 : Option.bind (enclose_Valid.f k a1_0 a1_1 a1_2 a1_3 a1_4 a1_5) _ = _ := (if_pos rfl).symm.trans H
   clear H
   have H := H1
   clear H1
   replace H := Option.bind_eq_some_iff.mp H
   obtain ⟨t1210, A80, H⟩ := H
   replace H : (enclose_Compare.j0 k (!t1210) a0_0 a0_1 a0_2 a0_3 a0_4 a0_5 a1_0 a1_1 a1_2 a1_3 a1_4 a1_5) = some r := H
   have A8 := Aside0.mk A80
   clear A80
   have H' := Aside0.mk H
   clear H
   have hnb9 := NB1207_1208.out
   have hnc9 := NB1208_1207.out
   have hcz10_0 : w5.cell? ⟨gb1207, 0, none⟩ = some (.bool a0_0) := (blk_cell BK1207.out 0).trans rfl
   have hcz10_1 : w5.cell? ⟨gb1207, 1, none⟩ = some (.string a0_1) := (blk_cell BK1207.out 1).trans rfl
   have hcz10_2 : w5.cell? ⟨gb1207, 2, none⟩ = some (.string a0_2) := (blk_cell BK1207.out 2).trans rfl
   have hcz10_3 : w5.cell? ⟨gb1207, 3, none⟩ = some (.bool a0_3) := (blk_cell BK1207.out 3).trans rfl
   have hcz10_4 : w5.cell? ⟨gb1207, 4, none⟩ = some (.string a0_4) := (blk_cell BK1207.out 4).trans rfl
   have hcz10_5 : w5.cell? ⟨gb1207, 5, none⟩ = some (.string a0_5) := (blk_cell BK1207.out 5).trans rfl
   have hfz10_0 := blk_frozen BK1207.out 0
   have hfz10_1 := blk_frozen BK1207.out 1
   have hfz10_2 := blk_frozen BK1207.out 2
   have hfz10_3 := blk_frozen BK1207.out 3
   have hfz10_4 := blk_frozen BK1207.out 4
   have hfz10_5 := blk_frozen BK1207.out 5
   go_wp2_with (first | ((with_reducible refine gate_callee (f := 50) rfl ?_); refine goesL_ (some 7) rfl rfl Try.func50 (by kernel_rfl) rfl #[.agg #[.bool a0_0, .string a0_1, .string a0_2, .bool a0_3, .string a0_4, .string a0_5]] rfl ga ?_; (with_reducible refine (enclose_Valid.calls k a0_0 a0_1 a0_2 a0_3 a0_4 a0_5 true _ A6.out).mono ?_); rintro e w11 ⟨rfl, hb⟩; refine ⟨_, rfl, ?_⟩; replace BK1207 := bb BK1207 hb; replace BK1208 := bb BK1208 hb; replace HB := hs HB hb; (try clear hb); have hcz12_0 : w11.cell? ⟨gb1208, 0, none⟩ = some (.bool a1_0) := (blk_cell BK1208.out 0).trans rfl; have hcz12_1 : w11.cell? ⟨gb1208, 1, none⟩ = some (.string a1_1) := (blk_cell BK1208.out 1).trans rfl; have hcz12_2 : w11.cell? ⟨gb1208, 2, none⟩ = some (.string a1_2) := (blk_cell BK1208.out 2).trans rfl; have hcz12_3 : w11.cell? ⟨gb1208, 3, none⟩ = some (.bool a1_3) := (blk_cell BK1208.out 3).trans rfl; have hcz12_4 : w11.cell? ⟨gb1208, 4, none⟩ = some (.string a1_4) := (blk_cell BK1208.out 4).trans rfl; have hcz12_5 : w11.cell? ⟨gb1208, 5, none⟩ = some (.string a1_5) := (blk_cell BK1208.out 5).trans rfl; have hfz12_0 := blk_frozen BK1208.out 0; have hfz12_1 := blk_frozen BK1208.out 1; have hfz12_2 := blk_frozen BK1208.out 2; have hfz12_3 := blk_frozen BK1208.out 3; have hfz12_4 := blk_frozen BK1208.out 4; have hfz12_5 := blk_frozen BK1208.out 5) | (go_at_call 50; (with_reducible refine (enclose_Valid.calls k a1_0 a1_1 a1_2 a1_3 a1_4 a1_5 t1210 _ A8.out).mono ?_); rintro e w13 ⟨rfl, hb⟩; replace BK1207 := bb BK1207 hb; replace BK1208 := bb BK1208 hb; replace HB := hs HB hb; (try clear hb)))
   go_meet
   case rel => exact ⟨_, (!t1210), sv, H', ⟨by first | omega | exact Nat.le_refl _⟩, ⟨bk⟩, ⟨bk⟩, ⟨bs⟩⟩
  ·replace c7 := Bool.eq_false_iff.mpr c7
   subst c7
   have H1 : (enclose_Compare.j0 k true a0_0 a0_1 a0_2 a0_3 a0_4 a0_5 a1_0 a1_1 a1_2 a1_3 a1_4 a1_5) = some r := by rw [if_neg (show ¬ (false = true) by decide)] at H; exact H
   clear H
   have H := H1
   clear H1
   have H' := Aside0.mk H
   clear H
   have hnb14 := NB1207_1208.out
   have hnc14 := NB1208_1207.out
   have hcz15_0 : w5.cell? ⟨gb1207, 0, none⟩ = some (.bool a0_0) := (blk_cell BK1207.out 0).trans rfl
   have hcz15_1 : w5.cell? ⟨gb1207, 1, none⟩ = some (.string a0_1) := (blk_cell BK1207.out 1).trans rfl
   have hcz15_2 : w5.cell? ⟨gb1207, 2, none⟩ = some (.string a0_2) := (blk_cell BK1207.out 2).trans rfl
   have hcz15_3 : w5.cell? ⟨gb1207, 3, none⟩ = some (.bool a0_3) := (blk_cell BK1207.out 3).trans rfl
   have hcz15_4 : w5.cell? ⟨gb1207, 4, none⟩ = some (.string a0_4) := (blk_cell BK1207.out 4).trans rfl
   have hcz15_5 : w5.cell? ⟨gb1207, 5, none⟩ = some (.string a0_5) := (blk_cell BK1207.out 5).trans rfl
   have hfz15_0 := blk_frozen BK1207.out 0
   have hfz15_1 := blk_frozen BK1207.out 1
   have hfz15_2 := blk_frozen BK1207.out 2
   have hfz15_3 := blk_frozen BK1207.out 3
   have hfz15_4 := blk_frozen BK1207.out 4
   have hfz15_5 := blk_frozen BK1207.out 5
   go_wp2_with (first | ((with_reducible refine gate_callee (f := 50) rfl ?_); refine goesL_ (some 7) rfl rfl Try.func50 (by kernel_rfl) rfl #[.agg #[.bool a0_0, .string a0_1, .string a0_2, .bool a0_3, .string a0_4, .string a0_5]] rfl ga ?_; (with_reducible refine (enclose_Valid.calls k a0_0 a0_1 a0_2 a0_3 a0_4 a0_5 false _ A6.out).mono ?_); rintro e w16 ⟨rfl, hb⟩; refine ⟨_, rfl, ?_⟩; replace BK1207 := bb BK1207 hb; replace BK1208 := bb BK1208 hb; replace HB := hs HB hb; (try clear hb)))
   go_meet
   case rel => exact ⟨_, (true), sv, H', ⟨by first | omega | exact Nat.le_refl _⟩, ⟨bk⟩, ⟨bk⟩, ⟨bs⟩⟩
 case rest =>
  clear HC3
  try clear c4
  try clear c5
  try clear c7
  try clear hcz10_0
  try clear hcz10_1
  try clear hcz10_2
  try clear hcz10_3
  try clear hcz10_4
  try clear hcz10_5
  try clear hcz12_0
  try clear hcz12_1
  try clear hcz12_2
  try clear hcz12_3
  try clear hcz12_4
  try clear hcz12_5
  try clear hcz15_0
  try clear hcz15_1
  try clear hcz15_2
  try clear hcz15_3
  try clear hcz15_4
  try clear hcz15_5
  try clear hfz10_0
  try clear hfz10_1
  try clear hfz10_2
  try clear hfz10_3
  try clear hfz10_4
  try clear hfz10_5
  try clear hfz12_0
  try clear hfz12_1
  try clear hfz12_2
  try clear hfz12_3
  try clear hfz12_4
  try clear hfz12_5
  try clear hfz15_0
  try clear hfz15_1
  try clear hfz15_2
  try clear hfz15_3
  try clear hfz15_4
  try clear hfz15_5
  obtain ⟨kq, x5_2, rfl, HA, HJ2, BK1207, BK1208, HB⟩ := hcut
  cases kq with
  | zero => exact absurd HA.out (by simp [enclose_Compare.j0])
  | succ kj2 =>
   have H := HA.out
   clear HA
   simp only [enclose_Compare.j0] at H
   by_cases c17 : x5_2 = true
   ·subst c17
    have H1 : (some 0) = some r := by rw [if_pos rfl] at H; exact H
    clear H
    have H := H1
    clear H1
    obtain rfl := Option.some.inj H
    go_wp2
    go_ret
    exact ⟨er, bs⟩
   ·replace c17 := Bool.eq_false_iff.mpr c17
    subst c17
    have H1 : Option.bind (ratio_Compare.f kj2 a0_3 a0_4 a0_5 a1_0 a1_1 a1_2) _ = _ := (if_neg (show ¬ (false = true) by decide)).symm.trans H
    clear H
    have H := H1
    clear H1
    replace H := Option.bind_eq_some_iff.mp H
    obtain ⟨t1211, A180, H⟩ := H
    replace H : (if t1211 < 0 then _ else _) = _ := H
    have A18 := Aside0.mk A180
    clear A180
    by_cases c19 : t1211 < 0
    ·rw [if_pos c19] at H
     have c19b0 : decide (t1211 < 0) = true := decide_eq_true c19
     clear c19
     obtain rfl := Option.some.inj H
     have hnb20 := NB1207_1208.out
     have hnc20 := NB1208_1207.out
     have hcz21_0 : wc.cell? ⟨gb1207, 0, none⟩ = some (.bool a0_0) := (blk_cell BK1207.out 0).trans rfl
     have hcz21_1 : wc.cell? ⟨gb1207, 1, none⟩ = some (.string a0_1) := (blk_cell BK1207.out 1).trans rfl
     have hcz21_2 : wc.cell? ⟨gb1207, 2, none⟩ = some (.string a0_2) := (blk_cell BK1207.out 2).trans rfl
     have hcz21_3 : wc.cell? ⟨gb1207, 3, none⟩ = some (.bool a0_3) := (blk_cell BK1207.out 3).trans rfl
     have hcz21_4 : wc.cell? ⟨gb1207, 4, none⟩ = some (.string a0_4) := (blk_cell BK1207.out 4).trans rfl
     have hcz21_5 : wc.cell? ⟨gb1207, 5, none⟩ = some (.string a0_5) := (blk_cell BK1207.out 5).trans rfl
     have hfz21_0 := blk_frozen BK1207.out 0
     have hfz21_1 := blk_frozen BK1207.out 1
     have hfz21_2 := blk_frozen BK1207.out 2
     have hfz21_3 := blk_frozen BK1207.out 3
     have hfz21_4 := blk_frozen BK1207.out 4
     have hfz21_5 := blk_frozen BK1207.out 5
     have hcz22_0 : wc.cell? ⟨gb1208, 0, none⟩ = some (.bool a1_0) := (blk_cell BK1208.out 0).trans rfl
     have hcz22_1 : wc.cell? ⟨gb1208, 1, none⟩ = some (.string a1_1) := (blk_cell BK1208.out 1).trans rfl
     have hcz22_2 : wc.cell? ⟨gb1208, 2, none⟩ = some (.string a1_2) := (blk_cell BK1208.out 2).trans rfl
     have hcz22_3 : wc.cell? ⟨gb1208, 3, none⟩ = some (.bool a1_3) := (blk_cell BK1208.out 3).trans rfl
     have hcz22_4 : wc.cell? ⟨gb1208, 4, none⟩ = some (.string a1_4) := (blk_cell BK1208.out 4).trans rfl
     have hcz22_5 : wc.cell? ⟨gb1208, 5, none⟩ = some (.string a1_5) := (blk_cell BK1208.out 5).trans rfl
     have hfz22_0 := blk_frozen BK1208.out 0
     have hfz22_1 := blk_frozen BK1208.out 1
     have hfz22_2 := blk_frozen BK1208.out 2
     have hfz22_3 := blk_frozen BK1208.out 3
     have hfz22_4 := blk_frozen BK1208.out 4
     have hfz22_5 := blk_frozen BK1208.out 5
     go_wp2_with (first | ((with_reducible refine gate_callee (f := 47) rfl ?_); refine goesL_ (some 19) rfl rfl Try.func47 (by kernel_rfl) rfl #[.agg #[.bool a0_3, .string a0_4, .string a0_5], .agg #[.bool a1_0, .string a1_1, .string a1_2]] rfl ga ?_; (with_reducible refine (ratio_Compare.calls kj2 a0_3 a0_4 a0_5 a1_0 a1_1 a1_2 t1211 _ A18.out).mono ?_); rintro e w23 ⟨rfl, hb⟩; refine ⟨_, rfl, ?_⟩; replace BK1207 := bb BK1207 hb; replace BK1208 := bb BK1208 hb; replace HB := hs HB hb; (try clear hb)))
     go_ret
     exact ⟨er, bs⟩
    ·rw [if_neg c19] at H
     have c19b0 : decide (t1211 < 0) = false := decide_eq_false c19
     clear c19
     replace H := Option.bind_eq_some_iff.mp H
     obtain ⟨t1212, A240, H⟩ := H
     replace H : (if t1212 < 0 then (some 1) else (some 0)) = some r := H
     have A24 := Aside0.mk A240
     clear A240
     by_cases c25 : t1212 < 0
     ·rw [if_pos c25] at H
      have c25b0 : decide (t1212 < 0) = true := decide_eq_true c25
      clear c25
      obtain rfl := Option.some.inj H
      have hnb26 := NB1207_1208.out
      have hnc26 := NB1208_1207.out
      have hcz27_0 : wc.cell? ⟨gb1207, 0, none⟩ = some (.bool a0_0) := (blk_cell BK1207.out 0).trans rfl
      have hcz27_1 : wc.cell? ⟨gb1207, 1, none⟩ = some (.string a0_1) := (blk_cell BK1207.out 1).trans rfl
      have hcz27_2 : wc.cell? ⟨gb1207, 2, none⟩ = some (.string a0_2) := (blk_cell BK1207.out 2).trans rfl
      have hcz27_3 : wc.cell? ⟨gb1207, 3, none⟩ = some (.bool a0_3) := (blk_cell BK1207.out 3).trans rfl
      have hcz27_4 : wc.cell? ⟨gb1207, 4, none⟩ = some (.string a0_4) := (blk_cell BK1207.out 4).trans rfl
      have hcz27_5 : wc.cell? ⟨gb1207, 5, none⟩ = some (.string a0_5) := (blk_cell BK1207.out 5).trans rfl
      have hfz27_0 := blk_frozen BK1207.out 0
      have hfz27_1 := blk_frozen BK1207.out 1
      have hfz27_2 := blk_frozen BK1207.out 2
      have hfz27_3 := blk_frozen BK1207.out 3
      have hfz27_4 := blk_frozen BK1207.out 4
      have hfz27_5 := blk_frozen BK1207.out 5
      have hcz28_0 : wc.cell? ⟨gb1208, 0, none⟩ = some (.bool a1_0) := (blk_cell BK1208.out 0).trans rfl
      have hcz28_1 : wc.cell? ⟨gb1208, 1, none⟩ = some (.string a1_1) := (blk_cell BK1208.out 1).trans rfl
      have hcz28_2 : wc.cell? ⟨gb1208, 2, none⟩ = some (.string a1_2) := (blk_cell BK1208.out 2).trans rfl
      have hcz28_3 : wc.cell? ⟨gb1208, 3, none⟩ = some (.bool a1_3) := (blk_cell BK1208.out 3).trans rfl
      have hcz28_4 : wc.cell? ⟨gb1208, 4, none⟩ = some (.string a1_4) := (blk_cell BK1208.out 4).trans rfl
      have hcz28_5 : wc.cell? ⟨gb1208, 5, none⟩ = some (.string a1_5) := (blk_cell BK1208.out 5).trans rfl
      have hfz28_0 := blk_frozen BK1208.out 0
      have hfz28_1 := blk_frozen BK1208.out 1
      have hfz28_2 := blk_frozen BK1208.out 2
      have hfz28_3 := blk_frozen BK1208.out 3
      have hfz28_4 := blk_frozen BK1208.out 4
      have hfz28_5 := blk_frozen BK1208.out 5
      go_wp2_with (first | ((with_reducible refine gate_callee (f := 47) rfl ?_); refine goesL_ (some 19) rfl rfl Try.func47 (by kernel_rfl) rfl #[.agg #[.bool a0_3, .string a0_4, .string a0_5], .agg #[.bool a1_0, .string a1_1, .string a1_2]] rfl ga ?_; (with_reducible refine (ratio_Compare.calls kj2 a0_3 a0_4 a0_5 a1_0 a1_1 a1_2 t1211 _ A18.out).mono ?_); rintro e w29 ⟨rfl, hb⟩; refine ⟨_, rfl, ?_⟩; replace BK1207 := bb BK1207 hb; replace BK1208 := bb BK1208 hb; replace HB := hs HB hb; (try clear hb); have hcz30_0 : w29.cell? ⟨gb1208, 0, none⟩ = some (.bool a1_0) := (blk_cell BK1208.out 0).trans rfl; have hcz30_1 : w29.cell? ⟨gb1208, 1, none⟩ = some (.string a1_1) := (blk_cell BK1208.out 1).trans rfl; have hcz30_2 : w29.cell? ⟨gb1208, 2, none⟩ = some (.string a1_2) := (blk_cell BK1208.out 2).trans rfl; have hcz30_3 : w29.cell? ⟨gb1208, 3, none⟩ = some (.bool a1_3) := (blk_cell BK1208.out 3).trans rfl; have hcz30_4 : w29.cell? ⟨gb1208, 4, none⟩ = some (.string a1_4) := (blk_cell BK1208.out 4).trans rfl; have hcz30_5 : w29.cell? ⟨gb1208, 5, none⟩ = some (.string a1_5) := (blk_cell BK1208.out 5).trans rfl; have hfz30_0 := blk_frozen BK1208.out 0; have hfz30_1 := blk_frozen BK1208.out 1; have hfz30_2 := blk_frozen BK1208.out 2; have hfz30_3 := blk_frozen BK1208.out 3; have hfz30_4 := blk_frozen BK1208.out 4; have hfz30_5 := blk_frozen BK1208.out 5; have hcz31_0 : w29.cell? ⟨gb1207, 0, none⟩ = some (.bool a0_0) := (blk_cell BK1207.out 0).trans rfl; have hcz31_1 : w29.cell? ⟨gb1207, 1, none⟩ = some (.string a0_1) := (blk_cell BK1207.out 1).trans rfl; have hcz31_2 : w29.cell? ⟨gb1207, 2, none⟩ = some (.string a0_2) := (blk_cell BK1207.out 2).trans rfl; have hcz31_3 : w29.cell? ⟨gb1207, 3, none⟩ = some (.bool a0_3) := (blk_cell BK1207.out 3).trans rfl; have hcz31_4 : w29.cell? ⟨gb1207, 4, none⟩ = some (.string a0_4) := (blk_cell BK1207.out 4).trans rfl; have hcz31_5 : w29.cell? ⟨gb1207, 5, none⟩ = some (.string a0_5) := (blk_cell BK1207.out 5).trans rfl; have hfz31_0 := blk_frozen BK1207.out 0; have hfz31_1 := blk_frozen BK1207.out 1; have hfz31_2 := blk_frozen BK1207.out 2; have hfz31_3 := blk_frozen BK1207.out 3; have hfz31_4 := blk_frozen BK1207.out 4; have hfz31_5 := blk_frozen BK1207.out 5) | ((with_reducible refine gate_callee (f := 47) rfl ?_); refine goesL_ (some 26) rfl rfl Try.func47 (by kernel_rfl) rfl #[.agg #[.bool a1_3, .string a1_4, .string a1_5], .agg #[.bool a0_0, .string a0_1, .string a0_2]] rfl ga ?_; (with_reducible refine (ratio_Compare.calls kj2 a1_3 a1_4 a1_5 a0_0 a0_1 a0_2 t1212 _ A24.out).mono ?_); rintro e w32 ⟨rfl, hb⟩; refine ⟨_, rfl, ?_⟩; replace BK1207 := bb BK1207 hb; replace BK1208 := bb BK1208 hb; replace HB := hs HB hb; (try clear hb)))
      go_ret
      exact ⟨er, bs⟩
     ·rw [if_neg c25] at H
      have c25b0 : decide (t1212 < 0) = false := decide_eq_false c25
      clear c25
      obtain rfl := Option.some.inj H
      have hnb33 := NB1207_1208.out
      have hnc33 := NB1208_1207.out
      have hcz34_0 : wc.cell? ⟨gb1207, 0, none⟩ = some (.bool a0_0) := (blk_cell BK1207.out 0).trans rfl
      have hcz34_1 : wc.cell? ⟨gb1207, 1, none⟩ = some (.string a0_1) := (blk_cell BK1207.out 1).trans rfl
      have hcz34_2 : wc.cell? ⟨gb1207, 2, none⟩ = some (.string a0_2) := (blk_cell BK1207.out 2).trans rfl
      have hcz34_3 : wc.cell? ⟨gb1207, 3, none⟩ = some (.bool a0_3) := (blk_cell BK1207.out 3).trans rfl
      have hcz34_4 : wc.cell? ⟨gb1207, 4, none⟩ = some (.string a0_4) := (blk_cell BK1207.out 4).trans rfl
      have hcz34_5 : wc.cell? ⟨gb1207, 5, none⟩ = some (.string a0_5) := (blk_cell BK1207.out 5).trans rfl
      have hfz34_0 := blk_frozen BK1207.out 0
      have hfz34_1 := blk_frozen BK1207.out 1
      have hfz34_2 := blk_frozen BK1207.out 2
      have hfz34_3 := blk_frozen BK1207.out 3
      have hfz34_4 := blk_frozen BK1207.out 4
      have hfz34_5 := blk_frozen BK1207.out 5
      have hcz35_0 : wc.cell? ⟨gb1208, 0, none⟩ = some (.bool a1_0) := (blk_cell BK1208.out 0).trans rfl
      have hcz35_1 : wc.cell? ⟨gb1208, 1, none⟩ = some (.string a1_1) := (blk_cell BK1208.out 1).trans rfl
      have hcz35_2 : wc.cell? ⟨gb1208, 2, none⟩ = some (.string a1_2) := (blk_cell BK1208.out 2).trans rfl
      have hcz35_3 : wc.cell? ⟨gb1208, 3, none⟩ = some (.bool a1_3) := (blk_cell BK1208.out 3).trans rfl
      have hcz35_4 : wc.cell? ⟨gb1208, 4, none⟩ = some (.string a1_4) := (blk_cell BK1208.out 4).trans rfl
      have hcz35_5 : wc.cell? ⟨gb1208, 5, none⟩ = some (.string a1_5) := (blk_cell BK1208.out 5).trans rfl
      have hfz35_0 := blk_frozen BK1208.out 0
      have hfz35_1 := blk_frozen BK1208.out 1
      have hfz35_2 := blk_frozen BK1208.out 2
      have hfz35_3 := blk_frozen BK1208.out 3
      have hfz35_4 := blk_frozen BK1208.out 4
      have hfz35_5 := blk_frozen BK1208.out 5
      go_wp2_with (first | ((with_reducible refine gate_callee (f := 47) rfl ?_); refine goesL_ (some 19) rfl rfl Try.func47 (by kernel_rfl) rfl #[.agg #[.bool a0_3, .string a0_4, .string a0_5], .agg #[.bool a1_0, .string a1_1, .string a1_2]] rfl ga ?_; (with_reducible refine (ratio_Compare.calls kj2 a0_3 a0_4 a0_5 a1_0 a1_1 a1_2 t1211 _ A18.out).mono ?_); rintro e w36 ⟨rfl, hb⟩; refine ⟨_, rfl, ?_⟩; replace BK1207 := bb BK1207 hb; replace BK1208 := bb BK1208 hb; replace HB := hs HB hb; (try clear hb); have hcz37_0 : w36.cell? ⟨gb1208, 0, none⟩ = some (.bool a1_0) := (blk_cell BK1208.out 0).trans rfl; have hcz37_1 : w36.cell? ⟨gb1208, 1, none⟩ = some (.string a1_1) := (blk_cell BK1208.out 1).trans rfl; have hcz37_2 : w36.cell? ⟨gb1208, 2, none⟩ = some (.string a1_2) := (blk_cell BK1208.out 2).trans rfl; have hcz37_3 : w36.cell? ⟨gb1208, 3, none⟩ = some (.bool a1_3) := (blk_cell BK1208.out 3).trans rfl; have hcz37_4 : w36.cell? ⟨gb1208, 4, none⟩ = some (.string a1_4) := (blk_cell BK1208.out 4).trans rfl; have hcz37_5 : w36.cell? ⟨gb1208, 5, none⟩ = some (.string a1_5) := (blk_cell BK1208.out 5).trans rfl; have hfz37_0 := blk_frozen BK1208.out 0; have hfz37_1 := blk_frozen BK1208.out 1; have hfz37_2 := blk_frozen BK1208.out 2; have hfz37_3 := blk_frozen BK1208.out 3; have hfz37_4 := blk_frozen BK1208.out 4; have hfz37_5 := blk_frozen BK1208.out 5; have hcz38_0 : w36.cell? ⟨gb1207, 0, none⟩ = some (.bool a0_0) := (blk_cell BK1207.out 0).trans rfl; have hcz38_1 : w36.cell? ⟨gb1207, 1, none⟩ = some (.string a0_1) := (blk_cell BK1207.out 1).trans rfl; have hcz38_2 : w36.cell? ⟨gb1207, 2, none⟩ = some (.string a0_2) := (blk_cell BK1207.out 2).trans rfl; have hcz38_3 : w36.cell? ⟨gb1207, 3, none⟩ = some (.bool a0_3) := (blk_cell BK1207.out 3).trans rfl; have hcz38_4 : w36.cell? ⟨gb1207, 4, none⟩ = some (.string a0_4) := (blk_cell BK1207.out 4).trans rfl; have hcz38_5 : w36.cell? ⟨gb1207, 5, none⟩ = some (.string a0_5) := (blk_cell BK1207.out 5).trans rfl; have hfz38_0 := blk_frozen BK1207.out 0; have hfz38_1 := blk_frozen BK1207.out 1; have hfz38_2 := blk_frozen BK1207.out 2; have hfz38_3 := blk_frozen BK1207.out 3; have hfz38_4 := blk_frozen BK1207.out 4; have hfz38_5 := blk_frozen BK1207.out 5) | ((with_reducible refine gate_callee (f := 47) rfl ?_); refine goesL_ (some 26) rfl rfl Try.func47 (by kernel_rfl) rfl #[.agg #[.bool a1_3, .string a1_4, .string a1_5], .agg #[.bool a0_0, .string a0_1, .string a0_2]] rfl ga ?_; (with_reducible refine (ratio_Compare.calls kj2 a1_3 a1_4 a1_5 a0_0 a0_1 a0_2 t1212 _ A24.out).mono ?_); rintro e w39 ⟨rfl, hb⟩; refine ⟨_, rfl, ?_⟩; replace BK1207 := bb BK1207 hb; replace BK1208 := bb BK1208 hb; replace HB := hs HB hb; (try clear hb)))
      go_ret
      exact ⟨er, bs⟩
set_option maxHeartbeats 8000000 in
set_option maxRecDepth 100000 in
theorem enclose_Contains.calls (k : Nat) (a0_0 : Bool) (a0_1 : ByteArray) (a0_2 : ByteArray) (a0_3 : Bool) (a0_4 : ByteArray) (a0_5 : ByteArray) (a1_0 : Bool) (a1_1 : ByteArray) (a1_2 : ByteArray) (r : Bool) (w : World) (h : enclose_Contains.f k a0_0 a0_1 a0_2 a0_3 a0_4 a0_5 a1_0 a1_1 a1_2 = some r) :
  Calls Try.prog 49 #[.agg #[.bool a0_0, .string a0_1, .string a0_2, .bool a0_3, .string a0_4, .string a0_5], .agg #[.bool a1_0, .string a1_1, .string a1_2]] w fun e w' => e = .returned (.bool r) ∧ Below w.heap.size w w' := by
 have hu44 := Try.underlying44
 have hu35 := Try.underlying35
 have HB := Aside0.mk (Below.refl w.heap.size w)
 have H : Option.bind (enclose_Valid.f k a0_0 a0_1 a0_2 a0_3 a0_4 a0_5) _ = _ := h
 clear h
 replace H := Option.bind_eq_some_iff.mp H
 obtain ⟨t1225, A30, H⟩ := H
 replace H : (if t1225 = true then _ else _) = _ := H
 have A3 := Aside0.mk A30
 clear A30
 by_cases c4 : t1225 = true
 ·subst c4
  have H1 : Option.bind (ratio_IsRatio.f k a1_0 a1_1 a1_2) _ = _ := (if_pos rfl).symm.trans H
  clear H
  have H := H1
  clear H1
  replace H := Option.bind_eq_some_iff.mp H
  obtain ⟨t1226, A50, H⟩ := H
  replace H : (if t1226 = true then _ else _) = _ := H
  have A5 := Aside0.mk A50
  clear A50
  by_cases c6 : t1226 = true
  ·subst c6
   have H1 : Option.bind (ratio_Compare.f k a0_0 a0_1 a0_2 a1_0 a1_1 a1_2) _ = _ := (if_pos rfl).symm.trans H
   clear H
   have H := H1
   clear H1
   replace H := Option.bind_eq_some_iff.mp H
   obtain ⟨t1227, A70, H⟩ := H
   replace H : (if t1227 ≤ 0 then _ else _) = _ := H
   have A7 := Aside0.mk A70
   clear A70
   by_cases c8 : t1227 ≤ 0
   ·rw [if_pos c8] at H
    have c8b0 : decide (t1227 ≤ 0) = true := decide_eq_true c8
    clear c8
    replace H := Option.bind_eq_some_iff.mp H
    obtain ⟨t1228, A90, H⟩ := H
    replace H : (some (decide (t1228 ≤ 0))) = some r := H
    have A9 := Aside0.mk A90
    clear A90
    obtain rfl := Option.some.inj H
    go_enter Try.func49, Try.ntmps49
    go_wp2_with (first | ((with_reducible refine gate_dst (N := 2) rfl ?_); refine be (N := 2) (cs := #[.bool a0_0, .string a0_1, .string a0_2, .bool a0_3, .string a0_4, .string a0_5]) (t := 44) ?_; intro gb1223 hg w10 hbox hb; have BK1223 := Aside0.mk (hbox); have GW1223 := gw HB hg; have GE1223 := GW1223; replace HB := hs HB hb; clear hb hbox hg) | ((with_reducible refine gate_dst (N := 3) rfl ?_); refine be (N := 3) (cs := #[.bool a1_0, .string a1_1, .string a1_2]) (t := 35) ?_; intro gb1224 hg w11 hbox hb; have BK1224 := Aside0.mk (hbox); have GW1224 := gw HB hg; have GE1224 := GW1224; replace HB := hs HB hb; have NB1223_1224 := na BK1223 hg; have NB1224_1223 := nz NB1223_1224; replace BK1223 := bb BK1223 hb; clear hb hbox hg; have hnb12 := NB1223_1224.out; have hnc12 := NB1224_1223.out; have hcz13_0 : w11.cell? ⟨gb1223, 0, none⟩ = some (.bool a0_0) := (blk_cell BK1223.out 0).trans rfl; have hcz13_1 : w11.cell? ⟨gb1223, 1, none⟩ = some (.string a0_1) := (blk_cell BK1223.out 1).trans rfl; have hcz13_2 : w11.cell? ⟨gb1223, 2, none⟩ = some (.string a0_2) := (blk_cell BK1223.out 2).trans rfl; have hcz13_3 : w11.cell? ⟨gb1223, 3, none⟩ = some (.bool a0_3) := (blk_cell BK1223.out 3).trans rfl; have hcz13_4 : w11.cell? ⟨gb1223, 4, none⟩ = some (.string a0_4) := (blk_cell BK1223.out 4).trans rfl; have hcz13_5 : w11.cell? ⟨gb1223, 5, none⟩ = some (.string a0_5) := (blk_cell BK1223.out 5).trans rfl; have hfz13_0 := blk_frozen BK1223.out 0; have hfz13_1 := blk_frozen BK1223.out 1; have hfz13_2 := blk_frozen BK1223.out 2; have hfz13_3 := blk_frozen BK1223.out 3; have hfz13_4 := blk_frozen BK1223.out 4; have hfz13_5 := blk_frozen BK1223.out 5) | ((with_reducible refine gate_callee (f := 50) rfl ?_); refine goesL_ (some 6) rfl rfl Try.func50 (by kernel_rfl) rfl #[.agg #[.bool a0_0, .string a0_1, .string a0_2, .bool a0_3, .string a0_4, .string a0_5]] rfl ga ?_; (with_reducible refine (enclose_Valid.calls k a0_0 a0_1 a0_2 a0_3 a0_4 a0_5 true _ A3.out).mono ?_); rintro e w14 ⟨rfl, hb⟩; refine ⟨_, rfl, ?_⟩; replace BK1223 := bb BK1223 hb; replace BK1224 := bb BK1224 hb; replace HB := hs HB hb; (try clear hb); obtain ⟨hcz15_0, hcz15_1, hcz15_2, hfz15_0, hfz15_1, hfz15_2⟩ := z3 BK1224) | (go_at_call 44; (with_reducible refine (ratio_IsRatio.calls k a1_0 a1_1 a1_2 true _ A5.out).mono ?_); rintro e w16 ⟨rfl, hb⟩; replace BK1223 := bb BK1223 hb; replace BK1224 := bb BK1224 hb; replace HB := hs HB hb; (try clear hb); have hcz17_0 : w16.cell? ⟨gb1223, 0, none⟩ = some (.bool a0_0) := (blk_cell BK1223.out 0).trans rfl; have hcz17_1 : w16.cell? ⟨gb1223, 1, none⟩ = some (.string a0_1) := (blk_cell BK1223.out 1).trans rfl; have hcz17_2 : w16.cell? ⟨gb1223, 2, none⟩ = some (.string a0_2) := (blk_cell BK1223.out 2).trans rfl; have hcz17_3 : w16.cell? ⟨gb1223, 3, none⟩ = some (.bool a0_3) := (blk_cell BK1223.out 3).trans rfl; have hcz17_4 : w16.cell? ⟨gb1223, 4, none⟩ = some (.string a0_4) := (blk_cell BK1223.out 4).trans rfl; have hcz17_5 : w16.cell? ⟨gb1223, 5, none⟩ = some (.string a0_5) := (blk_cell BK1223.out 5).trans rfl; have hfz17_0 := blk_frozen BK1223.out 0; have hfz17_1 := blk_frozen BK1223.out 1; have hfz17_2 := blk_frozen BK1223.out 2; have hfz17_3 := blk_frozen BK1223.out 3; have hfz17_4 := blk_frozen BK1223.out 4; have hfz17_5 := blk_frozen BK1223.out 5; obtain ⟨hcz18_0, hcz18_1, hcz18_2, hfz18_0, hfz18_1, hfz18_2⟩ := z3 BK1224) | (go_at_call 47; (with_reducible refine (ratio_Compare.calls k a0_0 a0_1 a0_2 a1_0 a1_1 a1_2 t1227 _ A7.out).mono ?_); rintro e w19 ⟨rfl, hb⟩; replace BK1223 := bb BK1223 hb; replace BK1224 := bb BK1224 hb; replace HB := hs HB hb; (try clear hb); obtain ⟨hcz20_0, hcz20_1, hcz20_2, hfz20_0, hfz20_1, hfz20_2⟩ := z3 BK1224; have hcz21_0 : w19.cell? ⟨gb1223, 0, none⟩ = some (.bool a0_0) := (blk_cell BK1223.out 0).trans rfl; have hcz21_1 : w19.cell? ⟨gb1223, 1, none⟩ = some (.string a0_1) := (blk_cell BK1223.out 1).trans rfl; have hcz21_2 : w19.cell? ⟨gb1223, 2, none⟩ = some (.string a0_2) := (blk_cell BK1223.out 2).trans rfl; have hcz21_3 : w19.cell? ⟨gb1223, 3, none⟩ = some (.bool a0_3) := (blk_cell BK1223.out 3).trans rfl; have hcz21_4 : w19.cell? ⟨gb1223, 4, none⟩ = some (.string a0_4) := (blk_cell BK1223.out 4).trans rfl; have hcz21_5 : w19.cell? ⟨gb1223, 5, none⟩ = some (.string a0_5) := (blk_cell BK1223.out 5).trans rfl; have hfz21_0 := blk_frozen BK1223.out 0; have hfz21_1 := blk_frozen BK1223.out 1; have hfz21_2 := blk_frozen BK1223.out 2; have hfz21_3 := blk_frozen BK1223.out 3; have hfz21_4 := blk_frozen BK1223.out 4; have hfz21_5 := blk_frozen BK1223.out 5) | (go_at_call 47; (with_reducible refine (ratio_Compare.calls k a1_0 a1_1 a1_2 a0_3 a0_4 a0_5 t1228 _ A9.out).mono ?_); rintro e w22 ⟨rfl, hb⟩; replace BK1223 := bb BK1223 hb; replace BK1224 := bb BK1224 hb; replace HB := hs HB hb; (try clear hb)))
    go_ret
    exact ⟨er, bs⟩
   ·rw [if_neg c8] at H
    have c8b0 : decide (t1227 ≤ 0) = false := decide_eq_false c8
    clear c8
    obtain rfl := Option.some.inj H
    go_enter Try.func49, Try.ntmps49
    go_wp2_with (first | ((with_reducible refine gate_dst (N := 2) rfl ?_); refine be (N := 2) (cs := #[.bool a0_0, .string a0_1, .string a0_2, .bool a0_3, .string a0_4, .string a0_5]) (t := 44) ?_; intro gb1223 hg w23 hbox hb; have BK1223 := Aside0.mk (hbox); have GW1223 := gw HB hg; have GE1223 := GW1223; replace HB := hs HB hb; clear hb hbox hg) | ((with_reducible refine gate_dst (N := 3) rfl ?_); refine be (N := 3) (cs := #[.bool a1_0, .string a1_1, .string a1_2]) (t := 35) ?_; intro gb1224 hg w24 hbox hb; have BK1224 := Aside0.mk (hbox); have GW1224 := gw HB hg; have GE1224 := GW1224; replace HB := hs HB hb; have NB1223_1224 := na BK1223 hg; have NB1224_1223 := nz NB1223_1224; replace BK1223 := bb BK1223 hb; clear hb hbox hg; have hnb25 := NB1223_1224.out; have hnc25 := NB1224_1223.out; have hcz26_0 : w24.cell? ⟨gb1223, 0, none⟩ = some (.bool a0_0) := (blk_cell BK1223.out 0).trans rfl; have hcz26_1 : w24.cell? ⟨gb1223, 1, none⟩ = some (.string a0_1) := (blk_cell BK1223.out 1).trans rfl; have hcz26_2 : w24.cell? ⟨gb1223, 2, none⟩ = some (.string a0_2) := (blk_cell BK1223.out 2).trans rfl; have hcz26_3 : w24.cell? ⟨gb1223, 3, none⟩ = some (.bool a0_3) := (blk_cell BK1223.out 3).trans rfl; have hcz26_4 : w24.cell? ⟨gb1223, 4, none⟩ = some (.string a0_4) := (blk_cell BK1223.out 4).trans rfl; have hcz26_5 : w24.cell? ⟨gb1223, 5, none⟩ = some (.string a0_5) := (blk_cell BK1223.out 5).trans rfl; have hfz26_0 := blk_frozen BK1223.out 0; have hfz26_1 := blk_frozen BK1223.out 1; have hfz26_2 := blk_frozen BK1223.out 2; have hfz26_3 := blk_frozen BK1223.out 3; have hfz26_4 := blk_frozen BK1223.out 4; have hfz26_5 := blk_frozen BK1223.out 5) | ((with_reducible refine gate_callee (f := 50) rfl ?_); refine goesL_ (some 6) rfl rfl Try.func50 (by kernel_rfl) rfl #[.agg #[.bool a0_0, .string a0_1, .string a0_2, .bool a0_3, .string a0_4, .string a0_5]] rfl ga ?_; (with_reducible refine (enclose_Valid.calls k a0_0 a0_1 a0_2 a0_3 a0_4 a0_5 true _ A3.out).mono ?_); rintro e w27 ⟨rfl, hb⟩; refine ⟨_, rfl, ?_⟩; replace BK1223 := bb BK1223 hb; replace BK1224 := bb BK1224 hb; replace HB := hs HB hb; (try clear hb); obtain ⟨hcz28_0, hcz28_1, hcz28_2, hfz28_0, hfz28_1, hfz28_2⟩ := z3 BK1224) | (go_at_call 44; (with_reducible refine (ratio_IsRatio.calls k a1_0 a1_1 a1_2 true _ A5.out).mono ?_); rintro e w29 ⟨rfl, hb⟩; replace BK1223 := bb BK1223 hb; replace BK1224 := bb BK1224 hb; replace HB := hs HB hb; (try clear hb); have hcz30_0 : w29.cell? ⟨gb1223, 0, none⟩ = some (.bool a0_0) := (blk_cell BK1223.out 0).trans rfl; have hcz30_1 : w29.cell? ⟨gb1223, 1, none⟩ = some (.string a0_1) := (blk_cell BK1223.out 1).trans rfl; have hcz30_2 : w29.cell? ⟨gb1223, 2, none⟩ = some (.string a0_2) := (blk_cell BK1223.out 2).trans rfl; have hcz30_3 : w29.cell? ⟨gb1223, 3, none⟩ = some (.bool a0_3) := (blk_cell BK1223.out 3).trans rfl; have hcz30_4 : w29.cell? ⟨gb1223, 4, none⟩ = some (.string a0_4) := (blk_cell BK1223.out 4).trans rfl; have hcz30_5 : w29.cell? ⟨gb1223, 5, none⟩ = some (.string a0_5) := (blk_cell BK1223.out 5).trans rfl; have hfz30_0 := blk_frozen BK1223.out 0; have hfz30_1 := blk_frozen BK1223.out 1; have hfz30_2 := blk_frozen BK1223.out 2; have hfz30_3 := blk_frozen BK1223.out 3; have hfz30_4 := blk_frozen BK1223.out 4; have hfz30_5 := blk_frozen BK1223.out 5; obtain ⟨hcz31_0, hcz31_1, hcz31_2, hfz31_0, hfz31_1, hfz31_2⟩ := z3 BK1224) | (go_at_call 47; (with_reducible refine (ratio_Compare.calls k a0_0 a0_1 a0_2 a1_0 a1_1 a1_2 t1227 _ A7.out).mono ?_); rintro e w32 ⟨rfl, hb⟩; replace BK1223 := bb BK1223 hb; replace BK1224 := bb BK1224 hb; replace HB := hs HB hb; (try clear hb)))
    go_ret
    exact ⟨er, bs⟩
  ·replace c6 := Bool.eq_false_iff.mpr c6
   subst c6
   have H1 : (some false) = some r := by rw [if_neg (show ¬ (false = true) by decide)] at H; exact H
   clear H
   have H := H1
   clear H1
   obtain rfl := Option.some.inj H
   go_enter Try.func49, Try.ntmps49
   go_wp2_with (first | ((with_reducible refine gate_dst (N := 2) rfl ?_); refine be (N := 2) (cs := #[.bool a0_0, .string a0_1, .string a0_2, .bool a0_3, .string a0_4, .string a0_5]) (t := 44) ?_; intro gb1223 hg w33 hbox hb; have BK1223 := Aside0.mk (hbox); have GW1223 := gw HB hg; have GE1223 := GW1223; replace HB := hs HB hb; clear hb hbox hg) | ((with_reducible refine gate_dst (N := 3) rfl ?_); refine be (N := 3) (cs := #[.bool a1_0, .string a1_1, .string a1_2]) (t := 35) ?_; intro gb1224 hg w34 hbox hb; have BK1224 := Aside0.mk (hbox); have GW1224 := gw HB hg; have GE1224 := GW1224; replace HB := hs HB hb; have NB1223_1224 := na BK1223 hg; have NB1224_1223 := nz NB1223_1224; replace BK1223 := bb BK1223 hb; clear hb hbox hg; have hnb35 := NB1223_1224.out; have hnc35 := NB1224_1223.out; have hcz36_0 : w34.cell? ⟨gb1223, 0, none⟩ = some (.bool a0_0) := (blk_cell BK1223.out 0).trans rfl; have hcz36_1 : w34.cell? ⟨gb1223, 1, none⟩ = some (.string a0_1) := (blk_cell BK1223.out 1).trans rfl; have hcz36_2 : w34.cell? ⟨gb1223, 2, none⟩ = some (.string a0_2) := (blk_cell BK1223.out 2).trans rfl; have hcz36_3 : w34.cell? ⟨gb1223, 3, none⟩ = some (.bool a0_3) := (blk_cell BK1223.out 3).trans rfl; have hcz36_4 : w34.cell? ⟨gb1223, 4, none⟩ = some (.string a0_4) := (blk_cell BK1223.out 4).trans rfl; have hcz36_5 : w34.cell? ⟨gb1223, 5, none⟩ = some (.string a0_5) := (blk_cell BK1223.out 5).trans rfl; have hfz36_0 := blk_frozen BK1223.out 0; have hfz36_1 := blk_frozen BK1223.out 1; have hfz36_2 := blk_frozen BK1223.out 2; have hfz36_3 := blk_frozen BK1223.out 3; have hfz36_4 := blk_frozen BK1223.out 4; have hfz36_5 := blk_frozen BK1223.out 5) | ((with_reducible refine gate_callee (f := 50) rfl ?_); refine goesL_ (some 6) rfl rfl Try.func50 (by kernel_rfl) rfl #[.agg #[.bool a0_0, .string a0_1, .string a0_2, .bool a0_3, .string a0_4, .string a0_5]] rfl ga ?_; (with_reducible refine (enclose_Valid.calls k a0_0 a0_1 a0_2 a0_3 a0_4 a0_5 true _ A3.out).mono ?_); rintro e w37 ⟨rfl, hb⟩; refine ⟨_, rfl, ?_⟩; replace BK1223 := bb BK1223 hb; replace BK1224 := bb BK1224 hb; replace HB := hs HB hb; (try clear hb); obtain ⟨hcz38_0, hcz38_1, hcz38_2, hfz38_0, hfz38_1, hfz38_2⟩ := z3 BK1224) | (go_at_call 44; (with_reducible refine (ratio_IsRatio.calls k a1_0 a1_1 a1_2 false _ A5.out).mono ?_); rintro e w39 ⟨rfl, hb⟩; replace BK1223 := bb BK1223 hb; replace BK1224 := bb BK1224 hb; replace HB := hs HB hb; (try clear hb)))
   go_ret
   exact ⟨er, bs⟩
 ·replace c4 := Bool.eq_false_iff.mpr c4
  subst c4
  have H1 : (some false) = some r := by rw [if_neg (show ¬ (false = true) by decide)] at H; exact H
  clear H
  have H := H1
  clear H1
  obtain rfl := Option.some.inj H
  go_enter Try.func49, Try.ntmps49
  go_wp2_with (first | ((with_reducible refine gate_dst (N := 2) rfl ?_); refine be (N := 2) (cs := #[.bool a0_0, .string a0_1, .string a0_2, .bool a0_3, .string a0_4, .string a0_5]) (t := 44) ?_; intro gb1223 hg w40 hbox hb; have BK1223 := Aside0.mk (hbox); have GW1223 := gw HB hg; have GE1223 := GW1223; replace HB := hs HB hb; clear hb hbox hg) | ((with_reducible refine gate_dst (N := 3) rfl ?_); refine be (N := 3) (cs := #[.bool a1_0, .string a1_1, .string a1_2]) (t := 35) ?_; intro gb1224 hg w41 hbox hb; have BK1224 := Aside0.mk (hbox); have GW1224 := gw HB hg; have GE1224 := GW1224; replace HB := hs HB hb; have NB1223_1224 := na BK1223 hg; have NB1224_1223 := nz NB1223_1224; replace BK1223 := bb BK1223 hb; clear hb hbox hg; have hnb42 := NB1223_1224.out; have hnc42 := NB1224_1223.out; have hcz43_0 : w41.cell? ⟨gb1223, 0, none⟩ = some (.bool a0_0) := (blk_cell BK1223.out 0).trans rfl; have hcz43_1 : w41.cell? ⟨gb1223, 1, none⟩ = some (.string a0_1) := (blk_cell BK1223.out 1).trans rfl; have hcz43_2 : w41.cell? ⟨gb1223, 2, none⟩ = some (.string a0_2) := (blk_cell BK1223.out 2).trans rfl; have hcz43_3 : w41.cell? ⟨gb1223, 3, none⟩ = some (.bool a0_3) := (blk_cell BK1223.out 3).trans rfl; have hcz43_4 : w41.cell? ⟨gb1223, 4, none⟩ = some (.string a0_4) := (blk_cell BK1223.out 4).trans rfl; have hcz43_5 : w41.cell? ⟨gb1223, 5, none⟩ = some (.string a0_5) := (blk_cell BK1223.out 5).trans rfl; have hfz43_0 := blk_frozen BK1223.out 0; have hfz43_1 := blk_frozen BK1223.out 1; have hfz43_2 := blk_frozen BK1223.out 2; have hfz43_3 := blk_frozen BK1223.out 3; have hfz43_4 := blk_frozen BK1223.out 4; have hfz43_5 := blk_frozen BK1223.out 5) | ((with_reducible refine gate_callee (f := 50) rfl ?_); refine goesL_ (some 6) rfl rfl Try.func50 (by kernel_rfl) rfl #[.agg #[.bool a0_0, .string a0_1, .string a0_2, .bool a0_3, .string a0_4, .string a0_5]] rfl ga ?_; (with_reducible refine (enclose_Valid.calls k a0_0 a0_1 a0_2 a0_3 a0_4 a0_5 false _ A3.out).mono ?_); rintro e w44 ⟨rfl, hb⟩; refine ⟨_, rfl, ?_⟩; replace BK1223 := bb BK1223 hb; replace BK1224 := bb BK1224 hb; replace HB := hs HB hb; (try clear hb)))
  go_ret
  exact ⟨er, bs⟩
end Go.Proofs.Ytccgfmjcldifcaa.P
