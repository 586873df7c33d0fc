/- Walks of Go functions: what they compute; each theorem's conditions stand in it. -/
import Derived.Test.YtccgfmjcldifcaaT
import Derived.Test.YtccgfmjcldifcaaCRCmp
import Derived.Test.YtccgfmjcldifcaaCRLow
import Derived.Test.YtccgfmjcldifcaaDB
import Derived.Test.YtccgfmjcldifcaaDF
namespace Go.Proofs.Ytccgfmjcldifcaa.P
open Go.RowKit Go.Proofs.YtccgfmjcldifcaaW.PrintWords Go.Proofs.YtccgfmjcldifcaaW.PrintLast Go.Proofs.YtccgfmjcldifcaaW.PrintMore
attribute [local go_sem] max2_int min2_int max_two min_two max_three min_three max_four min_four
set_option linter.unusedVariables false
set_option linter.unusedSimpArgs false
set_option maxHeartbeats 8000000 in
set_option maxRecDepth 100000 in
theorem corporaref37_Valid.calls (k : Nat) (a0_0 : Bool) (a0_1 : ByteArray) (a0_2 : ByteArray) (a0_3 : Bool) (a0_4 : ByteArray) (a0_5 : ByteArray) (r : Bool) (w : World) (h : corporaref37_Valid.f k a0_0 a0_1 a0_2 a0_3 a0_4 a0_5 = some r) :
  Calls Try.prog 58 #[.agg #[.bool a0_0, .string a0_1, .string a0_2, .bool a0_3, .string a0_4, .string a0_5]] w fun e w' => e = .returned (.bool r) ∧ Below w.heap.size w w' := by
 have hu44 := Try.underlying44
 have hu35 := Try.underlying35
 have HB := Aside0.mk (Below.refl w.heap.size w)
 have H : Option.bind (corporaref36_IsRatio.f k a0_0 a0_1 a0_2) _ = _ := h
 clear h
 replace H := Option.bind_eq_some_iff.mp H
 obtain ⟨t1214, A20, H⟩ := H
 replace H : (if t1214 = true then _ else _) = _ := H
 have A2 := Aside0.mk A20
 clear A20
 by_cases c3 : t1214 = true
 ·subst c3
  have H1 : Option.bind (corporaref36_IsRatio.f k a0_3 a0_4 a0_5) _ = _ := (if_pos rfl).symm.trans H
  clear H
  have H := H1
  clear H1
  replace H := Option.bind_eq_some_iff.mp H
  obtain ⟨t1215, A40, H⟩ := H
  replace H : (if t1215 = true then _ else _) = _ := H
  have A4 := Aside0.mk A40
  clear A40
  by_cases c5 : t1215 = true
  ·subst c5
   have H1 : Option.bind (corporaref36_Compare.f k a0_0 a0_1 a0_2 a0_3 a0_4 a0_5) _ = _ := (if_pos rfl).symm.trans H
   clear H
   have H := H1
   clear H1
   replace H := Option.bind_eq_some_iff.mp H
   obtain ⟨t1216, A60, H⟩ := H
   replace H : (some (decide (t1216 ≤ 0))) = some r := H
   have A6 := Aside0.mk A60
   clear A60
   obtain rfl := Option.some.inj H
   go_enter Try.func58, Try.ntmps58
   go_wp2_with (first | ((with_reducible refine gate_dst (N := 1) rfl ?_); refine be (N := 1) (cs := #[.bool a0_0, .string a0_1, .string a0_2, .bool a0_3, .string a0_4, .string a0_5]) (t := 44) ?_; intro gb1213 hg w7 hbox hb; have BK1213 := Aside0.mk (hbox); have GW1213 := gw HB hg; have GE1213 := GW1213; replace HB := hs HB hb; clear hb hbox hg; have hcz8_0 : w7.cell? ⟨gb1213, 0, none⟩ = some (.bool a0_0) := (blk_cell BK1213.out 0).trans rfl; have hcz8_1 : w7.cell? ⟨gb1213, 1, none⟩ = some (.string a0_1) := (blk_cell BK1213.out 1).trans rfl; have hcz8_2 : w7.cell? ⟨gb1213, 2, none⟩ = some (.string a0_2) := (blk_cell BK1213.out 2).trans rfl; have hcz8_3 : w7.cell? ⟨gb1213, 3, none⟩ = some (.bool a0_3) := (blk_cell BK1213.out 3).trans rfl; have hcz8_4 : w7.cell? ⟨gb1213, 4, none⟩ = some (.string a0_4) := (blk_cell BK1213.out 4).trans rfl; have hcz8_5 : w7.cell? ⟨gb1213, 5, none⟩ = some (.string a0_5) := (blk_cell BK1213.out 5).trans rfl; have hfz8_0 := blk_frozen BK1213.out 0; have hfz8_1 := blk_frozen BK1213.out 1; have hfz8_2 := blk_frozen BK1213.out 2; have hfz8_3 := blk_frozen BK1213.out 3; have hfz8_4 := blk_frozen BK1213.out 4; have hfz8_5 := blk_frozen BK1213.out 5) | ((with_reducible refine gate_callee (f := 69) rfl ?_); refine goesL_ (some 5) rfl rfl Try.func69 (by kernel_rfl) rfl #[.agg #[.bool a0_0, .string a0_1, .string a0_2]] rfl ga ?_; (with_reducible refine (corporaref36_IsRatio.calls k a0_0 a0_1 a0_2 true _ A2.out).mono ?_); rintro e w9 ⟨rfl, hb⟩; refine ⟨_, rfl, ?_⟩; replace BK1213 := bb BK1213 hb; replace HB := hs HB hb; (try clear hb); have hcz10_0 : w9.cell? ⟨gb1213, 0, none⟩ = some (.bool a0_0) := (blk_cell BK1213.out 0).trans rfl; have hcz10_1 : w9.cell? ⟨gb1213, 1, none⟩ = some (.string a0_1) := (blk_cell BK1213.out 1).trans rfl; have hcz10_2 : w9.cell? ⟨gb1213, 2, none⟩ = some (.string a0_2) := (blk_cell BK1213.out 2).trans rfl; have hcz10_3 : w9.cell? ⟨gb1213, 3, none⟩ = some (.bool a0_3) := (blk_cell BK1213.out 3).trans rfl; have hcz10_4 : w9.cell? ⟨gb1213, 4, none⟩ = some (.string a0_4) := (blk_cell BK1213.out 4).trans rfl; have hcz10_5 : w9.cell? ⟨gb1213, 5, none⟩ = some (.string a0_5) := (blk_cell BK1213.out 5).trans rfl; have hfz10_0 := blk_frozen BK1213.out 0; have hfz10_1 := blk_frozen BK1213.out 1; have hfz10_2 := blk_frozen BK1213.out 2; have hfz10_3 := blk_frozen BK1213.out 3; have hfz10_4 := blk_frozen BK1213.out 4; have hfz10_5 := blk_frozen BK1213.out 5) | (go_at_call 69; (with_reducible refine (corporaref36_IsRatio.calls k a0_3 a0_4 a0_5 true _ A4.out).mono ?_); rintro e w11 ⟨rfl, hb⟩; replace BK1213 := bb BK1213 hb; replace HB := hs HB hb; (try clear hb); have hcz12_0 : w11.cell? ⟨gb1213, 0, none⟩ = some (.bool a0_0) := (blk_cell BK1213.out 0).trans rfl; have hcz12_1 : w11.cell? ⟨gb1213, 1, none⟩ = some (.string a0_1) := (blk_cell BK1213.out 1).trans rfl; have hcz12_2 : w11.cell? ⟨gb1213, 2, none⟩ = some (.string a0_2) := (blk_cell BK1213.out 2).trans rfl; have hcz12_3 : w11.cell? ⟨gb1213, 3, none⟩ = some (.bool a0_3) := (blk_cell BK1213.out 3).trans rfl; have hcz12_4 : w11.cell? ⟨gb1213, 4, none⟩ = some (.string a0_4) := (blk_cell BK1213.out 4).trans rfl; have hcz12_5 : w11.cell? ⟨gb1213, 5, none⟩ = some (.string a0_5) := (blk_cell BK1213.out 5).trans rfl; have hfz12_0 := blk_frozen BK1213.out 0; have hfz12_1 := blk_frozen BK1213.out 1; have hfz12_2 := blk_frozen BK1213.out 2; have hfz12_3 := blk_frozen BK1213.out 3; have hfz12_4 := blk_frozen BK1213.out 4; have hfz12_5 := blk_frozen BK1213.out 5) | (go_at_call 70; (with_reducible refine (corporaref36_Compare.calls k a0_0 a0_1 a0_2 a0_3 a0_4 a0_5 t1216 _ A6.out).mono ?_); rintro e w13 ⟨rfl, hb⟩; replace BK1213 := bb BK1213 hb; replace HB := hs HB hb; (try clear hb)))
   go_ret
   exact ⟨er, bs⟩
  ·replace c5 := Bool.eq_false_iff.mpr c5
   subst c5
   have H1 : (some false) = some r := by rw [if_neg (show ¬ (false = true) by decide)] at H; exact H
   clear H
   have H := H1
   clear H1
   obtain rfl := Option.some.inj H
   go_enter Try.func58, Try.ntmps58
   go_wp2_with (first | ((with_reducible refine gate_dst (N := 1) rfl ?_); refine be (N := 1) (cs := #[.bool a0_0, .string a0_1, .string a0_2, .bool a0_3, .string a0_4, .string a0_5]) (t := 44) ?_; intro gb1213 hg w14 hbox hb; have BK1213 := Aside0.mk (hbox); have GW1213 := gw HB hg; have GE1213 := GW1213; replace HB := hs HB hb; clear hb hbox hg; have hcz15_0 : w14.cell? ⟨gb1213, 0, none⟩ = some (.bool a0_0) := (blk_cell BK1213.out 0).trans rfl; have hcz15_1 : w14.cell? ⟨gb1213, 1, none⟩ = some (.string a0_1) := (blk_cell BK1213.out 1).trans rfl; have hcz15_2 : w14.cell? ⟨gb1213, 2, none⟩ = some (.string a0_2) := (blk_cell BK1213.out 2).trans rfl; have hcz15_3 : w14.cell? ⟨gb1213, 3, none⟩ = some (.bool a0_3) := (blk_cell BK1213.out 3).trans rfl; have hcz15_4 : w14.cell? ⟨gb1213, 4, none⟩ = some (.string a0_4) := (blk_cell BK1213.out 4).trans rfl; have hcz15_5 : w14.cell? ⟨gb1213, 5, none⟩ = some (.string a0_5) := (blk_cell BK1213.out 5).trans rfl; have hfz15_0 := blk_frozen BK1213.out 0; have hfz15_1 := blk_frozen BK1213.out 1; have hfz15_2 := blk_frozen BK1213.out 2; have hfz15_3 := blk_frozen BK1213.out 3; have hfz15_4 := blk_frozen BK1213.out 4; have hfz15_5 := blk_frozen BK1213.out 5) | ((with_reducible refine gate_callee (f := 69) rfl ?_); refine goesL_ (some 5) rfl rfl Try.func69 (by kernel_rfl) rfl #[.agg #[.bool a0_0, .string a0_1, .string a0_2]] rfl ga ?_; (with_reducible refine (corporaref36_IsRatio.calls k a0_0 a0_1 a0_2 true _ A2.out).mono ?_); rintro e w16 ⟨rfl, hb⟩; refine ⟨_, rfl, ?_⟩; replace BK1213 := bb BK1213 hb; replace HB := hs HB hb; (try clear hb); have hcz17_0 : w16.cell? ⟨gb1213, 0, none⟩ = some (.bool a0_0) := (blk_cell BK1213.out 0).trans rfl; have hcz17_1 : w16.cell? ⟨gb1213, 1, none⟩ = some (.string a0_1) := (blk_cell BK1213.out 1).trans rfl; have hcz17_2 : w16.cell? ⟨gb1213, 2, none⟩ = some (.string a0_2) := (blk_cell BK1213.out 2).trans rfl; have hcz17_3 : w16.cell? ⟨gb1213, 3, none⟩ = some (.bool a0_3) := (blk_cell BK1213.out 3).trans rfl; have hcz17_4 : w16.cell? ⟨gb1213, 4, none⟩ = some (.string a0_4) := (blk_cell BK1213.out 4).trans rfl; have hcz17_5 : w16.cell? ⟨gb1213, 5, none⟩ = some (.string a0_5) := (blk_cell BK1213.out 5).trans rfl; have hfz17_0 := blk_frozen BK1213.out 0; have hfz17_1 := blk_frozen BK1213.out 1; have hfz17_2 := blk_frozen BK1213.out 2; have hfz17_3 := blk_frozen BK1213.out 3; have hfz17_4 := blk_frozen BK1213.out 4; have hfz17_5 := blk_frozen BK1213.out 5) | (go_at_call 69; (with_reducible refine (corporaref36_IsRatio.calls k a0_3 a0_4 a0_5 false _ A4.out).mono ?_); rintro e w18 ⟨rfl, hb⟩; replace BK1213 := bb BK1213 hb; replace HB := hs HB hb; (try clear hb)))
   go_ret
   exact ⟨er, bs⟩
 ·replace c3 := Bool.eq_false_iff.mpr c3
  subst c3
  have H1 : (some false) = some r := by rw [if_neg (show ¬ (false = true) by decide)] at H; exact H
  clear H
  have H := H1
  clear H1
  obtain rfl := Option.some.inj H
  go_enter Try.func58, Try.ntmps58
  go_wp2_with (first | ((with_reducible refine gate_dst (N := 1) rfl ?_); refine be (N := 1) (cs := #[.bool a0_0, .string a0_1, .string a0_2, .bool a0_3, .string a0_4, .string a0_5]) (t := 44) ?_; intro gb1213 hg w19 hbox hb; have BK1213 := Aside0.mk (hbox); have GW1213 := gw HB hg; have GE1213 := GW1213; replace HB := hs HB hb; clear hb hbox hg; have hcz20_0 : w19.cell? ⟨gb1213, 0, none⟩ = some (.bool a0_0) := (blk_cell BK1213.out 0).trans rfl; have hcz20_1 : w19.cell? ⟨gb1213, 1, none⟩ = some (.string a0_1) := (blk_cell BK1213.out 1).trans rfl; have hcz20_2 : w19.cell? ⟨gb1213, 2, none⟩ = some (.string a0_2) := (blk_cell BK1213.out 2).trans rfl; have hcz20_3 : w19.cell? ⟨gb1213, 3, none⟩ = some (.bool a0_3) := (blk_cell BK1213.out 3).trans rfl; have hcz20_4 : w19.cell? ⟨gb1213, 4, none⟩ = some (.string a0_4) := (blk_cell BK1213.out 4).trans rfl; have hcz20_5 : w19.cell? ⟨gb1213, 5, none⟩ = some (.string a0_5) := (blk_cell BK1213.out 5).trans rfl; have hfz20_0 := blk_frozen BK1213.out 0; have hfz20_1 := blk_frozen BK1213.out 1; have hfz20_2 := blk_frozen BK1213.out 2; have hfz20_3 := blk_frozen BK1213.out 3; have hfz20_4 := blk_frozen BK1213.out 4; have hfz20_5 := blk_frozen BK1213.out 5) | ((with_reducible refine gate_callee (f := 69) rfl ?_); refine goesL_ (some 5) rfl rfl Try.func69 (by kernel_rfl) rfl #[.agg #[.bool a0_0, .string a0_1, .string a0_2]] rfl ga ?_; (with_reducible refine (corporaref36_IsRatio.calls k a0_0 a0_1 a0_2 false _ A2.out).mono ?_); rintro e w21 ⟨rfl, hb⟩; refine ⟨_, rfl, ?_⟩; replace BK1213 := bb BK1213 hb; replace HB := hs HB hb; (try clear hb)))
  go_ret
  exact ⟨er, bs⟩
set_option maxHeartbeats 8000000 in
set_option maxRecDepth 100000 in
theorem corporaref37_Compare.calls (k : Nat) (a0_0 : Bool) (a0_1 : ByteArray) (a0_2 : ByteArray) (a0_3 : Bool) (a0_4 : ByteArray) (a0_5 : ByteArray) (a1_0 : Bool) (a1_1 : ByteArray) (a1_2 : ByteArray) (a1_3 : Bool) (a1_4 : ByteArray) (a1_5 : ByteArray) (r : Int) (w : World) (h : corporaref37_Compare.f k a0_0 a0_1 a0_2 a0_3 a0_4 a0_5 a1_0 a1_1 a1_2 a1_3 a1_4 a1_5 = some r) :
  Calls Try.prog 48 #[.agg #[.bool a0_0, .string a0_1, .string a0_2, .bool a0_3, .string a0_4, .string a0_5], .agg #[.bool a1_0, .string a1_1, .string a1_2, .bool a1_3, .string a1_4, .string a1_5]] w fun e w' => e = .returned (.int .i64 r) ∧ Below w.heap.size w w' := by
 have hu44 := Try.underlying44
 have hu35 := Try.underlying35
 have HB := Aside0.mk (Below.refl w.heap.size w)
 have H : Option.bind (corporaref37_Valid.f k a0_0 a0_1 a0_2 a0_3 a0_4 a0_5) _ = _ := h
 clear h
 have HC3 := Aside0.mk H
 clear H
 go_enter Try.func48, Try.ntmps48
 go_upto_region 1 with (first | ((with_reducible refine gate_dst (N := 2) rfl ?_); refine be (N := 2) (cs := #[.bool a0_0, .string a0_1, .string a0_2, .bool a0_3, .string a0_4, .string a0_5]) (t := 44) ?_; intro gb1217 hg w4 hbox hb; have BK1217 := Aside0.mk (hbox); have GW1217 := gw HB hg; have GE1217 := GW1217; replace HB := hs HB hb; clear hb hbox hg) | ((with_reducible refine gate_dst (N := 3) rfl ?_); refine be (N := 3) (cs := #[.bool a1_0, .string a1_1, .string a1_2, .bool a1_3, .string a1_4, .string a1_5]) (t := 44) ?_; intro gb1218 hg w5 hbox hb; have BK1218 := Aside0.mk (hbox); have GW1218 := gw HB hg; have GE1218 := GW1218; replace HB := hs HB hb; have NB1217_1218 := na BK1217 hg; have NB1218_1217 := nz NB1217_1218; replace BK1217 := bb BK1217 hb; clear hb hbox hg))
 (try simp only [Act.put, List.setIfInBounds_toArray, List.set_cons_zero, List.set_cons_succ])
 go_cut [12] (fun v12 wc => ∃ (kq : Nat) (x12_2 : Bool), v12 = .bool x12_2 ∧ Aside0 (corporaref37_Compare.j0 kq x12_2 a0_0 a0_1 a0_2 a0_3 a0_4 a0_5 a1_0 a1_1 a1_2 a1_3 a1_4 a1_5 = some r) ∧ Aside0 (kq ≤ k) ∧ Aside0 (wc.heap[gb1217]? = some (.cells #[.bool a0_0, .string a0_1, .string a0_2, .bool a0_3, .string a0_4, .string a0_5] 44 (0, 0))) ∧ Aside0 (wc.heap[gb1218]? = some (.cells #[.bool a1_0, .string a1_1, .string a1_2, .bool a1_3, .string a1_4, .string a1_5] 44 (0, 0))) ∧ Aside0 (Below w.heap.size w wc))
 case first =>
  have H := HC3.out
  clear HC3
  replace H := Option.bind_eq_some_iff.mp H
  obtain ⟨t1219, A60, H⟩ := H
  replace H : (if t1219 = true then _ else _) = _ := H
  have A6 := Aside0.mk A60
  clear A60
  by_cases c7 : t1219 = true
  ·subst c7
   have H1 : Option.bind (corporaref37_Valid.f k a1_0 a1_1 a1_2 a1_3 a1_4 a1_5) _ = _ := (if_pos rfl).symm.trans H
   clear H
   have H := H1
   clear H1
   replace H := Option.bind_eq_some_iff.mp H
   obtain ⟨t1220, A80, H⟩ := H
   replace H : (corporaref37_Compare.j0 k (!t1220) a0_0 a0_1 a0_2 a0_3 a0_4 a0_5 a1_0 a1_1 a1_2 a1_3 a1_4 a1_5) = some r := H
   have A8 := Aside0.mk A80
   clear A80
   have H' := Aside0.mk H
   clear H
   have hnb9 := NB1217_1218.out
   have hnc9 := NB1218_1217.out
   have hcz10_0 : w5.cell? ⟨gb1217, 0, none⟩ = some (.bool a0_0) := (blk_cell BK1217.out 0).trans rfl
   have hcz10_1 : w5.cell? ⟨gb1217, 1, none⟩ = some (.string a0_1) := (blk_cell BK1217.out 1).trans rfl
   have hcz10_2 : w5.cell? ⟨gb1217, 2, none⟩ = some (.string a0_2) := (blk_cell BK1217.out 2).trans rfl
   have hcz10_3 : w5.cell? ⟨gb1217, 3, none⟩ = some (.bool a0_3) := (blk_cell BK1217.out 3).trans rfl
   have hcz10_4 : w5.cell? ⟨gb1217, 4, none⟩ = some (.string a0_4) := (blk_cell BK1217.out 4).trans rfl
   have hcz10_5 : w5.cell? ⟨gb1217, 5, none⟩ = some (.string a0_5) := (blk_cell BK1217.out 5).trans rfl
   have hfz10_0 := blk_frozen BK1217.out 0
   have hfz10_1 := blk_frozen BK1217.out 1
   have hfz10_2 := blk_frozen BK1217.out 2
   have hfz10_3 := blk_frozen BK1217.out 3
   have hfz10_4 := blk_frozen BK1217.out 4
   have hfz10_5 := blk_frozen BK1217.out 5
   go_wp2_with (first | ((with_reducible refine gate_callee (f := 58) rfl ?_); refine goesL_ (some 6) rfl rfl Try.func58 (by kernel_rfl) rfl #[.agg #[.bool a0_0, .string a0_1, .string a0_2, .bool a0_3, .string a0_4, .string a0_5]] rfl ga ?_; (with_reducible refine (corporaref37_Valid.calls k a0_0 a0_1 a0_2 a0_3 a0_4 a0_5 true _ A6.out).mono ?_); rintro e w11 ⟨rfl, hb⟩; refine ⟨_, rfl, ?_⟩; replace BK1217 := bb BK1217 hb; replace BK1218 := bb BK1218 hb; replace HB := hs HB hb; (try clear hb); have hcz12_0 : w11.cell? ⟨gb1218, 0, none⟩ = some (.bool a1_0) := (blk_cell BK1218.out 0).trans rfl; have hcz12_1 : w11.cell? ⟨gb1218, 1, none⟩ = some (.string a1_1) := (blk_cell BK1218.out 1).trans rfl; have hcz12_2 : w11.cell? ⟨gb1218, 2, none⟩ = some (.string a1_2) := (blk_cell BK1218.out 2).trans rfl; have hcz12_3 : w11.cell? ⟨gb1218, 3, none⟩ = some (.bool a1_3) := (blk_cell BK1218.out 3).trans rfl; have hcz12_4 : w11.cell? ⟨gb1218, 4, none⟩ = some (.string a1_4) := (blk_cell BK1218.out 4).trans rfl; have hcz12_5 : w11.cell? ⟨gb1218, 5, none⟩ = some (.string a1_5) := (blk_cell BK1218.out 5).trans rfl; have hfz12_0 := blk_frozen BK1218.out 0; have hfz12_1 := blk_frozen BK1218.out 1; have hfz12_2 := blk_frozen BK1218.out 2; have hfz12_3 := blk_frozen BK1218.out 3; have hfz12_4 := blk_frozen BK1218.out 4; have hfz12_5 := blk_frozen BK1218.out 5) | (go_at_call 58; (with_reducible refine (corporaref37_Valid.calls k a1_0 a1_1 a1_2 a1_3 a1_4 a1_5 t1220 _ A8.out).mono ?_); rintro e w13 ⟨rfl, hb⟩; replace BK1217 := bb BK1217 hb; replace BK1218 := bb BK1218 hb; replace HB := hs HB hb; (try clear hb)))
   go_meet
   case rel => exact ⟨_, (!t1220), sv, H', ⟨by first | omega | exact Nat.le_refl _⟩, ⟨bk⟩, ⟨bk⟩, ⟨bs⟩⟩
  ·replace c7 := Bool.eq_false_iff.mpr c7
   subst c7
   have H1 : (corporaref37_Compare.j0 k true a0_0 a0_1 a0_2 a0_3 a0_4 a0_5 a1_0 a1_1 a1_2 a1_3 a1_4 a1_5) = some r := by rw [if_neg (show ¬ (false = true) by decide)] at H; exact H
   clear H
   have H := H1
   clear H1
   have H' := Aside0.mk H
   clear H
   have hnb14 := NB1217_1218.out
   have hnc14 := NB1218_1217.out
   have hcz15_0 : w5.cell? ⟨gb1217, 0, none⟩ = some (.bool a0_0) := (blk_cell BK1217.out 0).trans rfl
   have hcz15_1 : w5.cell? ⟨gb1217, 1, none⟩ = some (.string a0_1) := (blk_cell BK1217.out 1).trans rfl
   have hcz15_2 : w5.cell? ⟨gb1217, 2, none⟩ = some (.string a0_2) := (blk_cell BK1217.out 2).trans rfl
   have hcz15_3 : w5.cell? ⟨gb1217, 3, none⟩ = some (.bool a0_3) := (blk_cell BK1217.out 3).trans rfl
   have hcz15_4 : w5.cell? ⟨gb1217, 4, none⟩ = some (.string a0_4) := (blk_cell BK1217.out 4).trans rfl
   have hcz15_5 : w5.cell? ⟨gb1217, 5, none⟩ = some (.string a0_5) := (blk_cell BK1217.out 5).trans rfl
   have hfz15_0 := blk_frozen BK1217.out 0
   have hfz15_1 := blk_frozen BK1217.out 1
   have hfz15_2 := blk_frozen BK1217.out 2
   have hfz15_3 := blk_frozen BK1217.out 3
   have hfz15_4 := blk_frozen BK1217.out 4
   have hfz15_5 := blk_frozen BK1217.out 5
   go_wp2_with (first | ((with_reducible refine gate_callee (f := 58) rfl ?_); refine goesL_ (some 6) rfl rfl Try.func58 (by kernel_rfl) rfl #[.agg #[.bool a0_0, .string a0_1, .string a0_2, .bool a0_3, .string a0_4, .string a0_5]] rfl ga ?_; (with_reducible refine (corporaref37_Valid.calls k a0_0 a0_1 a0_2 a0_3 a0_4 a0_5 false _ A6.out).mono ?_); rintro e w16 ⟨rfl, hb⟩; refine ⟨_, rfl, ?_⟩; replace BK1217 := bb BK1217 hb; replace BK1218 := bb BK1218 hb; replace HB := hs HB hb; (try clear hb)))
   go_meet
   case rel => exact ⟨_, (true), sv, H', ⟨by first | omega | exact Nat.le_refl _⟩, ⟨bk⟩, ⟨bk⟩, ⟨bs⟩⟩
 case rest =>
  clear HC3
  try clear c4
  try clear c5
  try clear c7
  try clear hcz10_0
  try clear hcz10_1
  try clear hcz10_2
  try clear hcz10_3
  try clear hcz10_4
  try clear hcz10_5
  try clear hcz12_0
  try clear hcz12_1
  try clear hcz12_2
  try clear hcz12_3
  try clear hcz12_4
  try clear hcz12_5
  try clear hcz15_0
  try clear hcz15_1
  try clear hcz15_2
  try clear hcz15_3
  try clear hcz15_4
  try clear hcz15_5
  try clear hfz10_0
  try clear hfz10_1
  try clear hfz10_2
  try clear hfz10_3
  try clear hfz10_4
  try clear hfz10_5
  try clear hfz12_0
  try clear hfz12_1
  try clear hfz12_2
  try clear hfz12_3
  try clear hfz12_4
  try clear hfz12_5
  try clear hfz15_0
  try clear hfz15_1
  try clear hfz15_2
  try clear hfz15_3
  try clear hfz15_4
  try clear hfz15_5
  obtain ⟨kq, x12_2, rfl, HA, HJ2, BK1217, BK1218, HB⟩ := hcut
  cases kq with
  | zero => exact absurd HA.out (by simp [corporaref37_Compare.j0])
  | succ kj2 =>
   have H := HA.out
   clear HA
   simp only [corporaref37_Compare.j0] at H
   by_cases c17 : x12_2 = true
   ·subst c17
    have H1 : (some 0) = some r := by rw [if_pos rfl] at H; exact H
    clear H
    have H := H1
    clear H1
    obtain rfl := Option.some.inj H
    go_wp2
    go_ret
    exact ⟨er, bs⟩
   ·replace c17 := Bool.eq_false_iff.mpr c17
    subst c17
    have H1 : Option.bind (corporaref36_Compare.f kj2 a0_3 a0_4 a0_5 a1_0 a1_1 a1_2) _ = _ := (if_neg (show ¬ (false = true) by decide)).symm.trans H
    clear H
    have H := H1
    clear H1
    replace H := Option.bind_eq_some_iff.mp H
    obtain ⟨t1221, A180, H⟩ := H
    replace H : (if t1221 < 0 then _ else _) = _ := H
    have A18 := Aside0.mk A180
    clear A180
    by_cases c19 : t1221 < 0
    ·rw [if_pos c19] at H
     have c19b0 : decide (t1221 < 0) = true := decide_eq_true c19
     clear c19
     obtain rfl := Option.some.inj H
     have hnb20 := NB1217_1218.out
     have hnc20 := NB1218_1217.out
     have hcz21_0 : wc.cell? ⟨gb1217, 0, none⟩ = some (.bool a0_0) := (blk_cell BK1217.out 0).trans rfl
     have hcz21_1 : wc.cell? ⟨gb1217, 1, none⟩ = some (.string a0_1) := (blk_cell BK1217.out 1).trans rfl
     have hcz21_2 : wc.cell? ⟨gb1217, 2, none⟩ = some (.string a0_2) := (blk_cell BK1217.out 2).trans rfl
     have hcz21_3 : wc.cell? ⟨gb1217, 3, none⟩ = some (.bool a0_3) := (blk_cell BK1217.out 3).trans rfl
     have hcz21_4 : wc.cell? ⟨gb1217, 4, none⟩ = some (.string a0_4) := (blk_cell BK1217.out 4).trans rfl
     have hcz21_5 : wc.cell? ⟨gb1217, 5, none⟩ = some (.string a0_5) := (blk_cell BK1217.out 5).trans rfl
     have hfz21_0 := blk_frozen BK1217.out 0
     have hfz21_1 := blk_frozen BK1217.out 1
     have hfz21_2 := blk_frozen BK1217.out 2
     have hfz21_3 := blk_frozen BK1217.out 3
     have hfz21_4 := blk_frozen BK1217.out 4
     have hfz21_5 := blk_frozen BK1217.out 5
     have hcz22_0 : wc.cell? ⟨gb1218, 0, none⟩ = some (.bool a1_0) := (blk_cell BK1218.out 0).trans rfl
     have hcz22_1 : wc.cell? ⟨gb1218, 1, none⟩ = some (.string a1_1) := (blk_cell BK1218.out 1).trans rfl
     have hcz22_2 : wc.cell? ⟨gb1218, 2, none⟩ = some (.string a1_2) := (blk_cell BK1218.out 2).trans rfl
     have hcz22_3 : wc.cell? ⟨gb1218, 3, none⟩ = some (.bool a1_3) := (blk_cell BK1218.out 3).trans rfl
     have hcz22_4 : wc.cell? ⟨gb1218, 4, none⟩ = some (.string a1_4) := (blk_cell BK1218.out 4).trans rfl
     have hcz22_5 : wc.cell? ⟨gb1218, 5, none⟩ = some (.string a1_5) := (blk_cell BK1218.out 5).trans rfl
     have hfz22_0 := blk_frozen BK1218.out 0
     have hfz22_1 := blk_frozen BK1218.out 1
     have hfz22_2 := blk_frozen BK1218.out 2
     have hfz22_3 := blk_frozen BK1218.out 3
     have hfz22_4 := blk_frozen BK1218.out 4
     have hfz22_5 := blk_frozen BK1218.out 5
     go_wp2_with (first | ((with_reducible refine gate_callee (f := 70) rfl ?_); refine goesL_ (some 17) rfl rfl Try.func70 (by kernel_rfl) rfl #[.agg #[.bool a0_3, .string a0_4, .string a0_5], .agg #[.bool a1_0, .string a1_1, .string a1_2]] rfl ga ?_; (with_reducible refine (corporaref36_Compare.calls kj2 a0_3 a0_4 a0_5 a1_0 a1_1 a1_2 t1221 _ A18.out).mono ?_); rintro e w23 ⟨rfl, hb⟩; refine ⟨_, rfl, ?_⟩; replace BK1217 := bb BK1217 hb; replace BK1218 := bb BK1218 hb; replace HB := hs HB hb; (try clear hb)))
     go_ret
     exact ⟨er, bs⟩
    ·rw [if_neg c19] at H
     have c19b0 : decide (t1221 < 0) = false := decide_eq_false c19
     clear c19
     replace H := Option.bind_eq_some_iff.mp H
     obtain ⟨t1222, A240, H⟩ := H
     replace H : (if t1222 < 0 then (some 1) else (some 0)) = some r := H
     have A24 := Aside0.mk A240
     clear A240
     by_cases c25 : t1222 < 0
     ·rw [if_pos c25] at H
      have c25b0 : decide (t1222 < 0) = true := decide_eq_true c25
      clear c25
      obtain rfl := Option.some.inj H
      have hnb26 := NB1217_1218.out
      have hnc26 := NB1218_1217.out
      have hcz27_0 : wc.cell? ⟨gb1217, 0, none⟩ = some (.bool a0_0) := (blk_cell BK1217.out 0).trans rfl
      have hcz27_1 : wc.cell? ⟨gb1217, 1, none⟩ = some (.string a0_1) := (blk_cell BK1217.out 1).trans rfl
      have hcz27_2 : wc.cell? ⟨gb1217, 2, none⟩ = some (.string a0_2) := (blk_cell BK1217.out 2).trans rfl
      have hcz27_3 : wc.cell? ⟨gb1217, 3, none⟩ = some (.bool a0_3) := (blk_cell BK1217.out 3).trans rfl
      have hcz27_4 : wc.cell? ⟨gb1217, 4, none⟩ = some (.string a0_4) := (blk_cell BK1217.out 4).trans rfl
      have hcz27_5 : wc.cell? ⟨gb1217, 5, none⟩ = some (.string a0_5) := (blk_cell BK1217.out 5).trans rfl
      have hfz27_0 := blk_frozen BK1217.out 0
      have hfz27_1 := blk_frozen BK1217.out 1
      have hfz27_2 := blk_frozen BK1217.out 2
      have hfz27_3 := blk_frozen BK1217.out 3
      have hfz27_4 := blk_frozen BK1217.out 4
      have hfz27_5 := blk_frozen BK1217.out 5
      have hcz28_0 : wc.cell? ⟨gb1218, 0, none⟩ = some (.bool a1_0) := (blk_cell BK1218.out 0).trans rfl
      have hcz28_1 : wc.cell? ⟨gb1218, 1, none⟩ = some (.string a1_1) := (blk_cell BK1218.out 1).trans rfl
      have hcz28_2 : wc.cell? ⟨gb1218, 2, none⟩ = some (.string a1_2) := (blk_cell BK1218.out 2).trans rfl
      have hcz28_3 : wc.cell? ⟨gb1218, 3, none⟩ = some (.bool a1_3) := (blk_cell BK1218.out 3).trans rfl
      have hcz28_4 : wc.cell? ⟨gb1218, 4, none⟩ = some (.string a1_4) := (blk_cell BK1218.out 4).trans rfl
      have hcz28_5 : wc.cell? ⟨gb1218, 5, none⟩ = some (.string a1_5) := (blk_cell BK1218.out 5).trans rfl
      have hfz28_0 := blk_frozen BK1218.out 0
      have hfz28_1 := blk_frozen BK1218.out 1
      have hfz28_2 := blk_frozen BK1218.out 2
      have hfz28_3 := blk_frozen BK1218.out 3
      have hfz28_4 := blk_frozen BK1218.out 4
      have hfz28_5 := blk_frozen BK1218.out 5
      go_wp2_with (first | ((with_reducible refine gate_callee (f := 70) rfl ?_); refine goesL_ (some 17) rfl rfl Try.func70 (by kernel_rfl) rfl #[.agg #[.bool a0_3, .string a0_4, .string a0_5], .agg #[.bool a1_0, .string a1_1, .string a1_2]] rfl ga ?_; (with_reducible refine (corporaref36_Compare.calls kj2 a0_3 a0_4 a0_5 a1_0 a1_1 a1_2 t1221 _ A18.out).mono ?_); rintro e w29 ⟨rfl, hb⟩; refine ⟨_, rfl, ?_⟩; replace BK1217 := bb BK1217 hb; replace BK1218 := bb BK1218 hb; replace HB := hs HB hb; (try clear hb); have hcz30_0 : w29.cell? ⟨gb1218, 0, none⟩ = some (.bool a1_0) := (blk_cell BK1218.out 0).trans rfl; have hcz30_1 : w29.cell? ⟨gb1218, 1, none⟩ = some (.string a1_1) := (blk_cell BK1218.out 1).trans rfl; have hcz30_2 : w29.cell? ⟨gb1218, 2, none⟩ = some (.string a1_2) := (blk_cell BK1218.out 2).trans rfl; have hcz30_3 : w29.cell? ⟨gb1218, 3, none⟩ = some (.bool a1_3) := (blk_cell BK1218.out 3).trans rfl; have hcz30_4 : w29.cell? ⟨gb1218, 4, none⟩ = some (.string a1_4) := (blk_cell BK1218.out 4).trans rfl; have hcz30_5 : w29.cell? ⟨gb1218, 5, none⟩ = some (.string a1_5) := (blk_cell BK1218.out 5).trans rfl; have hfz30_0 := blk_frozen BK1218.out 0; have hfz30_1 := blk_frozen BK1218.out 1; have hfz30_2 := blk_frozen BK1218.out 2; have hfz30_3 := blk_frozen BK1218.out 3; have hfz30_4 := blk_frozen BK1218.out 4; have hfz30_5 := blk_frozen BK1218.out 5; have hcz31_0 : w29.cell? ⟨gb1217, 0, none⟩ = some (.bool a0_0) := (blk_cell BK1217.out 0).trans rfl; have hcz31_1 : w29.cell? ⟨gb1217, 1, none⟩ = some (.string a0_1) := (blk_cell BK1217.out 1).trans rfl; have hcz31_2 : w29.cell? ⟨gb1217, 2, none⟩ = some (.string a0_2) := (blk_cell BK1217.out 2).trans rfl; have hcz31_3 : w29.cell? ⟨gb1217, 3, none⟩ = some (.bool a0_3) := (blk_cell BK1217.out 3).trans rfl; have hcz31_4 : w29.cell? ⟨gb1217, 4, none⟩ = some (.string a0_4) := (blk_cell BK1217.out 4).trans rfl; have hcz31_5 : w29.cell? ⟨gb1217, 5, none⟩ = some (.string a0_5) := (blk_cell BK1217.out 5).trans rfl; have hfz31_0 := blk_frozen BK1217.out 0; have hfz31_1 := blk_frozen BK1217.out 1; have hfz31_2 := blk_frozen BK1217.out 2; have hfz31_3 := blk_frozen BK1217.out 3; have hfz31_4 := blk_frozen BK1217.out 4; have hfz31_5 := blk_frozen BK1217.out 5) | ((with_reducible refine gate_callee (f := 70) rfl ?_); refine goesL_ (some 23) rfl rfl Try.func70 (by kernel_rfl) rfl #[.agg #[.bool a1_3, .string a1_4, .string a1_5], .agg #[.bool a0_0, .string a0_1, .string a0_2]] rfl ga ?_; (with_reducible refine (corporaref36_Compare.calls kj2 a1_3 a1_4 a1_5 a0_0 a0_1 a0_2 t1222 _ A24.out).mono ?_); rintro e w32 ⟨rfl, hb⟩; refine ⟨_, rfl, ?_⟩; replace BK1217 := bb BK1217 hb; replace BK1218 := bb BK1218 hb; replace HB := hs HB hb; (try clear hb)))
      go_ret
      exact ⟨er, bs⟩
     ·rw [if_neg c25] at H
      have c25b0 : decide (t1222 < 0) = false := decide_eq_false c25
      clear c25
      obtain rfl := Option.some.inj H
      have hnb33 := NB1217_1218.out
      have hnc33 := NB1218_1217.out
      have hcz34_0 : wc.cell? ⟨gb1217, 0, none⟩ = some (.bool a0_0) := (blk_cell BK1217.out 0).trans rfl
      have hcz34_1 : wc.cell? ⟨gb1217, 1, none⟩ = some (.string a0_1) := (blk_cell BK1217.out 1).trans rfl
      have hcz34_2 : wc.cell? ⟨gb1217, 2, none⟩ = some (.string a0_2) := (blk_cell BK1217.out 2).trans rfl
      have hcz34_3 : wc.cell? ⟨gb1217, 3, none⟩ = some (.bool a0_3) := (blk_cell BK1217.out 3).trans rfl
      have hcz34_4 : wc.cell? ⟨gb1217, 4, none⟩ = some (.string a0_4) := (blk_cell BK1217.out 4).trans rfl
      have hcz34_5 : wc.cell? ⟨gb1217, 5, none⟩ = some (.string a0_5) := (blk_cell BK1217.out 5).trans rfl
      have hfz34_0 := blk_frozen BK1217.out 0
      have hfz34_1 := blk_frozen BK1217.out 1
      have hfz34_2 := blk_frozen BK1217.out 2
      have hfz34_3 := blk_frozen BK1217.out 3
      have hfz34_4 := blk_frozen BK1217.out 4
      have hfz34_5 := blk_frozen BK1217.out 5
      have hcz35_0 : wc.cell? ⟨gb1218, 0, none⟩ = some (.bool a1_0) := (blk_cell BK1218.out 0).trans rfl
      have hcz35_1 : wc.cell? ⟨gb1218, 1, none⟩ = some (.string a1_1) := (blk_cell BK1218.out 1).trans rfl
      have hcz35_2 : wc.cell? ⟨gb1218, 2, none⟩ = some (.string a1_2) := (blk_cell BK1218.out 2).trans rfl
      have hcz35_3 : wc.cell? ⟨gb1218, 3, none⟩ = some (.bool a1_3) := (blk_cell BK1218.out 3).trans rfl
      have hcz35_4 : wc.cell? ⟨gb1218, 4, none⟩ = some (.string a1_4) := (blk_cell BK1218.out 4).trans rfl
      have hcz35_5 : wc.cell? ⟨gb1218, 5, none⟩ = some (.string a1_5) := (blk_cell BK1218.out 5).trans rfl
      have hfz35_0 := blk_frozen BK1218.out 0
      have hfz35_1 := blk_frozen BK1218.out 1
      have hfz35_2 := blk_frozen BK1218.out 2
      have hfz35_3 := blk_frozen BK1218.out 3
      have hfz35_4 := blk_frozen BK1218.out 4
      have hfz35_5 := blk_frozen BK1218.out 5
      go_wp2_with (first | ((with_reducible refine gate_callee (f := 70) rfl ?_); refine goesL_ (some 17) rfl rfl Try.func70 (by kernel_rfl) rfl #[.agg #[.bool a0_3, .string a0_4, .string a0_5], .agg #[.bool a1_0, .string a1_1, .string a1_2]] rfl ga ?_; (with_reducible refine (corporaref36_Compare.calls kj2 a0_3 a0_4 a0_5 a1_0 a1_1 a1_2 t1221 _ A18.out).mono ?_); rintro e w36 ⟨rfl, hb⟩; refine ⟨_, rfl, ?_⟩; replace BK1217 := bb BK1217 hb; replace BK1218 := bb BK1218 hb; replace HB := hs HB hb; (try clear hb); have hcz37_0 : w36.cell? ⟨gb1218, 0, none⟩ = some (.bool a1_0) := (blk_cell BK1218.out 0).trans rfl; have hcz37_1 : w36.cell? ⟨gb1218, 1, none⟩ = some (.string a1_1) := (blk_cell BK1218.out 1).trans rfl; have hcz37_2 : w36.cell? ⟨gb1218, 2, none⟩ = some (.string a1_2) := (blk_cell BK1218.out 2).trans rfl; have hcz37_3 : w36.cell? ⟨gb1218, 3, none⟩ = some (.bool a1_3) := (blk_cell BK1218.out 3).trans rfl; have hcz37_4 : w36.cell? ⟨gb1218, 4, none⟩ = some (.string a1_4) := (blk_cell BK1218.out 4).trans rfl; have hcz37_5 : w36.cell? ⟨gb1218, 5, none⟩ = some (.string a1_5) := (blk_cell BK1218.out 5).trans rfl; have hfz37_0 := blk_frozen BK1218.out 0; have hfz37_1 := blk_frozen BK1218.out 1; have hfz37_2 := blk_frozen BK1218.out 2; have hfz37_3 := blk_frozen BK1218.out 3; have hfz37_4 := blk_frozen BK1218.out 4; have hfz37_5 := blk_frozen BK1218.out 5; have hcz38_0 : w36.cell? ⟨gb1217, 0, none⟩ = some (.bool a0_0) := (blk_cell BK1217.out 0).trans rfl; have hcz38_1 : w36.cell? ⟨gb1217, 1, none⟩ = some (.string a0_1) := (blk_cell BK1217.out 1).trans rfl; have hcz38_2 : w36.cell? ⟨gb1217, 2, none⟩ = some (.string a0_2) := (blk_cell BK1217.out 2).trans rfl; have hcz38_3 : w36.cell? ⟨gb1217, 3, none⟩ = some (.bool a0_3) := (blk_cell BK1217.out 3).trans rfl; have hcz38_4 : w36.cell? ⟨gb1217, 4, none⟩ = some (.string a0_4) := (blk_cell BK1217.out 4).trans rfl; have hcz38_5 : w36.cell? ⟨gb1217, 5, none⟩ = some (.string a0_5) := (blk_cell BK1217.out 5).trans rfl; have hfz38_0 := blk_frozen BK1217.out 0; have hfz38_1 := blk_frozen BK1217.out 1; have hfz38_2 := blk_frozen BK1217.out 2; have hfz38_3 := blk_frozen BK1217.out 3; have hfz38_4 := blk_frozen BK1217.out 4; have hfz38_5 := blk_frozen BK1217.out 5) | ((with_reducible refine gate_callee (f := 70) rfl ?_); refine goesL_ (some 23) rfl rfl Try.func70 (by kernel_rfl) rfl #[.agg #[.bool a1_3, .string a1_4, .string a1_5], .agg #[.bool a0_0, .string a0_1, .string a0_2]] rfl ga ?_; (with_reducible refine (corporaref36_Compare.calls kj2 a1_3 a1_4 a1_5 a0_0 a0_1 a0_2 t1222 _ A24.out).mono ?_); rintro e w39 ⟨rfl, hb⟩; refine ⟨_, rfl, ?_⟩; replace BK1217 := bb BK1217 hb; replace BK1218 := bb BK1218 hb; replace HB := hs HB hb; (try clear hb)))
      go_ret
      exact ⟨er, bs⟩
end Go.Proofs.Ytccgfmjcldifcaa.P
