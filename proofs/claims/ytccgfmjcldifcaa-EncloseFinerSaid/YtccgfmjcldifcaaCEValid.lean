/- What each Go function computes, as plain Lean functions, and the walks that show it; each theorem's conditions stand in it. -/
import Derived.Test.YtccgfmjcldifcaaT
import Derived.Test.YtccgfmjcldifcaaCIsRatio
import Derived.Test.YtccgfmjcldifcaaCRaCmp
import Derived.Test.YtccgfmjcldifcaaDE
namespace Go.Proofs.Ytccgfmjcldifcaa.P
open Go.RowKit Go.Proofs.YtccgfmjcldifcaaW.PrintWords Go.Proofs.YtccgfmjcldifcaaW.PrintLast Go.Proofs.YtccgfmjcldifcaaW.PrintMore
attribute [local go_sem] max2_int min2_int max_two min_two max_three min_three max_four min_four   -- for this text's walks alone
set_option linter.unusedVariables false
set_option linter.unusedSimpArgs false
set_option maxHeartbeats 8000000 in
set_option maxRecDepth 100000 in
theorem enclose_Valid.calls (k : Nat) (a0_0 : Bool) (a0_1 : ByteArray) (a0_2 : ByteArray) (a0_3 : Bool) (a0_4 : ByteArray) (a0_5 : ByteArray) (r : Bool) (w : World) (h : enclose_Valid.f k a0_0 a0_1 a0_2 a0_3 a0_4 a0_5 = some r) :
  Calls Try.prog 50 #[.agg #[.bool a0_0, .string a0_1, .string a0_2, .bool a0_3, .string a0_4, .string a0_5]] w fun e w' => e = .returned (.bool r) ∧ Below w.heap.size w w' := by
 have hu44 := Try.underlying44
 have hu35 := Try.underlying35
 have HB := Aside0.mk (Below.refl w.heap.size w)
 have H : Option.bind (ratio_IsRatio.f k a0_0 a0_1 a0_2) _ = _ := h
 clear h
 replace H := Option.bind_eq_some_iff.mp H
 obtain ⟨t1204, A20, H⟩ := H
 replace H : (if t1204 = true then _ else _) = _ := H
 have A2 := Aside0.mk A20
 clear A20
 by_cases c3 : t1204 = true
 ·subst c3
  have H1 : Option.bind (ratio_IsRatio.f k a0_3 a0_4 a0_5) _ = _ := (if_pos rfl).symm.trans H
  clear H
  have H := H1
  clear H1
  replace H := Option.bind_eq_some_iff.mp H
  obtain ⟨t1205, A40, H⟩ := H
  replace H : (if t1205 = true then _ else _) = _ := H
  have A4 := Aside0.mk A40
  clear A40
  by_cases c5 : t1205 = true
  ·subst c5
   have H1 : ((ratio_Compare.f k a0_0 a0_1 a0_2 a0_3 a0_4 a0_5).bind fun t1206 => (some (decide (t1206 ≤ 0)))) = some r := by rw [if_pos rfl] at H; exact H
   clear H
   have H := H1
   clear H1
   replace H := Option.bind_eq_some_iff.mp H
   obtain ⟨t1206, A60, H⟩ := H
   replace H : (some (decide (t1206 ≤ 0))) = some r := H
   have A6 := Aside0.mk A60
   clear A60
   obtain rfl := Option.some.inj H
   go_enter Try.func50, Try.ntmps50
   go_wp2_with (first | ((with_reducible refine gate_dst (N := 1) rfl ?_); refine be (N := 1) (cs := #[.bool a0_0, .string a0_1, .string a0_2, .bool a0_3, .string a0_4, .string a0_5]) (t := 44) ?_; intro gb1203 hg w7 hbox hb; have BK1203 := Aside0.mk (hbox); have GW1203 := gw HB hg; have GE1203 := GW1203; replace HB := hs HB hb; clear hb hbox hg; have hcz8_0 : w7.cell? ⟨gb1203, 0, none⟩ = some (.bool a0_0) := (blk_cell BK1203.out 0).trans rfl; have hcz8_1 : w7.cell? ⟨gb1203, 1, none⟩ = some (.string a0_1) := (blk_cell BK1203.out 1).trans rfl; have hcz8_2 : w7.cell? ⟨gb1203, 2, none⟩ = some (.string a0_2) := (blk_cell BK1203.out 2).trans rfl; have hcz8_3 : w7.cell? ⟨gb1203, 3, none⟩ = some (.bool a0_3) := (blk_cell BK1203.out 3).trans rfl; have hcz8_4 : w7.cell? ⟨gb1203, 4, none⟩ = some (.string a0_4) := (blk_cell BK1203.out 4).trans rfl; have hcz8_5 : w7.cell? ⟨gb1203, 5, none⟩ = some (.string a0_5) := (blk_cell BK1203.out 5).trans rfl; have hfz8_0 := blk_frozen BK1203.out 0; have hfz8_1 := blk_frozen BK1203.out 1; have hfz8_2 := blk_frozen BK1203.out 2; have hfz8_3 := blk_frozen BK1203.out 3; have hfz8_4 := blk_frozen BK1203.out 4; have hfz8_5 := blk_frozen BK1203.out 5) | ((with_reducible refine gate_callee (f := 44) rfl ?_); refine goesL_ (some 5) rfl rfl Try.func44 (by kernel_rfl) rfl #[.agg #[.bool a0_0, .string a0_1, .string a0_2]] rfl ga ?_; (with_reducible refine (ratio_IsRatio.calls k a0_0 a0_1 a0_2 true _ A2.out).mono ?_); rintro e w9 ⟨rfl, hb⟩; refine ⟨_, rfl, ?_⟩; replace BK1203 := bb BK1203 hb; replace HB := hs HB hb; (try clear hb); have hcz10_0 : w9.cell? ⟨gb1203, 0, none⟩ = some (.bool a0_0) := (blk_cell BK1203.out 0).trans rfl; have hcz10_1 : w9.cell? ⟨gb1203, 1, none⟩ = some (.string a0_1) := (blk_cell BK1203.out 1).trans rfl; have hcz10_2 : w9.cell? ⟨gb1203, 2, none⟩ = some (.string a0_2) := (blk_cell BK1203.out 2).trans rfl; have hcz10_3 : w9.cell? ⟨gb1203, 3, none⟩ = some (.bool a0_3) := (blk_cell BK1203.out 3).trans rfl; have hcz10_4 : w9.cell? ⟨gb1203, 4, none⟩ = some (.string a0_4) := (blk_cell BK1203.out 4).trans rfl; have hcz10_5 : w9.cell? ⟨gb1203, 5, none⟩ = some (.string a0_5) := (blk_cell BK1203.out 5).trans rfl; have hfz10_0 := blk_frozen BK1203.out 0; have hfz10_1 := blk_frozen BK1203.out 1; have hfz10_2 := blk_frozen BK1203.out 2; have hfz10_3 := blk_frozen BK1203.out 3; have hfz10_4 := blk_frozen BK1203.out 4; have hfz10_5 := blk_frozen BK1203.out 5) | (go_at_call 44; (with_reducible refine (ratio_IsRatio.calls k a0_3 a0_4 a0_5 true _ A4.out).mono ?_); rintro e w11 ⟨rfl, hb⟩; replace BK1203 := bb BK1203 hb; replace HB := hs HB hb; (try clear hb); have hcz12_0 : w11.cell? ⟨gb1203, 0, none⟩ = some (.bool a0_0) := (blk_cell BK1203.out 0).trans rfl; have hcz12_1 : w11.cell? ⟨gb1203, 1, none⟩ = some (.string a0_1) := (blk_cell BK1203.out 1).trans rfl; have hcz12_2 : w11.cell? ⟨gb1203, 2, none⟩ = some (.string a0_2) := (blk_cell BK1203.out 2).trans rfl; have hcz12_3 : w11.cell? ⟨gb1203, 3, none⟩ = some (.bool a0_3) := (blk_cell BK1203.out 3).trans rfl; have hcz12_4 : w11.cell? ⟨gb1203, 4, none⟩ = some (.string a0_4) := (blk_cell BK1203.out 4).trans rfl; have hcz12_5 : w11.cell? ⟨gb1203, 5, none⟩ = some (.string a0_5) := (blk_cell BK1203.out 5).trans rfl; have hfz12_0 := blk_frozen BK1203.out 0; have hfz12_1 := blk_frozen BK1203.out 1; have hfz12_2 := blk_frozen BK1203.out 2; have hfz12_3 := blk_frozen BK1203.out 3; have hfz12_4 := blk_frozen BK1203.out 4; have hfz12_5 := blk_frozen BK1203.out 5) | (go_at_call 47; (with_reducible refine (ratio_Compare.calls k a0_0 a0_1 a0_2 a0_3 a0_4 a0_5 t1206 _ A6.out).mono ?_); rintro e w13 ⟨rfl, hb⟩; replace BK1203 := bb BK1203 hb; replace HB := hs HB hb; (try clear hb)))
   go_ret
   exact ⟨by first | rfl | (simp [errW_none, errW_some] <;> rfl) | (simp [*, errW_none, errW_some] <;> rfl), bs⟩
  ·replace c5 := Bool.eq_false_iff.mpr c5
   subst c5
   have H1 : (some false) = some r := by rw [if_neg (show ¬ (false = true) by decide)] at H; exact H
   clear H
   have H := H1
   clear H1
   obtain rfl := Option.some.inj H
   go_enter Try.func50, Try.ntmps50
   go_wp2_with (first | ((with_reducible refine gate_dst (N := 1) rfl ?_); refine be (N := 1) (cs := #[.bool a0_0, .string a0_1, .string a0_2, .bool a0_3, .string a0_4, .string a0_5]) (t := 44) ?_; intro gb1203 hg w14 hbox hb; have BK1203 := Aside0.mk (hbox); have GW1203 := gw HB hg; have GE1203 := GW1203; replace HB := hs HB hb; clear hb hbox hg; have hcz15_0 : w14.cell? ⟨gb1203, 0, none⟩ = some (.bool a0_0) := (blk_cell BK1203.out 0).trans rfl; have hcz15_1 : w14.cell? ⟨gb1203, 1, none⟩ = some (.string a0_1) := (blk_cell BK1203.out 1).trans rfl; have hcz15_2 : w14.cell? ⟨gb1203, 2, none⟩ = some (.string a0_2) := (blk_cell BK1203.out 2).trans rfl; have hcz15_3 : w14.cell? ⟨gb1203, 3, none⟩ = some (.bool a0_3) := (blk_cell BK1203.out 3).trans rfl; have hcz15_4 : w14.cell? ⟨gb1203, 4, none⟩ = some (.string a0_4) := (blk_cell BK1203.out 4).trans rfl; have hcz15_5 : w14.cell? ⟨gb1203, 5, none⟩ = some (.string a0_5) := (blk_cell BK1203.out 5).trans rfl; have hfz15_0 := blk_frozen BK1203.out 0; have hfz15_1 := blk_frozen BK1203.out 1; have hfz15_2 := blk_frozen BK1203.out 2; have hfz15_3 := blk_frozen BK1203.out 3; have hfz15_4 := blk_frozen BK1203.out 4; have hfz15_5 := blk_frozen BK1203.out 5) | ((with_reducible refine gate_callee (f := 44) rfl ?_); refine goesL_ (some 5) rfl rfl Try.func44 (by kernel_rfl) rfl #[.agg #[.bool a0_0, .string a0_1, .string a0_2]] rfl ga ?_; (with_reducible refine (ratio_IsRatio.calls k a0_0 a0_1 a0_2 true _ A2.out).mono ?_); rintro e w16 ⟨rfl, hb⟩; refine ⟨_, rfl, ?_⟩; replace BK1203 := bb BK1203 hb; replace HB := hs HB hb; (try clear hb); have hcz17_0 : w16.cell? ⟨gb1203, 0, none⟩ = some (.bool a0_0) := (blk_cell BK1203.out 0).trans rfl; have hcz17_1 : w16.cell? ⟨gb1203, 1, none⟩ = some (.string a0_1) := (blk_cell BK1203.out 1).trans rfl; have hcz17_2 : w16.cell? ⟨gb1203, 2, none⟩ = some (.string a0_2) := (blk_cell BK1203.out 2).trans rfl; have hcz17_3 : w16.cell? ⟨gb1203, 3, none⟩ = some (.bool a0_3) := (blk_cell BK1203.out 3).trans rfl; have hcz17_4 : w16.cell? ⟨gb1203, 4, none⟩ = some (.string a0_4) := (blk_cell BK1203.out 4).trans rfl; have hcz17_5 : w16.cell? ⟨gb1203, 5, none⟩ = some (.string a0_5) := (blk_cell BK1203.out 5).trans rfl; have hfz17_0 := blk_frozen BK1203.out 0; have hfz17_1 := blk_frozen BK1203.out 1; have hfz17_2 := blk_frozen BK1203.out 2; have hfz17_3 := blk_frozen BK1203.out 3; have hfz17_4 := blk_frozen BK1203.out 4; have hfz17_5 := blk_frozen BK1203.out 5) | (go_at_call 44; (with_reducible refine (ratio_IsRatio.calls k a0_3 a0_4 a0_5 false _ A4.out).mono ?_); rintro e w18 ⟨rfl, hb⟩; replace BK1203 := bb BK1203 hb; replace HB := hs HB hb; (try clear hb)))
   go_ret
   exact ⟨by first | rfl | (simp [errW_none, errW_some] <;> rfl) | (simp [*, errW_none, errW_some] <;> rfl), bs⟩
 ·replace c3 := Bool.eq_false_iff.mpr c3
  subst c3
  have H1 : (some false) = some r := by rw [if_neg (show ¬ (false = true) by decide)] at H; exact H
  clear H
  have H := H1
  clear H1
  obtain rfl := Option.some.inj H
  go_enter Try.func50, Try.ntmps50
  go_wp2_with (first | ((with_reducible refine gate_dst (N := 1) rfl ?_); refine be (N := 1) (cs := #[.bool a0_0, .string a0_1, .string a0_2, .bool a0_3, .string a0_4, .string a0_5]) (t := 44) ?_; intro gb1203 hg w19 hbox hb; have BK1203 := Aside0.mk (hbox); have GW1203 := gw HB hg; have GE1203 := GW1203; replace HB := hs HB hb; clear hb hbox hg; have hcz20_0 : w19.cell? ⟨gb1203, 0, none⟩ = some (.bool a0_0) := (blk_cell BK1203.out 0).trans rfl; have hcz20_1 : w19.cell? ⟨gb1203, 1, none⟩ = some (.string a0_1) := (blk_cell BK1203.out 1).trans rfl; have hcz20_2 : w19.cell? ⟨gb1203, 2, none⟩ = some (.string a0_2) := (blk_cell BK1203.out 2).trans rfl; have hcz20_3 : w19.cell? ⟨gb1203, 3, none⟩ = some (.bool a0_3) := (blk_cell BK1203.out 3).trans rfl; have hcz20_4 : w19.cell? ⟨gb1203, 4, none⟩ = some (.string a0_4) := (blk_cell BK1203.out 4).trans rfl; have hcz20_5 : w19.cell? ⟨gb1203, 5, none⟩ = some (.string a0_5) := (blk_cell BK1203.out 5).trans rfl; have hfz20_0 := blk_frozen BK1203.out 0; have hfz20_1 := blk_frozen BK1203.out 1; have hfz20_2 := blk_frozen BK1203.out 2; have hfz20_3 := blk_frozen BK1203.out 3; have hfz20_4 := blk_frozen BK1203.out 4; have hfz20_5 := blk_frozen BK1203.out 5) | ((with_reducible refine gate_callee (f := 44) rfl ?_); refine goesL_ (some 5) rfl rfl Try.func44 (by kernel_rfl) rfl #[.agg #[.bool a0_0, .string a0_1, .string a0_2]] rfl ga ?_; (with_reducible refine (ratio_IsRatio.calls k a0_0 a0_1 a0_2 false _ A2.out).mono ?_); rintro e w21 ⟨rfl, hb⟩; refine ⟨_, rfl, ?_⟩; replace BK1203 := bb BK1203 hb; replace HB := hs HB hb; (try clear hb)))
  go_ret
  exact ⟨by first | rfl | (simp [errW_none, errW_some] <;> rfl) | (simp [*, errW_none, errW_some] <;> rfl), bs⟩
end Go.Proofs.Ytccgfmjcldifcaa.P
