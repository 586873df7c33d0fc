/- Walks of Go functions: what they compute; each theorem's conditions stand in it. -/
import Derived.Test.YtccgfmjcldifcaaT
import Derived.Test.YtccgfmjcldifcaaCLog
import Derived.Test.YtccgfmjcldifcaaCMake
import Derived.Test.YtccgfmjcldifcaaDA
import Derived.Test.YtccgfmjcldifcaaDE
namespace Go.Proofs.Ytccgfmjcldifcaa.P
open Go.RowKit Go.Proofs.YtccgfmjcldifcaaW.PrintWords Go.Proofs.YtccgfmjcldifcaaW.PrintLast Go.Proofs.YtccgfmjcldifcaaW.PrintMore
attribute [local go_sem] max2_int min2_int max_two min_two max_three min_three max_four min_four
set_option linter.unusedVariables false
set_option linter.unusedSimpArgs false
set_option maxHeartbeats 8000000 in
set_option maxRecDepth 100000 in
theorem enclose_unit.calls (k : Nat) (a0 : Int) (a1 : Int) (r1 : Bool) (r2 : ByteArray) (r3 : ByteArray) (w : World) (h : enclose_unit.f k a0 a1 = some (r1, r2, r3)) :
  Calls Try.prog 92 #[.int .i64 a0, .int .i64 a1] w fun e w' => e = .returned (.agg #[.bool r1, .string r2, .string r3]) ∧ Below w.heap.size w w' := by
 have hu35 := Try.underlying35
 have HB := Aside0.mk (Below.refl w.heap.size w)
 have H : (if 0 ≤ (IntKind.u64.wrap (a1)) then _ else _) = _ := h
 clear h
 obtain ⟨ji3, hji3⟩ : ∃ j_ : Int, (IntKind.u64.wrap (a1)) = j_ := ⟨_, rfl⟩
 replace H : (if 0 ≤ (ji3) then ((ratio_Make.f k a0 (shl .i64 1 (ji3))).bind fun bt734 => (some (bt734.1, bt734.2.1, bt734.2.2.1))) else (none)) = some (r1, r2, r3) := by first | (rw [hji3] at H; exact H) | (simp only [hji3] at H ⊢; exact H)
 by_cases c4 : 0 ≤ (ji3)
 ·rw [if_pos c4] at H
  have c4b0 := eq_true c4
  have c4b1 : decide (0 ≤ (ji3)) = true := decide_eq_true c4
  clear c4
  obtain ⟨ji5, hji5⟩ : ∃ j_ : Int, (shl .i64 1 (ji3)) = j_ := ⟨_, rfl⟩
  replace H : ((ratio_Make.f k a0 (ji5)).bind fun bt734 => (some (bt734.1, bt734.2.1, bt734.2.2.1))) = some (r1, r2, r3) := by first | (rw [hji5] at H; exact H) | (simp only [hji5] at H ⊢; exact H)
  have hji5_ : (IntKind.i64.wrap (1 * 2 ^ min (ji3).toNat 64)) = ji5 := hji5
  have hji5z : (ji3) ≤ 64 → (IntKind.i64.wrap (1 * 2 ^ (ji3).toNat)) = ji5 := shl_small hji5
  have hji5u : (IntKind.i64.wrap (2 ^ min (ji3).toNat 64)) = ji5 := by have h_ := hji5_; rw [Int.one_mul] at h_; exact h_
  have hji5v : (ji3) ≤ 64 → (IntKind.i64.wrap (2 ^ (ji3).toNat)) = ji5 := fun hle_ => by have h_ := hji5z hle_; rw [Int.one_mul] at h_; exact h_
  have hji5y : (wrap64 (1 * 2 ^ min (ji3).toNat 64)) = ji5 := (i64_w _).symm.trans hji5_
  have hji5x : (ji3) ≤ 64 → (wrap64 (1 * 2 ^ (ji3).toNat)) = ji5 := fun h_ => (i64_w _).symm.trans (hji5z h_)
  replace H := Option.bind_eq_some_iff.mp H
  obtain ⟨⟨t734, t735, t736, t737⟩, A60, H⟩ := H
  replace H : (some (t734, t735, t736)) = some (r1, r2, r3) := H
  have A6 := Aside0.mk A60
  clear A60
  simp only [Option.some.injEq, Prod.mk.injEq] at H
  obtain ⟨rfl, rfl, rfl⟩ := H
  go_enter Try.func92, Try.ntmps92
  go_wp2_with (first | ((with_reducible refine gate_dst (N := 4) rfl ?_); refine be (N := 4) (cs := #[.bool false, .string (⟨#[]⟩ : ByteArray), .string (⟨#[]⟩ : ByteArray)]) (t := 35) ?_; intro gb733 hg w7 hbox hb; have BK733 := Aside0.mk (hbox); have GW733 := gw HB hg; have GE733 := GW733; replace HB := hs HB hb; clear hb hbox hg) | ((with_reducible refine gate_callee (f := 76) rfl ?_); refine goesL_ (some 12) rfl rfl Try.func76 (by kernel_rfl) rfl #[.int .i64 a0, .int .i64 ji5] rfl (by (try simp only [List.map_toArray, List.map_cons, List.map_nil]); first | done | (simp only [hji5]; rfl) | rfl | (simp only [List.length_drop, List.length_take]; rfl)) ?_; (with_reducible refine (ratio_Make.calls k a0 ji5 t734 t735 t736 t737 _ A6.out).mono ?_); rintro e w8 ⟨rfl, hb⟩; refine ⟨_, rfl, ?_⟩; replace BK733 := bb BK733 hb; replace HB := hs HB hb; (try clear hb)) | ((with_reducible refine gate_dst (N := 5) rfl ?_); refine be (N := 5) (cs := #[.bool false, .string (⟨#[]⟩ : ByteArray), .string (⟨#[]⟩ : ByteArray)]) (t := 35) ?_; intro gb738 hg w9 hbox hb; have BK738 := Aside0.mk (hbox); have GW738 := gw HB hg; have GE738 := GW738; replace HB := hs HB hb; have NB733_738 := na BK733 hg; have NB738_733 := nz NB733_738; replace BK733 := bb BK733 hb; clear hb hbox hg; have hnb10 := NB738_733.out; have hnc10 := NB733_738.out; obtain ⟨hcz11_0, hcz11_1, hcz11_2, hfz11_0, hfz11_1, hfz11_2⟩ := z3 BK738; obtain ⟨hcz12_0, hcz12_1, hcz12_2, hfz12_0, hfz12_1, hfz12_2⟩ := z3 BK733))
  refine bodyPost_ret (results_cell_row rfl _ _ gb733 35 #[.bool t734, .string t735, .string t736] (0, 0) _ rfl bw Try.underlying35 rfl (by kernel_rfl)) rfl ?_
  exact ⟨by first | rfl | (simp [errW_none, errW_some] <;> rfl) | (simp only [← hji3, ← hji5]; first | rfl | (simp [errW_none, errW_some] <;> rfl)) | (simp [*, errW_none, errW_some] <;> rfl), bs⟩
 ·rw [if_neg c4] at H
  exact absurd H (by simp)
set_option maxHeartbeats 8000000 in
set_option maxRecDepth 100000 in
theorem enclose_Bits.calls (k : Nat) (a0_0 : Bool) (a0_1 : ByteArray) (a0_2 : ByteArray) (a1 : Int) (r1 : Bool) (r2 : ByteArray) (r3 : ByteArray) (r4 : Bool) (r5 : ByteArray) (r6 : ByteArray) (r7 : Int) (w : World) (h : enclose_Bits.f k a0_0 a0_1 a0_2 a1 = some (r1, r2, r3, r4, r5, r6, r7)) :
  Calls Try.prog 31 #[.agg #[.bool a0_0, .string a0_1, .string a0_2], .int .i64 a1] w fun e w' => e = .returned (.tuple #[.agg #[.bool r1, .string r2, .string r3, .bool r4, .string r5, .string r6], .int .i64 r7]) ∧ Below w.heap.size w w' := by
 have hu35 := Try.underlying35
 have hu44 := Try.underlying44
 have HB := Aside0.mk (Below.refl w.heap.size w)
 have H : Option.bind (enclose_Log.f k a0_0 a0_1 a0_2 a1) _ = _ := h
 clear h
 replace H := Option.bind_eq_some_iff.mp H
 obtain ⟨⟨t741, t742, t743⟩, A30, H⟩ := H
 replace H : (if t743 = 0 then _ else _) = _ := H
 have A3 := Aside0.mk A30
 clear A30
 by_cases c4 : t743 = 0
 ·rw [if_pos c4] at H
  have c4b0 : (t743 == 0) = true := beq_iff_eq.mpr c4
  have c4b1 : (t743 != 0) = false := bne_eq_false_iff_eq.mpr c4
  clear c4
  by_cases c5 : t742 = true
  ·subst c5
   have H1 : Option.bind (enclose_unit.f k t741 a1) _ = _ := (if_pos rfl).symm.trans H
   clear H
   have H := H1
   clear H1
   replace H := Option.bind_eq_some_iff.mp H
   obtain ⟨⟨t744, t745, t746⟩, A60, H⟩ := H
   replace H : Option.bind (enclose_unit.f k t741 a1) _ = _ := H
   have A6 := Aside0.mk A60
   clear A60
   replace H := Option.bind_eq_some_iff.mp H
   obtain ⟨⟨t747, t748, t749⟩, A70, H⟩ := H
   replace H : (some (t744, t745, t746, t747, t748, t749, 0)) = some (r1, r2, r3, r4, r5, r6, r7) := H
   have A7 := Aside0.mk A70
   clear A70
   simp only [Option.some.injEq, Prod.mk.injEq] at H
   obtain ⟨rfl, rfl, rfl, rfl, rfl, rfl, rfl⟩ := H
   go_enter Try.func31, Try.ntmps31
   go_wp2_with (first | ((with_reducible refine gate_dst (N := 2) rfl ?_); refine be (N := 2) (cs := #[.bool a0_0, .string a0_1, .string a0_2]) (t := 35) ?_; intro gb739 hg w8 hbox hb; have BK739 := Aside0.mk (hbox); have GW739 := gw HB hg; have GE739 := GW739; replace HB := hs HB hb; clear hb hbox hg) | ((with_reducible refine gate_dst (N := 4) rfl ?_); refine be (N := 4) (cs := #[.bool false, .string (⟨#[]⟩ : ByteArray), .string (⟨#[]⟩ : ByteArray), .bool false, .string (⟨#[]⟩ : ByteArray), .string (⟨#[]⟩ : ByteArray)]) (t := 44) ?_; intro gb740 hg w9 hbox hb; have BK740 := Aside0.mk (hbox); have GW740 := gw HB hg; have GE740 := GW740; replace HB := hs HB hb; have NB739_740 := na BK739 hg; have NB740_739 := nz NB739_740; replace BK739 := bb BK739 hb; clear hb hbox hg; have hnb10 := NB739_740.out; have hnc10 := NB740_739.out; obtain ⟨hcz11_0, hcz11_1, hcz11_2, hfz11_0, hfz11_1, hfz11_2⟩ := z3 BK739) | ((with_reducible refine gate_callee (f := 27) rfl ?_); refine goesL_ (some 12) rfl rfl Try.func27 (by kernel_rfl) rfl #[.agg #[.bool a0_0, .string a0_1, .string a0_2], .int .i64 a1] rfl ga ?_; (with_reducible refine (enclose_Log.calls k a0_0 a0_1 a0_2 a1 t741 true t743 _ A3.out).mono ?_); rintro e w12 ⟨rfl, hb⟩; refine ⟨_, rfl, ?_⟩; replace BK739 := bb BK739 hb; replace BK740 := bb BK740 hb; replace HB := hs HB hb; (try clear hb)) | ((with_reducible refine gate_callee (f := 92) rfl ?_); refine goesL_ (some 23) rfl rfl Try.func92 (by kernel_rfl) rfl #[.int .i64 t741, .int .i64 a1] rfl ga ?_; (with_reducible refine (enclose_unit.calls k t741 a1 t744 t745 t746 _ A6.out).mono ?_); rintro e w13 ⟨rfl, hb⟩; refine ⟨_, rfl, ?_⟩; replace BK739 := bb BK739 hb; replace BK740 := bb BK740 hb; replace HB := hs HB hb; (try clear hb)) | ((with_reducible refine gate_callee (f := 92) rfl ?_); refine goesL_ (some 26) rfl rfl Try.func92 (by kernel_rfl) rfl #[.int .i64 t741, .int .i64 a1] rfl ga ?_; (with_reducible refine (enclose_unit.calls k t741 a1 t747 t748 t749 _ A7.out).mono ?_); rintro e w14 ⟨rfl, hb⟩; refine ⟨_, rfl, ?_⟩; replace BK739 := bb BK739 hb; replace BK740 := bb BK740 hb; replace HB := hs HB hb; (try clear hb); have hcz15_0 : w14.cell? ⟨gb740, 0, none⟩ = some (.bool false) := (blk_cell BK740.out 0).trans rfl; have hcz15_1 : w14.cell? ⟨gb740, 1, none⟩ = some (.string (⟨#[]⟩ : ByteArray)) := (blk_cell BK740.out 1).trans rfl; have hcz15_2 : w14.cell? ⟨gb740, 2, none⟩ = some (.string (⟨#[]⟩ : ByteArray)) := (blk_cell BK740.out 2).trans rfl; have hcz15_3 : w14.cell? ⟨gb740, 3, none⟩ = some (.bool false) := (blk_cell BK740.out 3).trans rfl; have hcz15_4 : w14.cell? ⟨gb740, 4, none⟩ = some (.string (⟨#[]⟩ : ByteArray)) := (blk_cell BK740.out 4).trans rfl; have hcz15_5 : w14.cell? ⟨gb740, 5, none⟩ = some (.string (⟨#[]⟩ : ByteArray)) := (blk_cell BK740.out 5).trans rfl; have hfz15_0 := blk_frozen BK740.out 0; have hfz15_1 := blk_frozen BK740.out 1; have hfz15_2 := blk_frozen BK740.out 2; have hfz15_3 := blk_frozen BK740.out 3; have hfz15_4 := blk_frozen BK740.out 4; have hfz15_5 := blk_frozen BK740.out 5))
   refine bodyPost_ret (results_ct rfl _ _ gb740 44 #[.bool t744, .string t745, .string t746, .bool t747, .string t748, .string t749] (0, 0) _ rfl bw Try.underlying44 rfl (by kernel_rfl)) rfl ?_
   exact ⟨er, bs⟩
  ·replace c5 := Bool.eq_false_iff.mpr c5
   subst c5
   have H1 : Option.bind (enclose_unit.f k t741 a1) _ = _ := (if_neg (show ¬ (false = true) by decide)).symm.trans H
   clear H
   have H := H1
   clear H1
   replace H := Option.bind_eq_some_iff.mp H
   obtain ⟨⟨t750, t751, t752⟩, A160, H⟩ := H
   replace H : Option.bind (enclose_unit.f k (wrap64 (t741 + 1)) a1) _ = _ := H
   have A16 := Aside0.mk A160
   clear A160
   replace H := Option.bind_eq_some_iff.mp H
   obtain ⟨⟨t753, t754, t755⟩, A170, H⟩ := H
   replace H : (some (t750, t751, t752, t753, t754, t755, 0)) = some (r1, r2, r3, r4, r5, r6, r7) := H
   have A17 := Aside0.mk A170
   clear A170
   simp only [Option.some.injEq, Prod.mk.injEq] at H
   obtain ⟨rfl, rfl, rfl, rfl, rfl, rfl, rfl⟩ := H
   go_enter Try.func31, Try.ntmps31
   go_wp2_with (first | ((with_reducible refine gate_dst (N := 2) rfl ?_); refine be (N := 2) (cs := #[.bool a0_0, .string a0_1, .string a0_2]) (t := 35) ?_; intro gb739 hg w18 hbox hb; have BK739 := Aside0.mk (hbox); have GW739 := gw HB hg; have GE739 := GW739; replace HB := hs HB hb; clear hb hbox hg) | ((with_reducible refine gate_dst (N := 4) rfl ?_); refine be (N := 4) (cs := #[.bool false, .string (⟨#[]⟩ : ByteArray), .string (⟨#[]⟩ : ByteArray), .bool false, .string (⟨#[]⟩ : ByteArray), .string (⟨#[]⟩ : ByteArray)]) (t := 44) ?_; intro gb740 hg w19 hbox hb; have BK740 := Aside0.mk (hbox); have GW740 := gw HB hg; have GE740 := GW740; replace HB := hs HB hb; have NB739_740 := na BK739 hg; have NB740_739 := nz NB739_740; replace BK739 := bb BK739 hb; clear hb hbox hg; have hnb20 := NB739_740.out; have hnc20 := NB740_739.out; obtain ⟨hcz21_0, hcz21_1, hcz21_2, hfz21_0, hfz21_1, hfz21_2⟩ := z3 BK739) | ((with_reducible refine gate_callee (f := 27) rfl ?_); refine goesL_ (some 12) rfl rfl Try.func27 (by kernel_rfl) rfl #[.agg #[.bool a0_0, .string a0_1, .string a0_2], .int .i64 a1] rfl ga ?_; (with_reducible refine (enclose_Log.calls k a0_0 a0_1 a0_2 a1 t741 false t743 _ A3.out).mono ?_); rintro e w22 ⟨rfl, hb⟩; refine ⟨_, rfl, ?_⟩; replace BK739 := bb BK739 hb; replace BK740 := bb BK740 hb; replace HB := hs HB hb; (try clear hb)) | ((with_reducible refine gate_callee (f := 92) rfl ?_); refine goesL_ (some 30) rfl rfl Try.func92 (by kernel_rfl) rfl #[.int .i64 t741, .int .i64 a1] rfl ga ?_; (with_reducible refine (enclose_unit.calls k t741 a1 t750 t751 t752 _ A16.out).mono ?_); rintro e w23 ⟨rfl, hb⟩; refine ⟨_, rfl, ?_⟩; replace BK739 := bb BK739 hb; replace BK740 := bb BK740 hb; replace HB := hs HB hb; (try clear hb)) | ((with_reducible refine gate_callee (f := 92) rfl ?_); refine goesL_ (some 34) rfl rfl Try.func92 (by kernel_rfl) rfl #[.int .i64 (wrap64 (t741 + 1)), .int .i64 a1] rfl ga ?_; (with_reducible refine (enclose_unit.calls k (wrap64 (t741 + 1)) a1 t753 t754 t755 _ A17.out).mono ?_); rintro e w24 ⟨rfl, hb⟩; refine ⟨_, rfl, ?_⟩; replace BK739 := bb BK739 hb; replace BK740 := bb BK740 hb; replace HB := hs HB hb; (try clear hb); have hcz25_0 : w24.cell? ⟨gb740, 0, none⟩ = some (.bool false) := (blk_cell BK740.out 0).trans rfl; have hcz25_1 : w24.cell? ⟨gb740, 1, none⟩ = some (.string (⟨#[]⟩ : ByteArray)) := (blk_cell BK740.out 1).trans rfl; have hcz25_2 : w24.cell? ⟨gb740, 2, none⟩ = some (.string (⟨#[]⟩ : ByteArray)) := (blk_cell BK740.out 2).trans rfl; have hcz25_3 : w24.cell? ⟨gb740, 3, none⟩ = some (.bool false) := (blk_cell BK740.out 3).trans rfl; have hcz25_4 : w24.cell? ⟨gb740, 4, none⟩ = some (.string (⟨#[]⟩ : ByteArray)) := (blk_cell BK740.out 4).trans rfl; have hcz25_5 : w24.cell? ⟨gb740, 5, none⟩ = some (.string (⟨#[]⟩ : ByteArray)) := (blk_cell BK740.out 5).trans rfl; have hfz25_0 := blk_frozen BK740.out 0; have hfz25_1 := blk_frozen BK740.out 1; have hfz25_2 := blk_frozen BK740.out 2; have hfz25_3 := blk_frozen BK740.out 3; have hfz25_4 := blk_frozen BK740.out 4; have hfz25_5 := blk_frozen BK740.out 5))
   refine bodyPost_ret (results_ct rfl _ _ gb740 44 #[.bool t750, .string t751, .string t752, .bool t753, .string t754, .string t755] (0, 0) _ rfl bw Try.underlying44 rfl (by kernel_rfl)) rfl ?_
   exact ⟨er, bs⟩
 ·rw [if_neg c4] at H
  have c4b0 : (t743 == 0) = false := beq_eq_false_iff_ne.mpr c4
  have c4b1 : (t743 != 0) = true := bne_iff_ne.mpr c4
  simp only [Option.some.injEq, Prod.mk.injEq] at H
  obtain ⟨rfl, rfl, rfl, rfl, rfl, rfl, rfl⟩ := H
  go_enter Try.func31, Try.ntmps31
  go_wp2_with (first | ((with_reducible refine gate_dst (N := 2) rfl ?_); refine be (N := 2) (cs := #[.bool a0_0, .string a0_1, .string a0_2]) (t := 35) ?_; intro gb739 hg w26 hbox hb; have BK739 := Aside0.mk (hbox); have GW739 := gw HB hg; have GE739 := GW739; replace HB := hs HB hb; clear hb hbox hg) | ((with_reducible refine gate_dst (N := 4) rfl ?_); refine be (N := 4) (cs := #[.bool false, .string (⟨#[]⟩ : ByteArray), .string (⟨#[]⟩ : ByteArray), .bool false, .string (⟨#[]⟩ : ByteArray), .string (⟨#[]⟩ : ByteArray)]) (t := 44) ?_; intro gb740 hg w27 hbox hb; have BK740 := Aside0.mk (hbox); have GW740 := gw HB hg; have GE740 := GW740; replace HB := hs HB hb; have NB739_740 := na BK739 hg; have NB740_739 := nz NB739_740; replace BK739 := bb BK739 hb; clear hb hbox hg; have hnb28 := NB739_740.out; have hnc28 := NB740_739.out; obtain ⟨hcz29_0, hcz29_1, hcz29_2, hfz29_0, hfz29_1, hfz29_2⟩ := z3 BK739) | ((with_reducible refine gate_callee (f := 27) rfl ?_); refine goesL_ (some 12) rfl rfl Try.func27 (by kernel_rfl) rfl #[.agg #[.bool a0_0, .string a0_1, .string a0_2], .int .i64 a1] rfl ga ?_; (with_reducible refine (enclose_Log.calls k a0_0 a0_1 a0_2 a1 t741 t742 t743 _ A3.out).mono ?_); rintro e w30 ⟨rfl, hb⟩; refine ⟨_, rfl, ?_⟩; replace BK739 := bb BK739 hb; replace BK740 := bb BK740 hb; replace HB := hs HB hb; (try clear hb); have hcz31_0 : w30.cell? ⟨gb740, 0, none⟩ = some (.bool false) := (blk_cell BK740.out 0).trans rfl; have hcz31_1 : w30.cell? ⟨gb740, 1, none⟩ = some (.string (⟨#[]⟩ : ByteArray)) := (blk_cell BK740.out 1).trans rfl; have hcz31_2 : w30.cell? ⟨gb740, 2, none⟩ = some (.string (⟨#[]⟩ : ByteArray)) := (blk_cell BK740.out 2).trans rfl; have hcz31_3 : w30.cell? ⟨gb740, 3, none⟩ = some (.bool false) := (blk_cell BK740.out 3).trans rfl; have hcz31_4 : w30.cell? ⟨gb740, 4, none⟩ = some (.string (⟨#[]⟩ : ByteArray)) := (blk_cell BK740.out 4).trans rfl; have hcz31_5 : w30.cell? ⟨gb740, 5, none⟩ = some (.string (⟨#[]⟩ : ByteArray)) := (blk_cell BK740.out 5).trans rfl; have hfz31_0 := blk_frozen BK740.out 0; have hfz31_1 := blk_frozen BK740.out 1; have hfz31_2 := blk_frozen BK740.out 2; have hfz31_3 := blk_frozen BK740.out 3; have hfz31_4 := blk_frozen BK740.out 4; have hfz31_5 := blk_frozen BK740.out 5))
  refine bodyPost_ret (results_ct rfl _ _ gb740 44 #[.bool false, .string (⟨#[]⟩ : ByteArray), .string (⟨#[]⟩ : ByteArray), .bool false, .string (⟨#[]⟩ : ByteArray), .string (⟨#[]⟩ : ByteArray)] (0, 0) _ rfl bw Try.underlying44 rfl (by kernel_rfl)) rfl ?_
  exact ⟨er, bs⟩
end Go.Proofs.Ytccgfmjcldifcaa.P
