/- Walks of Go functions: what they compute; each theorem's conditions stand in it. -/
import Derived.Test.YtccgfmjcldifcaaT
import Derived.Test.YtccgfmjcldifcaaCCmp
import Derived.Test.YtccgfmjcldifcaaCLow
import Derived.Test.YtccgfmjcldifcaaDA
namespace Go.Proofs.Ytccgfmjcldifcaa.P
open Go.RowKit Go.Proofs.YtccgfmjcldifcaaW.PrintWords Go.Proofs.YtccgfmjcldifcaaW.PrintLast Go.Proofs.YtccgfmjcldifcaaW.PrintMore
attribute [local go_sem] max2_int min2_int max_two min_two max_three min_three max_four min_four
set_option linter.unusedVariables false
set_option linter.unusedSimpArgs false
set_option maxHeartbeats 8000000 in
set_option maxRecDepth 100000 in
theorem ratio_Make.calls (k : Nat) (a0 : Int) (a1 : Int) (r1 : Bool) (r2 : ByteArray) (r3 : ByteArray) (r4 : Int) (w : World) (h : ratio_Make.f k a0 a1 = some (r1, r2, r3, r4)) :
  Calls Try.prog 76 #[.int .i64 a0, .int .i64 a1] w fun e w' => e = .returned (.tuple #[.agg #[.bool r1, .string r2, .string r3], .int .i64 r4]) ∧ Below w.heap.size w w' := by
 have hu35 := Try.underlying35
 have hu88 := Try.underlying88
 have HB := Aside0.mk (Below.refl w.heap.size w)
 have H : (if a1 = 0 then _ else _) = _ := h
 clear h
 by_cases c3 : a1 = 0
 ·rw [if_pos c3] at H
  have c3b0 : (a1 == 0) = true := beq_iff_eq.mpr c3
  have c3b1 : (a1 != 0) = false := bne_eq_false_iff_eq.mpr c3
  clear c3
  simp only [Option.some.injEq, Prod.mk.injEq] at H
  obtain ⟨rfl, rfl, rfl, rfl⟩ := H
  go_enter Try.func76, Try.ntmps76
  go_wp2_with (first | ((with_reducible refine gate_dst (N := 4) rfl ?_); refine be (N := 4) (cs := #[.bool false, .string (⟨#[]⟩ : ByteArray), .string (⟨#[]⟩ : ByteArray)]) (t := 35) ?_; intro gb292 hg w4 hbox hb; have BK292 := Aside0.mk (hbox); have GW292 := gw HB hg; have GE292 := GW292; replace HB := hs HB hb; clear hb hbox hg; obtain ⟨hcz5_0, hcz5_1, hcz5_2, hfz5_0, hfz5_1, hfz5_2⟩ := z3 BK292))
  refine bodyPost_ret (results_ct rfl _ _ gb292 35 #[.bool false, .string (⟨#[]⟩ : ByteArray), .string (⟨#[]⟩ : ByteArray)] (0, 0) _ rfl bw Try.underlying35 rfl (by kernel_rfl)) rfl ?_
  exact ⟨er, bs⟩
 ·rw [if_neg c3] at H
  have c3b0 : (a1 == 0) = false := beq_eq_false_iff_ne.mpr c3
  have c3b1 : (a1 != 0) = true := bne_iff_ne.mpr c3
  replace H := Option.bind_eq_some_iff.mp H
  obtain ⟨t293, A60, H⟩ := H
  replace H : Option.bind (ratio_size.f k a1) _ = _ := H
  have A6 := Aside0.mk A60
  clear A60
  replace H := Option.bind_eq_some_iff.mp H
  obtain ⟨t296, A70, H⟩ := H
  replace H : Option.bind (ratio_number_lowest.f k ((decide (a0 < 0)) != (decide (a1 < 0))) t293 t296) _ = _ := H
  have A7 := Aside0.mk A70
  clear A70
  replace H := Option.bind_eq_some_iff.mp H
  obtain ⟨⟨t299, t300, t301, t302⟩, A80, H⟩ := H
  replace H : (some (t299, t300, t301, t302)) = some (r1, r2, r3, r4) := H
  have A8 := Aside0.mk A80
  clear A80
  simp only [Option.some.injEq, Prod.mk.injEq] at H
  obtain ⟨rfl, rfl, rfl, rfl⟩ := H
  go_enter Try.func76, Try.ntmps76
  go_wp2_with (first | ((with_reducible refine gate_dst (N := 4) rfl ?_); refine be (N := 4) (cs := #[.bool false, .string (⟨#[]⟩ : ByteArray), .string (⟨#[]⟩ : ByteArray)]) (t := 35) ?_; intro gb292 hg w9 hbox hb; have BK292 := Aside0.mk (hbox); have GW292 := gw HB hg; have GE292 := GW292; replace HB := hs HB hb; clear hb hbox hg) | ((with_reducible refine gate_callee (f := 121) rfl ?_); refine goesL_ (some 15) rfl rfl Try.func121 (by kernel_rfl) rfl #[.int .i64 a0] rfl ga ?_; (with_reducible refine (ratio_size.calls k a0 t293 _ A6.out).mono ?_); rintro e w10 ⟨v294, rfl, ho0, hb⟩; refine ⟨_, rfl, ?_⟩; have HO295 := Aside0.mk (Kd.V_lower (Kd.V_mono (ok' := fun k_ => k_ ≠ gb292) ho0 (fun k_ hk_ => (fb BK292 k_ hk_))) (below_size bs)); replace BK292 := bb BK292 hb; replace HB := hs HB hb; (try clear hb); (try clear ho0)) | ((with_reducible refine gate_callee (f := 121) rfl ?_); refine goesL_ (some 17) rfl rfl Try.func121 (by kernel_rfl) rfl #[.int .i64 a1] rfl ga ?_; (with_reducible refine (ratio_size.calls k a1 t296 _ A7.out).mono ?_); rintro e w11 ⟨v297, rfl, ho0, hb⟩; refine ⟨_, rfl, ?_⟩; replace HO295 := Aside0.mk (Kd.V_below (vl HO295) hb); have HO298 := Aside0.mk (Kd.V_lower (Kd.V_mono (ok' := fun k_ => k_ ≠ gb292) ho0 (fun k_ hk_ => (fb BK292 k_ hk_))) (below_size bs)); replace BK292 := bb BK292 hb; replace HB := hs HB hb; (try clear hb); (try clear ho0); obtain ⟨Ao12, co12, eo12⟩ := Kd.V_slice HO298.out; subst eo12; obtain ⟨Ao13, co13, eo13⟩ := Kd.V_slice HO295.out; subst eo13) | ((with_reducible refine gate_callee (f := 83) rfl ?_); refine goesL_ (some 19) rfl rfl Try.func83 (by kernel_rfl) rfl #[.agg #[.bool ((decide (a0 < 0)) != (decide (a1 < 0))), .slice Ao13 t293.length co13, .slice Ao12 t296.length co12]] rfl ga ?_; (with_reducible refine (ratio_number_lowest.calls k ((decide (a0 < 0)) != (decide (a1 < 0))) _ _ t293 _ _ t296 t299 t300 t301 t302 _ ?side1 ?side2 ?side3 ?side4 A8.out).mono ?_); (case side1 => exact cl ((Kd.V_reads' HO295.out).2.2)); (case side2 => exact (Kd.V_reads' HO295.out).2.1); (case side3 => exact cl ((Kd.V_reads' HO298.out).2.2)); (case side4 => exact (Kd.V_reads' HO298.out).2.1); rintro e w14 ⟨rfl, hb⟩; refine ⟨_, rfl, ?_⟩; replace HO295 := Aside0.mk (Kd.V_below (vl HO295) hb); replace HO298 := Aside0.mk (Kd.V_below (vl HO298) hb); replace BK292 := bb BK292 hb; replace HB := hs HB hb; (try clear hb); obtain ⟨hcz15_0, hcz15_1, hcz15_2, hfz15_0, hfz15_1, hfz15_2⟩ := z3 BK292))
  refine bodyPost_ret (results_ct rfl _ _ gb292 35 #[.bool t299, .string t300, .string t301] (0, 0) _ rfl bw Try.underlying35 rfl (by kernel_rfl)) rfl ?_
  exact ⟨er, bs⟩
end Go.Proofs.Ytccgfmjcldifcaa.P
