/- Walks of Go functions: what they compute; each theorem's conditions stand in it. -/
import Derived.Test.YtccgfmjcldifcaaT
import Derived.Test.YtccgfmjcldifcaaCRBig
import Derived.Test.YtccgfmjcldifcaaCRDiv
import Derived.Test.YtccgfmjcldifcaaCRText
import Derived.Test.YtccgfmjcldifcaaDB
namespace Go.Proofs.Ytccgfmjcldifcaa.P
open Go.RowKit Go.Proofs.YtccgfmjcldifcaaW.PrintWords Go.Proofs.YtccgfmjcldifcaaW.PrintLast Go.Proofs.YtccgfmjcldifcaaW.PrintMore
attribute [local go_sem] max2_int min2_int max_two min_two max_three min_three max_four min_four
set_option linter.unusedVariables false
set_option linter.unusedSimpArgs false
set_option maxHeartbeats 8000000 in
set_option maxRecDepth 100000 in
theorem corporaref36_Lowest.calls (k : Nat) (a0 : Bool) (A1 : Option Addr) (c1 : Nat) (l1 : List Int) (A2 : Option Addr) (c2 : Nat) (l2 : List Int) (r1 : Bool) (r2 : ByteArray) (r3 : ByteArray) (r4 : Int) (w : World) (hr1 : Kd.C (Kd.int .i64) w A1 l1.length l1) (hc1 : l1.length ≤ c1) (hr2 : Kd.C (Kd.int .i64) w A2 l2.length l2) (hc2 : l2.length ≤ c2) (h : corporaref36_Lowest.f k a0 l1 l2 = some (r1, r2, r3, r4)) :
  Calls Try.prog 111 #[.bool a0, .slice A1 l1.length c1, .slice A2 l2.length c2] w fun e w' => e = .returned (.tuple #[.agg #[.bool r1, .string r2, .string r3], .int .i64 r4]) ∧ Below w.heap.size w w' := by
 have hu35 := Try.underlying35
 have HR1 := Aside0.mk hr1
 have HC1 := Aside0.mk hc1
 clear hr1 hc1
 have HR2 := Aside0.mk hr2
 have HC2 := Aside0.mk hc2
 clear hr2 hc2
 have HB := Aside0.mk (Below.refl w.heap.size w)
 have H : (if (l1.length : Int) = 0 then _ else _) = _ := h
 clear h
 by_cases c4 : (l1.length : Int) = 0
 ·rw [if_pos c4] at H
  have c4b0 : ((l1.length : Int) == 0) = true := beq_iff_eq.mpr c4
  have c4b1 : ((l1.length : Int) != 0) = false := bne_eq_false_iff_eq.mpr c4
  clear c4
  simp only [Option.some.injEq, Prod.mk.injEq] at H
  obtain ⟨rfl, rfl, rfl, rfl⟩ := H
  go_enter Try.func111, Try.ntmps111
  go_wp2_with (first | ((with_reducible refine gate_dst (N := 6) rfl ?_); refine be (N := 6) (cs := #[.bool false, .string (⟨#[]⟩ : ByteArray), .string (⟨#[]⟩ : ByteArray)]) (t := 35) ?_; intro gb447 hg w5 hbox hb; have BK447 := Aside0.mk (hbox); have GW447 := gw HB hg; have GE447 := GW447; replace HB := hs HB hb; clear hb hbox hg; obtain ⟨hcz6_0, hcz6_1, hcz6_2, hfz6_0, hfz6_1, hfz6_2⟩ := z3 BK447))
  refine bodyPost_ret (results_ct rfl _ _ gb447 35 #[.bool false, .string (⟨#[48]⟩ : ByteArray), .string (⟨#[49]⟩ : ByteArray)] (0, 0) _ rfl bw Try.underlying35 rfl (by kernel_rfl)) rfl ?_
  exact ⟨er, bs⟩
 ·rw [if_neg c4] at H
  have c4b0 : ((l1.length : Int) == 0) = false := beq_eq_false_iff_ne.mpr c4
  have c4b1 : ((l1.length : Int) != 0) = true := bne_iff_ne.mpr c4
  have c4b2 : ¬ (l1 = []) := fun h_ => c4 (by rw [h_]; rfl)
  replace H := Option.bind_eq_some_iff.mp H
  obtain ⟨t448, A70, H⟩ := H
  replace H : Option.bind (corporaref36_Divide.f k l1 t448) _ = _ := H
  have A7 := Aside0.mk A70
  clear A70
  replace H := Option.bind_eq_some_iff.mp H
  obtain ⟨⟨t451, t454⟩, A80, H⟩ := H
  replace H : Option.bind (corporaref36_Divide.f k l2 t448) _ = _ := H
  have A8 := Aside0.mk A80
  clear A80
  replace H := Option.bind_eq_some_iff.mp H
  obtain ⟨⟨t457, t460⟩, A90, H⟩ := H
  replace H : Option.bind (corporaref36_done.f k t451) _ = _ := H
  have A9 := Aside0.mk A90
  clear A90
  replace H := Option.bind_eq_some_iff.mp H
  obtain ⟨⟨t463, t464⟩, A100, H⟩ := H
  replace H : Option.bind (corporaref36_done.f k t457) _ = _ := H
  have A10 := Aside0.mk A100
  clear A100
  replace H := Option.bind_eq_some_iff.mp H
  obtain ⟨⟨t465, t466⟩, A110, H⟩ := H
  replace H : (if t464 = 0 then _ else _) = _ := H
  have A11 := Aside0.mk A110
  clear A110
  by_cases c12 : t464 = 0
  ·rw [if_pos c12] at H
   have c12b0 : (t464 == 0) = true := beq_iff_eq.mpr c12
   have c12b1 : (t464 != 0) = false := bne_eq_false_iff_eq.mpr c12
   clear c12
   by_cases c13 : t466 = 0
   ·rw [if_pos c13] at H
    have c13b0 : (t466 == 0) = true := beq_iff_eq.mpr c13
    have c13b1 : (t466 != 0) = false := bne_eq_false_iff_eq.mpr c13
    clear c13
    simp only [Option.some.injEq, Prod.mk.injEq] at H
    obtain ⟨rfl, rfl, rfl, rfl⟩ := H
    go_enter Try.func111, Try.ntmps111
    go_wp2_with (first | ((with_reducible refine gate_dst (N := 6) rfl ?_); refine be (N := 6) (cs := #[.bool false, .string (⟨#[]⟩ : ByteArray), .string (⟨#[]⟩ : ByteArray)]) (t := 35) ?_; intro gb447 hg w14 hbox hb; have BK447 := Aside0.mk (hbox); have GW447 := gw HB hg; have GE447 := GW447; replace HB := hs HB hb; clear hb hbox hg) | ((with_reducible refine gate_callee (f := 104) rfl ?_); refine goesL_ (some 23) rfl rfl Try.func104 (by kernel_rfl) rfl #[.slice A1 l1.length c1, .slice A2 l2.length c2] rfl ga ?_; (with_reducible refine (corporaref36_Gcd.calls k (fun k_ => k_ < w.heap.size) _ _ l1 (fun k_ => k_ < w.heap.size) _ _ l2 t448 _ ?side1 ?side2 A7.out).mono ?_); (case side1 => exact Kd.V_mk HC1.out (Kd.F_below (Kd.C_F (Kd.heap_int .i64) HR1.out) bs)); (case side2 => exact Kd.V_mk HC2.out (Kd.F_below (Kd.C_F (Kd.heap_int .i64) HR2.out) bs)); rintro e w15 ⟨v449, rfl, ho0, hb⟩; refine ⟨_, rfl, ?_⟩; have HO450 := Aside0.mk (Kd.V_lower (Kd.V_mono (ok' := fun k_ => k_ ≠ gb447) ho0 (fun k_ hk_ => Or.elim hk_ (fun hs_ => Or.elim hs_ (ng GW447) (ng GW447)) (fun hn_ => (fb BK447 k_ hn_)))) (below_size bs)); replace BK447 := bb BK447 hb; replace HB := hs HB hb; (try clear hb); (try clear ho0); obtain ⟨Ao16, co16, eo16⟩ := Kd.V_slice HO450.out; subst eo16) | ((with_reducible refine gate_callee (f := 103) rfl ?_); refine goesL_ (some 27) rfl rfl Try.func103 (by kernel_rfl) rfl #[.slice A1 l1.length c1, .slice Ao16 t448.length co16] rfl ga ?_; (with_reducible refine (corporaref36_Divide.calls k _ _ l1 _ _ t448 t451 t454 _ ?side1 ?side2 ?side3 ?side4 A8.out).mono ?_); (case side1 => exact cl ((Kd.C_below HR1.out HB.out))); (case side2 => exact HC1.out); (case side3 => exact cl ((Kd.V_reads' HO450.out).2.2)); (case side4 => exact (Kd.V_reads' HO450.out).2.1); rintro e w17 ⟨v452, v455, rfl, ho0, ho1, hb⟩; refine ⟨_, rfl, ?_⟩; replace HO450 := Aside0.mk (Kd.V_below (vl HO450) hb); have HO453 := Aside0.mk (Kd.V_lower (Kd.V_mono (ok' := fun k_ => k_ ≠ gb447) ho0 (fun k_ hk_ => (fb BK447 k_ hk_))) (below_size bs)); have HO456 := Aside0.mk (Kd.V_lower (Kd.V_mono (ok' := fun k_ => k_ ≠ gb447) ho1 (fun k_ hk_ => (fb BK447 k_ hk_))) (below_size bs)); replace BK447 := bb BK447 hb; replace HB := hs HB hb; (try clear hb); (try clear ho0); (try clear ho1)) | ((with_reducible refine gate_callee (f := 103) rfl ?_); refine goesL_ (some 33) rfl rfl Try.func103 (by kernel_rfl) rfl #[.slice A2 l2.length c2, .slice Ao16 t448.length co16] rfl ga ?_; (with_reducible refine (corporaref36_Divide.calls k _ _ l2 _ _ t448 t457 t460 _ ?side1 ?side2 ?side3 ?side4 A9.out).mono ?_); (case side1 => exact cl ((Kd.C_below HR2.out HB.out))); (case side2 => exact HC2.out); (case side3 => exact cl ((Kd.V_reads' HO450.out).2.2)); (case side4 => exact (Kd.V_reads' HO450.out).2.1); rintro e w18 ⟨v458, v461, rfl, ho0, ho1, hb⟩; refine ⟨_, rfl, ?_⟩; replace HO450 := Aside0.mk (Kd.V_below (vl HO450) hb); replace HO453 := Aside0.mk (Kd.V_below (vl HO453) hb); replace HO456 := Aside0.mk (Kd.V_below (vl HO456) hb); have HO459 := Aside0.mk (Kd.V_lower (Kd.V_mono (ok' := fun k_ => k_ ≠ gb447) ho0 (fun k_ hk_ => (fb BK447 k_ hk_))) (below_size bs)); have HO462 := Aside0.mk (Kd.V_lower (Kd.V_mono (ok' := fun k_ => k_ ≠ gb447) ho1 (fun k_ hk_ => (fb BK447 k_ hk_))) (below_size bs)); replace BK447 := bb BK447 hb; replace HB := hs HB hb; (try clear hb); (try clear ho0); (try clear ho1); obtain ⟨Ao19, co19, eo19⟩ := Kd.V_slice HO453.out; subst eo19) | ((with_reducible refine gate_callee (f := 99) rfl ?_); refine goesL_ (some 38) rfl rfl Try.func99 (by kernel_rfl) rfl #[.slice Ao19 t451.length co19] rfl ga ?_; (with_reducible refine (corporaref36_done.calls k _ _ t451 t463 t464 _ ?side1 ?side2 A10.out).mono ?_); (case side1 => exact cl ((Kd.V_reads' HO453.out).2.2)); (case side2 => exact (Kd.V_reads' HO453.out).2.1); rintro e w20 ⟨rfl, hb⟩; refine ⟨_, rfl, ?_⟩; replace HO450 := Aside0.mk (Kd.V_below (vl HO450) hb); replace HO453 := Aside0.mk (Kd.V_below (vl HO453) hb); replace HO456 := Aside0.mk (Kd.V_below (vl HO456) hb); replace HO459 := Aside0.mk (Kd.V_below (vl HO459) hb); replace HO462 := Aside0.mk (Kd.V_below (vl HO462) hb); replace BK447 := bb BK447 hb; replace HB := hs HB hb; (try clear hb); obtain ⟨Ao21, co21, eo21⟩ := Kd.V_slice HO459.out; subst eo21) | ((with_reducible refine gate_callee (f := 99) rfl ?_); refine goesL_ (some 43) rfl rfl Try.func99 (by kernel_rfl) rfl #[.slice Ao21 t457.length co21] rfl ga ?_; (with_reducible refine (corporaref36_done.calls k _ _ t457 t465 t466 _ ?side1 ?side2 A11.out).mono ?_); (case side1 => exact cl ((Kd.V_reads' HO459.out).2.2)); (case side2 => exact (Kd.V_reads' HO459.out).2.1); rintro e w22 ⟨rfl, hb⟩; refine ⟨_, rfl, ?_⟩; replace HO450 := Aside0.mk (Kd.V_below (vl HO450) hb); replace HO453 := Aside0.mk (Kd.V_below (vl HO453) hb); replace HO456 := Aside0.mk (Kd.V_below (vl HO456) hb); replace HO459 := Aside0.mk (Kd.V_below (vl HO459) hb); replace HO462 := Aside0.mk (Kd.V_below (vl HO462) hb); replace BK447 := bb BK447 hb; replace HB := hs HB hb; (try clear hb); obtain ⟨hcz23_0, hcz23_1, hcz23_2, hfz23_0, hfz23_1, hfz23_2⟩ := z3 BK447))
    refine bodyPost_ret (results_ct rfl _ _ gb447 35 #[.bool a0, .string t463, .string t465] (0, 0) _ rfl bw Try.underlying35 rfl (by kernel_rfl)) rfl ?_
    exact ⟨er, bs⟩
   ·rw [if_neg c13] at H
    have c13b0 : (t466 == 0) = false := beq_eq_false_iff_ne.mpr c13
    have c13b1 : (t466 != 0) = true := bne_iff_ne.mpr c13
    simp only [Option.some.injEq, Prod.mk.injEq] at H
    obtain ⟨rfl, rfl, rfl, rfl⟩ := H
    go_enter Try.func111, Try.ntmps111
    go_wp2_with (first | ((with_reducible refine gate_dst (N := 6) rfl ?_); refine be (N := 6) (cs := #[.bool false, .string (⟨#[]⟩ : ByteArray), .string (⟨#[]⟩ : ByteArray)]) (t := 35) ?_; intro gb447 hg w24 hbox hb; have BK447 := Aside0.mk (hbox); have GW447 := gw HB hg; have GE447 := GW447; replace HB := hs HB hb; clear hb hbox hg) | ((with_reducible refine gate_callee (f := 104) rfl ?_); refine goesL_ (some 23) rfl rfl Try.func104 (by kernel_rfl) rfl #[.slice A1 l1.length c1, .slice A2 l2.length c2] rfl ga ?_; (with_reducible refine (corporaref36_Gcd.calls k (fun k_ => k_ < w.heap.size) _ _ l1 (fun k_ => k_ < w.heap.size) _ _ l2 t448 _ ?side1 ?side2 A7.out).mono ?_); (case side1 => exact Kd.V_mk HC1.out (Kd.F_below (Kd.C_F (Kd.heap_int .i64) HR1.out) bs)); (case side2 => exact Kd.V_mk HC2.out (Kd.F_below (Kd.C_F (Kd.heap_int .i64) HR2.out) bs)); rintro e w25 ⟨v449, rfl, ho0, hb⟩; refine ⟨_, rfl, ?_⟩; have HO450 := Aside0.mk (Kd.V_lower (Kd.V_mono (ok' := fun k_ => k_ ≠ gb447) ho0 (fun k_ hk_ => Or.elim hk_ (fun hs_ => Or.elim hs_ (ng GW447) (ng GW447)) (fun hn_ => (fb BK447 k_ hn_)))) (below_size bs)); replace BK447 := bb BK447 hb; replace HB := hs HB hb; (try clear hb); (try clear ho0); obtain ⟨Ao26, co26, eo26⟩ := Kd.V_slice HO450.out; subst eo26) | ((with_reducible refine gate_callee (f := 103) rfl ?_); refine goesL_ (some 27) rfl rfl Try.func103 (by kernel_rfl) rfl #[.slice A1 l1.length c1, .slice Ao26 t448.length co26] rfl ga ?_; (with_reducible refine (corporaref36_Divide.calls k _ _ l1 _ _ t448 t451 t454 _ ?side1 ?side2 ?side3 ?side4 A8.out).mono ?_); (case side1 => exact cl ((Kd.C_below HR1.out HB.out))); (case side2 => exact HC1.out); (case side3 => exact cl ((Kd.V_reads' HO450.out).2.2)); (case side4 => exact (Kd.V_reads' HO450.out).2.1); rintro e w27 ⟨v452, v455, rfl, ho0, ho1, hb⟩; refine ⟨_, rfl, ?_⟩; replace HO450 := Aside0.mk (Kd.V_below (vl HO450) hb); have HO453 := Aside0.mk (Kd.V_lower (Kd.V_mono (ok' := fun k_ => k_ ≠ gb447) ho0 (fun k_ hk_ => (fb BK447 k_ hk_))) (below_size bs)); have HO456 := Aside0.mk (Kd.V_lower (Kd.V_mono (ok' := fun k_ => k_ ≠ gb447) ho1 (fun k_ hk_ => (fb BK447 k_ hk_))) (below_size bs)); replace BK447 := bb BK447 hb; replace HB := hs HB hb; (try clear hb); (try clear ho0); (try clear ho1)) | ((with_reducible refine gate_callee (f := 103) rfl ?_); refine goesL_ (some 33) rfl rfl Try.func103 (by kernel_rfl) rfl #[.slice A2 l2.length c2, .slice Ao26 t448.length co26] rfl ga ?_; (with_reducible refine (corporaref36_Divide.calls k _ _ l2 _ _ t448 t457 t460 _ ?side1 ?side2 ?side3 ?side4 A9.out).mono ?_); (case side1 => exact cl ((Kd.C_below HR2.out HB.out))); (case side2 => exact HC2.out); (case side3 => exact cl ((Kd.V_reads' HO450.out).2.2)); (case side4 => exact (Kd.V_reads' HO450.out).2.1); rintro e w28 ⟨v458, v461, rfl, ho0, ho1, hb⟩; refine ⟨_, rfl, ?_⟩; replace HO450 := Aside0.mk (Kd.V_below (vl HO450) hb); replace HO453 := Aside0.mk (Kd.V_below (vl HO453) hb); replace HO456 := Aside0.mk (Kd.V_below (vl HO456) hb); have HO459 := Aside0.mk (Kd.V_lower (Kd.V_mono (ok' := fun k_ => k_ ≠ gb447) ho0 (fun k_ hk_ => (fb BK447 k_ hk_))) (below_size bs)); have HO462 := Aside0.mk (Kd.V_lower (Kd.V_mono (ok' := fun k_ => k_ ≠ gb447) ho1 (fun k_ hk_ => (fb BK447 k_ hk_))) (below_size bs)); replace BK447 := bb BK447 hb; replace HB := hs HB hb; (try clear hb); (try clear ho0); (try clear ho1); obtain ⟨Ao29, co29, eo29⟩ := Kd.V_slice HO453.out; subst eo29) | ((with_reducible refine gate_callee (f := 99) rfl ?_); refine goesL_ (some 38) rfl rfl Try.func99 (by kernel_rfl) rfl #[.slice Ao29 t451.length co29] rfl ga ?_; (with_reducible refine (corporaref36_done.calls k _ _ t451 t463 t464 _ ?side1 ?side2 A10.out).mono ?_); (case side1 => exact cl ((Kd.V_reads' HO453.out).2.2)); (case side2 => exact (Kd.V_reads' HO453.out).2.1); rintro e w30 ⟨rfl, hb⟩; refine ⟨_, rfl, ?_⟩; replace HO450 := Aside0.mk (Kd.V_below (vl HO450) hb); replace HO453 := Aside0.mk (Kd.V_below (vl HO453) hb); replace HO456 := Aside0.mk (Kd.V_below (vl HO456) hb); replace HO459 := Aside0.mk (Kd.V_below (vl HO459) hb); replace HO462 := Aside0.mk (Kd.V_below (vl HO462) hb); replace BK447 := bb BK447 hb; replace HB := hs HB hb; (try clear hb); obtain ⟨Ao31, co31, eo31⟩ := Kd.V_slice HO459.out; subst eo31) | ((with_reducible refine gate_callee (f := 99) rfl ?_); refine goesL_ (some 43) rfl rfl Try.func99 (by kernel_rfl) rfl #[.slice Ao31 t457.length co31] rfl ga ?_; (with_reducible refine (corporaref36_done.calls k _ _ t457 t465 t466 _ ?side1 ?side2 A11.out).mono ?_); (case side1 => exact cl ((Kd.V_reads' HO459.out).2.2)); (case side2 => exact (Kd.V_reads' HO459.out).2.1); rintro e w32 ⟨rfl, hb⟩; refine ⟨_, rfl, ?_⟩; replace HO450 := Aside0.mk (Kd.V_below (vl HO450) hb); replace HO453 := Aside0.mk (Kd.V_below (vl HO453) hb); replace HO456 := Aside0.mk (Kd.V_below (vl HO456) hb); replace HO459 := Aside0.mk (Kd.V_below (vl HO459) hb); replace HO462 := Aside0.mk (Kd.V_below (vl HO462) hb); replace BK447 := bb BK447 hb; replace HB := hs HB hb; (try clear hb); obtain ⟨hcz33_0, hcz33_1, hcz33_2, hfz33_0, hfz33_1, hfz33_2⟩ := z3 BK447))
    refine bodyPost_ret (results_ct rfl _ _ gb447 35 #[.bool false, .string (⟨#[]⟩ : ByteArray), .string (⟨#[]⟩ : ByteArray)] (0, 0) _ rfl bw Try.underlying35 rfl (by kernel_rfl)) rfl ?_
    exact ⟨er, bs⟩
  ·rw [if_neg c12] at H
   have c12b0 : (t464 == 0) = false := beq_eq_false_iff_ne.mpr c12
   have c12b1 : (t464 != 0) = true := bne_iff_ne.mpr c12
   simp only [Option.some.injEq, Prod.mk.injEq] at H
   obtain ⟨rfl, rfl, rfl, rfl⟩ := H
   go_enter Try.func111, Try.ntmps111
   go_wp2_with (first | ((with_reducible refine gate_dst (N := 6) rfl ?_); refine be (N := 6) (cs := #[.bool false, .string (⟨#[]⟩ : ByteArray), .string (⟨#[]⟩ : ByteArray)]) (t := 35) ?_; intro gb447 hg w34 hbox hb; have BK447 := Aside0.mk (hbox); have GW447 := gw HB hg; have GE447 := GW447; replace HB := hs HB hb; clear hb hbox hg) | ((with_reducible refine gate_callee (f := 104) rfl ?_); refine goesL_ (some 23) rfl rfl Try.func104 (by kernel_rfl) rfl #[.slice A1 l1.length c1, .slice A2 l2.length c2] rfl ga ?_; (with_reducible refine (corporaref36_Gcd.calls k (fun k_ => k_ < w.heap.size) _ _ l1 (fun k_ => k_ < w.heap.size) _ _ l2 t448 _ ?side1 ?side2 A7.out).mono ?_); (case side1 => exact Kd.V_mk HC1.out (Kd.F_below (Kd.C_F (Kd.heap_int .i64) HR1.out) bs)); (case side2 => exact Kd.V_mk HC2.out (Kd.F_below (Kd.C_F (Kd.heap_int .i64) HR2.out) bs)); rintro e w35 ⟨v449, rfl, ho0, hb⟩; refine ⟨_, rfl, ?_⟩; have HO450 := Aside0.mk (Kd.V_lower (Kd.V_mono (ok' := fun k_ => k_ ≠ gb447) ho0 (fun k_ hk_ => Or.elim hk_ (fun hs_ => Or.elim hs_ (ng GW447) (ng GW447)) (fun hn_ => (fb BK447 k_ hn_)))) (below_size bs)); replace BK447 := bb BK447 hb; replace HB := hs HB hb; (try clear hb); (try clear ho0); obtain ⟨Ao36, co36, eo36⟩ := Kd.V_slice HO450.out; subst eo36) | ((with_reducible refine gate_callee (f := 103) rfl ?_); refine goesL_ (some 27) rfl rfl Try.func103 (by kernel_rfl) rfl #[.slice A1 l1.length c1, .slice Ao36 t448.length co36] rfl ga ?_; (with_reducible refine (corporaref36_Divide.calls k _ _ l1 _ _ t448 t451 t454 _ ?side1 ?side2 ?side3 ?side4 A8.out).mono ?_); (case side1 => exact cl ((Kd.C_below HR1.out HB.out))); (case side2 => exact HC1.out); (case side3 => exact cl ((Kd.V_reads' HO450.out).2.2)); (case side4 => exact (Kd.V_reads' HO450.out).2.1); rintro e w37 ⟨v452, v455, rfl, ho0, ho1, hb⟩; refine ⟨_, rfl, ?_⟩; replace HO450 := Aside0.mk (Kd.V_below (vl HO450) hb); have HO453 := Aside0.mk (Kd.V_lower (Kd.V_mono (ok' := fun k_ => k_ ≠ gb447) ho0 (fun k_ hk_ => (fb BK447 k_ hk_))) (below_size bs)); have HO456 := Aside0.mk (Kd.V_lower (Kd.V_mono (ok' := fun k_ => k_ ≠ gb447) ho1 (fun k_ hk_ => (fb BK447 k_ hk_))) (below_size bs)); replace BK447 := bb BK447 hb; replace HB := hs HB hb; (try clear hb); (try clear ho0); (try clear ho1)) | ((with_reducible refine gate_callee (f := 103) rfl ?_); refine goesL_ (some 33) rfl rfl Try.func103 (by kernel_rfl) rfl #[.slice A2 l2.length c2, .slice Ao36 t448.length co36] rfl ga ?_; (with_reducible refine (corporaref36_Divide.calls k _ _ l2 _ _ t448 t457 t460 _ ?side1 ?side2 ?side3 ?side4 A9.out).mono ?_); (case side1 => exact cl ((Kd.C_below HR2.out HB.out))); (case side2 => exact HC2.out); (case side3 => exact cl ((Kd.V_reads' HO450.out).2.2)); (case side4 => exact (Kd.V_reads' HO450.out).2.1); rintro e w38 ⟨v458, v461, rfl, ho0, ho1, hb⟩; refine ⟨_, rfl, ?_⟩; replace HO450 := Aside0.mk (Kd.V_below (vl HO450) hb); replace HO453 := Aside0.mk (Kd.V_below (vl HO453) hb); replace HO456 := Aside0.mk (Kd.V_below (vl HO456) hb); have HO459 := Aside0.mk (Kd.V_lower (Kd.V_mono (ok' := fun k_ => k_ ≠ gb447) ho0 (fun k_ hk_ => (fb BK447 k_ hk_))) (below_size bs)); have HO462 := Aside0.mk (Kd.V_lower (Kd.V_mono (ok' := fun k_ => k_ ≠ gb447) ho1 (fun k_ hk_ => (fb BK447 k_ hk_))) (below_size bs)); replace BK447 := bb BK447 hb; replace HB := hs HB hb; (try clear hb); (try clear ho0); (try clear ho1); obtain ⟨Ao39, co39, eo39⟩ := Kd.V_slice HO453.out; subst eo39) | ((with_reducible refine gate_callee (f := 99) rfl ?_); refine goesL_ (some 38) rfl rfl Try.func99 (by kernel_rfl) rfl #[.slice Ao39 t451.length co39] rfl ga ?_; (with_reducible refine (corporaref36_done.calls k _ _ t451 t463 t464 _ ?side1 ?side2 A10.out).mono ?_); (case side1 => exact cl ((Kd.V_reads' HO453.out).2.2)); (case side2 => exact (Kd.V_reads' HO453.out).2.1); rintro e w40 ⟨rfl, hb⟩; refine ⟨_, rfl, ?_⟩; replace HO450 := Aside0.mk (Kd.V_below (vl HO450) hb); replace HO453 := Aside0.mk (Kd.V_below (vl HO453) hb); replace HO456 := Aside0.mk (Kd.V_below (vl HO456) hb); replace HO459 := Aside0.mk (Kd.V_below (vl HO459) hb); replace HO462 := Aside0.mk (Kd.V_below (vl HO462) hb); replace BK447 := bb BK447 hb; replace HB := hs HB hb; (try clear hb); obtain ⟨Ao41, co41, eo41⟩ := Kd.V_slice HO459.out; subst eo41) | ((with_reducible refine gate_callee (f := 99) rfl ?_); refine goesL_ (some 43) rfl rfl Try.func99 (by kernel_rfl) rfl #[.slice Ao41 t457.length co41] rfl ga ?_; (with_reducible refine (corporaref36_done.calls k _ _ t457 t465 t466 _ ?side1 ?side2 A11.out).mono ?_); (case side1 => exact cl ((Kd.V_reads' HO459.out).2.2)); (case side2 => exact (Kd.V_reads' HO459.out).2.1); rintro e w42 ⟨rfl, hb⟩; refine ⟨_, rfl, ?_⟩; replace HO450 := Aside0.mk (Kd.V_below (vl HO450) hb); replace HO453 := Aside0.mk (Kd.V_below (vl HO453) hb); replace HO456 := Aside0.mk (Kd.V_below (vl HO456) hb); replace HO459 := Aside0.mk (Kd.V_below (vl HO459) hb); replace HO462 := Aside0.mk (Kd.V_below (vl HO462) hb); replace BK447 := bb BK447 hb; replace HB := hs HB hb; (try clear hb); obtain ⟨hcz43_0, hcz43_1, hcz43_2, hfz43_0, hfz43_1, hfz43_2⟩ := z3 BK447))
   refine bodyPost_ret (results_ct rfl _ _ gb447 35 #[.bool false, .string (⟨#[]⟩ : ByteArray), .string (⟨#[]⟩ : ByteArray)] (0, 0) _ rfl bw Try.underlying35 rfl (by kernel_rfl)) rfl ?_
   exact ⟨er, bs⟩
set_option maxHeartbeats 8000000 in
set_option maxRecDepth 100000 in
theorem corporaref36_Of.calls (k : Nat) (a0 : Bool) (a1 : ByteArray) (a2 : ByteArray) (r1 : Bool) (r2 : ByteArray) (r3 : ByteArray) (r4 : Int) (w : World) (h : corporaref36_Of.f k a0 a1 a2 = some (r1, r2, r3, r4)) :
  Calls Try.prog 66 #[.bool a0, .string a1, .string a2] w fun e w' => e = .returned (.tuple #[.agg #[.bool r1, .string r2, .string r3], .int .i64 r4]) ∧ Below w.heap.size w w' := by
 have hu35 := Try.underlying35
 have HB := Aside0.mk (Below.refl w.heap.size w)
 have H : Option.bind (corporaref36_Valid.f k a1) _ = _ := h
 clear h
 have HC4 := Aside0.mk H
 clear H
 go_enter Try.func66, Try.ntmps66
 go_upto_region 1 with (first | ((with_reducible refine gate_dst (N := 6) rfl ?_); refine be (N := 6) (cs := #[.bool false, .string (⟨#[]⟩ : ByteArray), .string (⟨#[]⟩ : ByteArray)]) (t := 35) ?_; intro gb467 hg w5 hbox hb; have BK467 := Aside0.mk (hbox); have GW467 := gw HB hg; have GE467 := GW467; replace HB := hs HB hb; clear hb hbox hg))
 (try simp only [Act.put, List.setIfInBounds_toArray, List.set_cons_zero, List.set_cons_succ])
 go_cut [15] (fun v15 wc => ∃ (kq : Nat) (x15_3 : Bool), v15 = .bool x15_3 ∧ Aside0 (corporaref36_Of.j0 kq a0 a1 a2 x15_3 = some (r1, r2, r3, r4)) ∧ Aside0 (kq ≤ k) ∧ Aside0 (wc.heap[gb467]? = some (.cells #[.bool false, .string (⟨#[]⟩ : ByteArray), .string (⟨#[]⟩ : ByteArray)] 35 (0, 0))) ∧ Aside0 (Below w.heap.size w wc))
 case first =>
  have H := HC4.out
  clear HC4
  replace H := Option.bind_eq_some_iff.mp H
  obtain ⟨t468, A60, H⟩ := H
  replace H : (if t468 = true then _ else _) = _ := H
  have A6 := Aside0.mk A60
  clear A60
  by_cases c7 : t468 = true
  ·subst c7
   have H1 : ((corporaref36_Valid.f k a2).bind fun t469 => (corporaref36_Of.j0 k a0 a1 a2 (!t469))) = some (r1, r2, r3, r4) := by rw [if_pos rfl] at H; exact H
   clear H
   have H := H1
   clear H1
   replace H := Option.bind_eq_some_iff.mp H
   obtain ⟨t469, A80, H⟩ := H
   replace H : (corporaref36_Of.j0 k a0 a1 a2 (!t469)) = some (r1, r2, r3, r4) := H
   have A8 := Aside0.mk A80
   clear A80
   have H' := Aside0.mk H
   clear H
   go_wp2_with (first | ((with_reducible refine gate_callee (f := 98) rfl ?_); refine goesL_ (some 9) rfl rfl Try.func98 (by kernel_rfl) rfl #[.string a1] rfl ga ?_; (with_reducible refine (corporaref36_Valid.calls k a1 true _ A6.out).mono ?_); rintro e w' ⟨rfl, ⟨nd, rfl⟩⟩; refine ⟨_, rfl, ?_⟩) | (go_at_call 98; (with_reducible refine (corporaref36_Valid.calls k a2 t469 _ A8.out).mono ?_); rintro e w' ⟨rfl, ⟨nd, rfl⟩⟩))
   go_meet
   case rel => exact ⟨_, (!t469), sv, H', ⟨by first | omega | exact Nat.le_refl _⟩, ⟨bk⟩, ⟨bs⟩⟩
  ·replace c7 := Bool.eq_false_iff.mpr c7
   subst c7
   have H1 : (corporaref36_Of.j0 k a0 a1 a2 true) = some (r1, r2, r3, r4) := by rw [if_neg (show ¬ (false = true) by decide)] at H; exact H
   clear H
   have H := H1
   clear H1
   have H' := Aside0.mk H
   clear H
   go_wp2_with (first | ((with_reducible refine gate_callee (f := 98) rfl ?_); refine goesL_ (some 9) rfl rfl Try.func98 (by kernel_rfl) rfl #[.string a1] rfl ga ?_; (with_reducible refine (corporaref36_Valid.calls k a1 false _ A6.out).mono ?_); rintro e w' ⟨rfl, ⟨nd, rfl⟩⟩; refine ⟨_, rfl, ?_⟩))
   go_meet
   case rel => exact ⟨_, (true), sv, H', ⟨by first | omega | exact Nat.le_refl _⟩, ⟨bk⟩, ⟨bs⟩⟩
 case rest =>
  clear HC4
  try clear c7
  obtain ⟨kq, x15_3, rfl, HA, HJ3, BK467, HB⟩ := hcut
  cases kq with
  | zero => exact absurd HA.out (by simp [corporaref36_Of.j0])
  | succ kj3 =>
   have H := HA.out
   clear HA
   simp only [corporaref36_Of.j0] at H
   by_cases c9 : x15_3 = true
   ·subst c9
    have H1 : (some (false, (⟨#[]⟩ : ByteArray), (⟨#[]⟩ : ByteArray), 1)) = some (r1, r2, r3, r4) := by rw [if_pos rfl] at H; exact H
    clear H
    have H := H1
    clear H1
    simp only [Option.some.injEq, Prod.mk.injEq] at H
    obtain ⟨rfl, rfl, rfl, rfl⟩ := H
    obtain ⟨hcz10_0, hcz10_1, hcz10_2, hfz10_0, hfz10_1, hfz10_2⟩ := z3 BK467
    go_wp2
    refine bodyPost_ret (results_ct rfl _ _ gb467 35 #[.bool false, .string (⟨#[]⟩ : ByteArray), .string (⟨#[]⟩ : ByteArray)] (0, 0) _ rfl bw Try.underlying35 rfl (by kernel_rfl)) rfl ?_
    exact ⟨er, bs⟩
   ·replace c9 := Bool.eq_false_iff.mpr c9
    subst c9
    have H1 : (if a2.toList = ([48] : List UInt8) then _ else _) = _ := (if_neg (show ¬ (false = true) by decide)).symm.trans H
    clear H
    have H := H1
    clear H1
    by_cases c11 : a2.toList = ([48] : List UInt8)
    ·rw [if_pos c11] at H
     have c11b0 : (a2.toList == ([48] : List UInt8)) = true := beq_iff_eq.mpr c11
     have c11b1 : (a2.toList != ([48] : List UInt8)) = false := bne_eq_false_iff_eq.mpr c11
     clear c11
     simp only [Option.some.injEq, Prod.mk.injEq] at H
     obtain ⟨rfl, rfl, rfl, rfl⟩ := H
     obtain ⟨hcz12_0, hcz12_1, hcz12_2, hfz12_0, hfz12_1, hfz12_2⟩ := z3 BK467
     go_wp2
     refine bodyPost_ret (results_ct rfl _ _ gb467 35 #[.bool false, .string (⟨#[]⟩ : ByteArray), .string (⟨#[]⟩ : ByteArray)] (0, 0) _ rfl bw Try.underlying35 rfl (by kernel_rfl)) rfl ?_
     exact ⟨er, bs⟩
    ·rw [if_neg c11] at H
     have c11b0 : (a2.toList == ([48] : List UInt8)) = false := beq_eq_false_iff_ne.mpr c11
     have c11b1 : (a2.toList != ([48] : List UInt8)) = true := bne_iff_ne.mpr c11
     replace H := Option.bind_eq_some_iff.mp H
     obtain ⟨t470, A130, H⟩ := H
     replace H : Option.bind (corporaref36_Big.f kj3 a2) _ = _ := H
     have A13 := Aside0.mk A130
     clear A130
     replace H := Option.bind_eq_some_iff.mp H
     obtain ⟨t473, A140, H⟩ := H
     replace H : Option.bind (corporaref36_Lowest.f kj3 a0 t470 t473) _ = _ := H
     have A14 := Aside0.mk A140
     clear A140
     replace H := Option.bind_eq_some_iff.mp H
     obtain ⟨⟨t476, t477, t478, t479⟩, A150, H⟩ := H
     replace H : (some (t476, t477, t478, t479)) = some (r1, r2, r3, r4) := H
     have A15 := Aside0.mk A150
     clear A150
     simp only [Option.some.injEq, Prod.mk.injEq] at H
     obtain ⟨rfl, rfl, rfl, rfl⟩ := H
     go_wp2_with (first | ((with_reducible refine gate_callee (f := 88) rfl ?_); refine goesL_ (some 22) rfl rfl Try.func88 (by kernel_rfl) rfl #[.string a1] rfl ga ?_; (with_reducible refine (corporaref36_Big.calls kj3 a1 t470 _ A13.out).mono ?_); rintro e w16 ⟨v471, rfl, ho0, hb⟩; refine ⟨_, rfl, ?_⟩; have HO472 := Aside0.mk (Kd.V_lower (Kd.V_mono (ok' := fun k_ => k_ ≠ gb467) ho0 (fun k_ hk_ => (fb BK467 k_ hk_))) (below_size bs)); replace BK467 := bb BK467 hb; replace HB := hs HB hb; (try clear hb); (try clear ho0)) | ((with_reducible refine gate_callee (f := 88) rfl ?_); refine goesL_ (some 24) rfl rfl Try.func88 (by kernel_rfl) rfl #[.string a2] rfl ga ?_; (with_reducible refine (corporaref36_Big.calls kj3 a2 t473 _ A14.out).mono ?_); rintro e w17 ⟨v474, rfl, ho0, hb⟩; refine ⟨_, rfl, ?_⟩; replace HO472 := Aside0.mk (Kd.V_below (vl HO472) hb); have HO475 := Aside0.mk (Kd.V_lower (Kd.V_mono (ok' := fun k_ => k_ ≠ gb467) ho0 (fun k_ hk_ => (fb BK467 k_ hk_))) (below_size bs)); replace BK467 := bb BK467 hb; replace HB := hs HB hb; (try clear hb); (try clear ho0); obtain ⟨Ao18, co18, eo18⟩ := Kd.V_slice HO472.out; subst eo18; obtain ⟨Ao19, co19, eo19⟩ := Kd.V_slice HO475.out; subst eo19) | ((with_reducible refine gate_callee (f := 111) rfl ?_); refine goesL_ (some 25) rfl rfl Try.func111 (by kernel_rfl) rfl #[.bool a0, .slice Ao18 t470.length co18, .slice Ao19 t473.length co19] rfl ga ?_; (with_reducible refine (corporaref36_Lowest.calls kj3 a0 _ _ t470 _ _ t473 t476 t477 t478 t479 _ ?side1 ?side2 ?side3 ?side4 A15.out).mono ?_); (case side1 => exact cl ((Kd.V_reads' HO472.out).2.2)); (case side2 => exact (Kd.V_reads' HO472.out).2.1); (case side3 => exact cl ((Kd.V_reads' HO475.out).2.2)); (case side4 => exact (Kd.V_reads' HO475.out).2.1); rintro e w20 ⟨rfl, hb⟩; refine ⟨_, rfl, ?_⟩; replace HO472 := Aside0.mk (Kd.V_below (vl HO472) hb); replace HO475 := Aside0.mk (Kd.V_below (vl HO475) hb); replace BK467 := bb BK467 hb; replace HB := hs HB hb; (try clear hb); obtain ⟨hcz21_0, hcz21_1, hcz21_2, hfz21_0, hfz21_1, hfz21_2⟩ := z3 BK467))
     refine bodyPost_ret (results_ct rfl _ _ gb467 35 #[.bool t476, .string t477, .string t478] (0, 0) _ rfl bw Try.underlying35 rfl (by kernel_rfl)) rfl ?_
     exact ⟨er, bs⟩
end Go.Proofs.Ytccgfmjcldifcaa.P
