/- Walks of Go functions: what they compute; each theorem's conditions stand in it. -/
import Derived.Test.YtccgfmjcldifcaaT
import Derived.Test.YtccgfmjcldifcaaCMake
import Derived.Test.YtccgfmjcldifcaaCNatDiv
import Derived.Test.YtccgfmjcldifcaaDA
namespace Go.Proofs.Ytccgfmjcldifcaa.P
open Go.RowKit Go.Proofs.YtccgfmjcldifcaaW.PrintWords Go.Proofs.YtccgfmjcldifcaaW.PrintLast Go.Proofs.YtccgfmjcldifcaaW.PrintMore
attribute [local go_sem] max2_int min2_int max_two min_two max_three min_three max_four min_four
set_option linter.unusedVariables false
set_option linter.unusedSimpArgs false
attribute [local go_sem high] eqA35
set_option maxHeartbeats 8000000 in
set_option maxRecDepth 100000 in
theorem corporalaw36_known.calls (k : Nat)  (r : Bool) (w : World) (h : corporalaw36_known.f k  = some r) :
  Calls Try.prog 19 #[] w fun e w' => e = .returned (.bool r) ∧ Below w.heap.size w w' := by
 have hu35 := Try.underlying35
 have HB := Aside0.mk (Below.refl w.heap.size w)
 have H : Option.bind (ratio_Make.f k (-6) 4) _ = _ := h
 clear h
 replace H := Option.bind_eq_some_iff.mp H
 obtain ⟨⟨t303, t304, t305, t306⟩, A10, H⟩ := H
 replace H : Option.bind (ratio_NatDiv.f k (⟨#[49, 48, 48]⟩ : ByteArray) (⟨#[55]⟩ : ByteArray)) _ = _ := H
 have A1 := Aside0.mk A10
 clear A10
 replace H := Option.bind_eq_some_iff.mp H
 obtain ⟨⟨t308, t309, t310⟩, A20, H⟩ := H
 replace H : (if t306 = 0 then _ else _) = _ := H
 have A2 := Aside0.mk A20
 clear A20
 by_cases c3 : t306 = 0
 ·rw [if_pos c3] at H
  have c3b0 : (t306 == 0) = true := beq_iff_eq.mpr c3
  have c3b1 : (t306 != 0) = false := bne_eq_false_iff_eq.mpr c3
  clear c3
  by_cases c4 : (t303 && (t304.toList == ([51] : List UInt8) && (t305.toList == ([50] : List UInt8)))) = true
  ·rw [if_pos c4] at H
   have c4b0 : (t303 && (t304.toList == ([51] : List UInt8) && (t305.toList == ([50] : List UInt8)))) = true := c4
   clear c4
   by_cases c5 : t310 = 0
   ·rw [if_pos c5] at H
    have c5b0 : (t310 == 0) = true := beq_iff_eq.mpr c5
    have c5b1 : (t310 != 0) = false := bne_eq_false_iff_eq.mpr c5
    clear c5
    by_cases c6 : t308.toList = ([49, 52] : List UInt8)
    ·rw [if_pos c6] at H
     have c6b0 : (t308.toList == ([49, 52] : List UInt8)) = true := beq_iff_eq.mpr c6
     have c6b1 : (t308.toList != ([49, 52] : List UInt8)) = false := bne_eq_false_iff_eq.mpr c6
     clear c6
     obtain rfl := Option.some.inj H
     go_enter Try.func19, Try.ntmps19
     go_wp2_with (first | ((with_reducible refine gate_callee (f := 76) rfl ?_); refine goesL_ (some 7) rfl rfl Try.func76 (by kernel_rfl) rfl #[.int .i64 (-6), .int .i64 4] rfl ga ?_; (with_reducible refine (ratio_Make.calls k (-6) 4 t303 t304 t305 t306 _ A1.out).mono ?_); rintro e w7 ⟨rfl, hb⟩; refine ⟨_, rfl, ?_⟩; replace HB := hs HB hb; (try clear hb)) | ((with_reducible refine gate_dst (N := 1) rfl ?_); refine be (N := 1) (cs := #[.bool false, .string (⟨#[]⟩ : ByteArray), .string (⟨#[]⟩ : ByteArray)]) (t := 35) ?_; intro gb307 hg w8 hbox hb; have BK307 := Aside0.mk (hbox); have GW307 := gw HB hg; have GE307 := GW307; replace HB := hs HB hb; clear hb hbox hg; obtain ⟨hcz9_0, hcz9_1, hcz9_2, hfz9_0, hfz9_1, hfz9_2⟩ := z3 BK307) | ((with_reducible refine gate_callee (f := 18) rfl ?_); refine goesL_ (some 11) rfl rfl Try.func18 (by kernel_rfl) rfl #[.string (⟨#[49, 48, 48]⟩ : ByteArray), .string (⟨#[55]⟩ : ByteArray)] rfl ga ?_; (with_reducible refine (ratio_NatDiv.calls k (⟨#[49, 48, 48]⟩ : ByteArray) (⟨#[55]⟩ : ByteArray) t308 t309 t310 _ A2.out).mono ?_); rintro e w10 ⟨rfl, hb⟩; refine ⟨_, rfl, ?_⟩; replace BK307 := bq BK307 #[.bool t303, .string t304, .string t305] hb; replace HB := hs HB hb; (try clear hb); obtain ⟨hcz11_0, hcz11_1, hcz11_2, hfz11_0, hfz11_1, hfz11_2⟩ := z3 BK307))
     go_ret
     exact ⟨er, bs⟩
    ·rw [if_neg c6] at H
     have c6b0 : (t308.toList == ([49, 52] : List UInt8)) = false := beq_eq_false_iff_ne.mpr c6
     have c6b1 : (t308.toList != ([49, 52] : List UInt8)) = true := bne_iff_ne.mpr c6
     obtain rfl := Option.some.inj H
     go_enter Try.func19, Try.ntmps19
     go_wp2_with (first | ((with_reducible refine gate_callee (f := 76) rfl ?_); refine goesL_ (some 7) rfl rfl Try.func76 (by kernel_rfl) rfl #[.int .i64 (-6), .int .i64 4] rfl ga ?_; (with_reducible refine (ratio_Make.calls k (-6) 4 t303 t304 t305 t306 _ A1.out).mono ?_); rintro e w12 ⟨rfl, hb⟩; refine ⟨_, rfl, ?_⟩; replace HB := hs HB hb; (try clear hb)) | ((with_reducible refine gate_dst (N := 1) rfl ?_); refine be (N := 1) (cs := #[.bool false, .string (⟨#[]⟩ : ByteArray), .string (⟨#[]⟩ : ByteArray)]) (t := 35) ?_; intro gb307 hg w13 hbox hb; have BK307 := Aside0.mk (hbox); have GW307 := gw HB hg; have GE307 := GW307; replace HB := hs HB hb; clear hb hbox hg; obtain ⟨hcz14_0, hcz14_1, hcz14_2, hfz14_0, hfz14_1, hfz14_2⟩ := z3 BK307) | ((with_reducible refine gate_callee (f := 18) rfl ?_); refine goesL_ (some 11) rfl rfl Try.func18 (by kernel_rfl) rfl #[.string (⟨#[49, 48, 48]⟩ : ByteArray), .string (⟨#[55]⟩ : ByteArray)] rfl ga ?_; (with_reducible refine (ratio_NatDiv.calls k (⟨#[49, 48, 48]⟩ : ByteArray) (⟨#[55]⟩ : ByteArray) t308 t309 t310 _ A2.out).mono ?_); rintro e w15 ⟨rfl, hb⟩; refine ⟨_, rfl, ?_⟩; replace BK307 := bq BK307 #[.bool t303, .string t304, .string t305] hb; replace HB := hs HB hb; (try clear hb); obtain ⟨hcz16_0, hcz16_1, hcz16_2, hfz16_0, hfz16_1, hfz16_2⟩ := z3 BK307))
     go_ret
     exact ⟨er, bs⟩
   ·rw [if_neg c5] at H
    have c5b0 : (t310 == 0) = false := beq_eq_false_iff_ne.mpr c5
    have c5b1 : (t310 != 0) = true := bne_iff_ne.mpr c5
    obtain rfl := Option.some.inj H
    go_enter Try.func19, Try.ntmps19
    go_wp2_with (first | ((with_reducible refine gate_callee (f := 76) rfl ?_); refine goesL_ (some 7) rfl rfl Try.func76 (by kernel_rfl) rfl #[.int .i64 (-6), .int .i64 4] rfl ga ?_; (with_reducible refine (ratio_Make.calls k (-6) 4 t303 t304 t305 t306 _ A1.out).mono ?_); rintro e w17 ⟨rfl, hb⟩; refine ⟨_, rfl, ?_⟩; replace HB := hs HB hb; (try clear hb)) | ((with_reducible refine gate_dst (N := 1) rfl ?_); refine be (N := 1) (cs := #[.bool false, .string (⟨#[]⟩ : ByteArray), .string (⟨#[]⟩ : ByteArray)]) (t := 35) ?_; intro gb307 hg w18 hbox hb; have BK307 := Aside0.mk (hbox); have GW307 := gw HB hg; have GE307 := GW307; replace HB := hs HB hb; clear hb hbox hg; obtain ⟨hcz19_0, hcz19_1, hcz19_2, hfz19_0, hfz19_1, hfz19_2⟩ := z3 BK307) | ((with_reducible refine gate_callee (f := 18) rfl ?_); refine goesL_ (some 11) rfl rfl Try.func18 (by kernel_rfl) rfl #[.string (⟨#[49, 48, 48]⟩ : ByteArray), .string (⟨#[55]⟩ : ByteArray)] rfl ga ?_; (with_reducible refine (ratio_NatDiv.calls k (⟨#[49, 48, 48]⟩ : ByteArray) (⟨#[55]⟩ : ByteArray) t308 t309 t310 _ A2.out).mono ?_); rintro e w20 ⟨rfl, hb⟩; refine ⟨_, rfl, ?_⟩; replace BK307 := bq BK307 #[.bool t303, .string t304, .string t305] hb; replace HB := hs HB hb; (try clear hb); obtain ⟨hcz21_0, hcz21_1, hcz21_2, hfz21_0, hfz21_1, hfz21_2⟩ := z3 BK307))
    go_ret
    exact ⟨er, bs⟩
  ·rw [if_neg c4] at H
   have c4b0 : (t303 && (t304.toList == ([51] : List UInt8) && (t305.toList == ([50] : List UInt8)))) = false := by simpa using c4
   clear c4
   obtain rfl := Option.some.inj H
   go_enter Try.func19, Try.ntmps19
   go_wp2_with (first | ((with_reducible refine gate_callee (f := 76) rfl ?_); refine goesL_ (some 7) rfl rfl Try.func76 (by kernel_rfl) rfl #[.int .i64 (-6), .int .i64 4] rfl ga ?_; (with_reducible refine (ratio_Make.calls k (-6) 4 t303 t304 t305 t306 _ A1.out).mono ?_); rintro e w22 ⟨rfl, hb⟩; refine ⟨_, rfl, ?_⟩; replace HB := hs HB hb; (try clear hb)) | ((with_reducible refine gate_dst (N := 1) rfl ?_); refine be (N := 1) (cs := #[.bool false, .string (⟨#[]⟩ : ByteArray), .string (⟨#[]⟩ : ByteArray)]) (t := 35) ?_; intro gb307 hg w23 hbox hb; have BK307 := Aside0.mk (hbox); have GW307 := gw HB hg; have GE307 := GW307; replace HB := hs HB hb; clear hb hbox hg; obtain ⟨hcz24_0, hcz24_1, hcz24_2, hfz24_0, hfz24_1, hfz24_2⟩ := z3 BK307) | ((with_reducible refine gate_callee (f := 18) rfl ?_); refine goesL_ (some 11) rfl rfl Try.func18 (by kernel_rfl) rfl #[.string (⟨#[49, 48, 48]⟩ : ByteArray), .string (⟨#[55]⟩ : ByteArray)] rfl ga ?_; (with_reducible refine (ratio_NatDiv.calls k (⟨#[49, 48, 48]⟩ : ByteArray) (⟨#[55]⟩ : ByteArray) t308 t309 t310 _ A2.out).mono ?_); rintro e w25 ⟨rfl, hb⟩; refine ⟨_, rfl, ?_⟩; replace BK307 := bq BK307 #[.bool t303, .string t304, .string t305] hb; replace HB := hs HB hb; (try clear hb); obtain ⟨hcz26_0, hcz26_1, hcz26_2, hfz26_0, hfz26_1, hfz26_2⟩ := z3 BK307))
   go_ret
   exact ⟨er, bs⟩
 ·rw [if_neg c3] at H
  have c3b0 : (t306 == 0) = false := beq_eq_false_iff_ne.mpr c3
  have c3b1 : (t306 != 0) = true := bne_iff_ne.mpr c3
  obtain rfl := Option.some.inj H
  go_enter Try.func19, Try.ntmps19
  go_wp2_with (first | ((with_reducible refine gate_callee (f := 76) rfl ?_); refine goesL_ (some 7) rfl rfl Try.func76 (by kernel_rfl) rfl #[.int .i64 (-6), .int .i64 4] rfl ga ?_; (with_reducible refine (ratio_Make.calls k (-6) 4 t303 t304 t305 t306 _ A1.out).mono ?_); rintro e w27 ⟨rfl, hb⟩; refine ⟨_, rfl, ?_⟩; replace HB := hs HB hb; (try clear hb)) | ((with_reducible refine gate_dst (N := 1) rfl ?_); refine be (N := 1) (cs := #[.bool false, .string (⟨#[]⟩ : ByteArray), .string (⟨#[]⟩ : ByteArray)]) (t := 35) ?_; intro gb307 hg w28 hbox hb; have BK307 := Aside0.mk (hbox); have GW307 := gw HB hg; have GE307 := GW307; replace HB := hs HB hb; clear hb hbox hg; obtain ⟨hcz29_0, hcz29_1, hcz29_2, hfz29_0, hfz29_1, hfz29_2⟩ := z3 BK307) | ((with_reducible refine gate_callee (f := 18) rfl ?_); refine goesL_ (some 11) rfl rfl Try.func18 (by kernel_rfl) rfl #[.string (⟨#[49, 48, 48]⟩ : ByteArray), .string (⟨#[55]⟩ : ByteArray)] rfl ga ?_; (with_reducible refine (ratio_NatDiv.calls k (⟨#[49, 48, 48]⟩ : ByteArray) (⟨#[55]⟩ : ByteArray) t308 t309 t310 _ A2.out).mono ?_); rintro e w30 ⟨rfl, hb⟩; refine ⟨_, rfl, ?_⟩; replace BK307 := bq BK307 #[.bool t303, .string t304, .string t305] hb; replace HB := hs HB hb; (try clear hb)))
  go_ret
  exact ⟨er, bs⟩
end Go.Proofs.Ytccgfmjcldifcaa.P
