/- Walks of Go functions: what they compute; each theorem's conditions stand in it. -/
import Derived.Test.YtccgfmjcldifcaaT
import Derived.Test.YtccgfmjcldifcaaCLog
import Derived.Test.YtccgfmjcldifcaaDE
namespace Go.Proofs.Ytccgfmjcldifcaa.P
open Go.RowKit Go.Proofs.YtccgfmjcldifcaaW.PrintWords Go.Proofs.YtccgfmjcldifcaaW.PrintLast Go.Proofs.YtccgfmjcldifcaaW.PrintMore
attribute [local go_sem] max2_int min2_int max_two min_two max_three min_three max_four min_four
set_option linter.unusedVariables false
set_option linter.unusedSimpArgs false
set_option maxHeartbeats 8000000 in
set_option maxRecDepth 100000 in
theorem corporalaw37_known.calls (k : Nat)  (r : Bool) (w : World) (h : corporalaw37_known.f k  = some r) :
  Calls Try.prog 28 #[] w fun e w' => e = .returned (.bool r) ∧ Below w.heap.size w w' := by
 have hu35 := Try.underlying35
 have HB := Aside0.mk (Below.refl w.heap.size w)
 have H : Option.bind (enclose_Log.f k false (⟨#[51]⟩ : ByteArray) (⟨#[49]⟩ : ByteArray) 4) _ = _ := h
 clear h
 replace H := Option.bind_eq_some_iff.mp H
 obtain ⟨⟨t586, t587, t588⟩, A10, H⟩ := H
 replace H : Option.bind (enclose_Log.f k false (⟨#[56]⟩ : ByteArray) (⟨#[49]⟩ : ByteArray) 2) _ = _ := H
 have A1 := Aside0.mk A10
 clear A10
 replace H := Option.bind_eq_some_iff.mp H
 obtain ⟨⟨t589, t590, t591⟩, A20, H⟩ := H
 replace H : (if t588 = 0 then _ else _) = _ := H
 have A2 := Aside0.mk A20
 clear A20
 by_cases c3 : t588 = 0
 ·rw [if_pos c3] at H
  have c3b0 : (t588 == 0) = true := beq_iff_eq.mpr c3
  have c3b1 : (t588 != 0) = false := bne_eq_false_iff_eq.mpr c3
  clear c3
  by_cases c4 : t586 = 25
  ·rw [if_pos c4] at H
   have c4b0 : (t586 == 25) = true := beq_iff_eq.mpr c4
   have c4b1 : (t586 != 25) = false := bne_eq_false_iff_eq.mpr c4
   clear c4
   by_cases c5 : t587 = true
   ·subst c5
    have H1 : (some false) = some r := by rw [if_pos rfl] at H; exact H
    clear H
    have H := H1
    clear H1
    obtain rfl := Option.some.inj H
    go_enter Try.func28, Try.ntmps28
    go_wp2_with (first | ((with_reducible refine gate_callee (f := 27) rfl ?_); refine goesL_ (some 9) rfl rfl Try.func27 (by kernel_rfl) rfl #[.agg #[.bool false, .string (⟨#[51]⟩ : ByteArray), .string (⟨#[49]⟩ : ByteArray)], .int .i64 4] rfl ga ?_; (with_reducible refine (enclose_Log.calls k false (⟨#[51]⟩ : ByteArray) (⟨#[49]⟩ : ByteArray) 4 t586 true t588 _ A1.out).mono ?_); rintro e w6 ⟨rfl, hb⟩; refine ⟨_, rfl, ?_⟩; replace HB := hs HB hb; (try clear hb)) | ((with_reducible refine gate_callee (f := 27) rfl ?_); refine goesL_ (some 15) rfl rfl Try.func27 (by kernel_rfl) rfl #[.agg #[.bool false, .string (⟨#[56]⟩ : ByteArray), .string (⟨#[49]⟩ : ByteArray)], .int .i64 2] rfl ga ?_; (with_reducible refine (enclose_Log.calls k false (⟨#[56]⟩ : ByteArray) (⟨#[49]⟩ : ByteArray) 2 t589 t590 t591 _ A2.out).mono ?_); rintro e w7 ⟨rfl, hb⟩; refine ⟨_, rfl, ?_⟩; replace HB := hs HB hb; (try clear hb)))
    go_ret
    exact ⟨er, by first | exact bl HB | exact HB.out⟩
   ·replace c5 := Bool.eq_false_iff.mpr c5
    subst c5
    have H1 : (if t591 = 0 then _ else _) = _ := (if_neg (show ¬ (false = true) by decide)).symm.trans H
    clear H
    have H := H1
    clear H1
    by_cases c8 : t591 = 0
    ·rw [if_pos c8] at H
     have c8b0 : (t591 == 0) = true := beq_iff_eq.mpr c8
     have c8b1 : (t591 != 0) = false := bne_eq_false_iff_eq.mpr c8
     clear c8
     by_cases c9 : t589 = 12
     ·rw [if_pos c9] at H
      have c9b0 : (t589 == 12) = true := beq_iff_eq.mpr c9
      have c9b1 : (t589 != 12) = false := bne_eq_false_iff_eq.mpr c9
      clear c9
      obtain rfl := Option.some.inj H
      go_enter Try.func28, Try.ntmps28
      go_wp2_with (first | ((with_reducible refine gate_callee (f := 27) rfl ?_); refine goesL_ (some 9) rfl rfl Try.func27 (by kernel_rfl) rfl #[.agg #[.bool false, .string (⟨#[51]⟩ : ByteArray), .string (⟨#[49]⟩ : ByteArray)], .int .i64 4] rfl ga ?_; (with_reducible refine (enclose_Log.calls k false (⟨#[51]⟩ : ByteArray) (⟨#[49]⟩ : ByteArray) 4 t586 false t588 _ A1.out).mono ?_); rintro e w10 ⟨rfl, hb⟩; refine ⟨_, rfl, ?_⟩; replace HB := hs HB hb; (try clear hb)) | ((with_reducible refine gate_callee (f := 27) rfl ?_); refine goesL_ (some 15) rfl rfl Try.func27 (by kernel_rfl) rfl #[.agg #[.bool false, .string (⟨#[56]⟩ : ByteArray), .string (⟨#[49]⟩ : ByteArray)], .int .i64 2] rfl ga ?_; (with_reducible refine (enclose_Log.calls k false (⟨#[56]⟩ : ByteArray) (⟨#[49]⟩ : ByteArray) 2 t589 t590 t591 _ A2.out).mono ?_); rintro e w11 ⟨rfl, hb⟩; refine ⟨_, rfl, ?_⟩; replace HB := hs HB hb; (try clear hb)))
      go_ret
      exact ⟨er, by first | exact bl HB | exact HB.out⟩
     ·rw [if_neg c9] at H
      have c9b0 : (t589 == 12) = false := beq_eq_false_iff_ne.mpr c9
      have c9b1 : (t589 != 12) = true := bne_iff_ne.mpr c9
      obtain rfl := Option.some.inj H
      go_enter Try.func28, Try.ntmps28
      go_wp2_with (first | ((with_reducible refine gate_callee (f := 27) rfl ?_); refine goesL_ (some 9) rfl rfl Try.func27 (by kernel_rfl) rfl #[.agg #[.bool false, .string (⟨#[51]⟩ : ByteArray), .string (⟨#[49]⟩ : ByteArray)], .int .i64 4] rfl ga ?_; (with_reducible refine (enclose_Log.calls k false (⟨#[51]⟩ : ByteArray) (⟨#[49]⟩ : ByteArray) 4 t586 false t588 _ A1.out).mono ?_); rintro e w12 ⟨rfl, hb⟩; refine ⟨_, rfl, ?_⟩; replace HB := hs HB hb; (try clear hb)) | ((with_reducible refine gate_callee (f := 27) rfl ?_); refine goesL_ (some 15) rfl rfl Try.func27 (by kernel_rfl) rfl #[.agg #[.bool false, .string (⟨#[56]⟩ : ByteArray), .string (⟨#[49]⟩ : ByteArray)], .int .i64 2] rfl ga ?_; (with_reducible refine (enclose_Log.calls k false (⟨#[56]⟩ : ByteArray) (⟨#[49]⟩ : ByteArray) 2 t589 t590 t591 _ A2.out).mono ?_); rintro e w13 ⟨rfl, hb⟩; refine ⟨_, rfl, ?_⟩; replace HB := hs HB hb; (try clear hb)))
      go_ret
      exact ⟨er, by first | exact bl HB | exact HB.out⟩
    ·rw [if_neg c8] at H
     have c8b0 : (t591 == 0) = false := beq_eq_false_iff_ne.mpr c8
     have c8b1 : (t591 != 0) = true := bne_iff_ne.mpr c8
     obtain rfl := Option.some.inj H
     go_enter Try.func28, Try.ntmps28
     go_wp2_with (first | ((with_reducible refine gate_callee (f := 27) rfl ?_); refine goesL_ (some 9) rfl rfl Try.func27 (by kernel_rfl) rfl #[.agg #[.bool false, .string (⟨#[51]⟩ : ByteArray), .string (⟨#[49]⟩ : ByteArray)], .int .i64 4] rfl ga ?_; (with_reducible refine (enclose_Log.calls k false (⟨#[51]⟩ : ByteArray) (⟨#[49]⟩ : ByteArray) 4 t586 false t588 _ A1.out).mono ?_); rintro e w14 ⟨rfl, hb⟩; refine ⟨_, rfl, ?_⟩; replace HB := hs HB hb; (try clear hb)) | ((with_reducible refine gate_callee (f := 27) rfl ?_); refine goesL_ (some 15) rfl rfl Try.func27 (by kernel_rfl) rfl #[.agg #[.bool false, .string (⟨#[56]⟩ : ByteArray), .string (⟨#[49]⟩ : ByteArray)], .int .i64 2] rfl ga ?_; (with_reducible refine (enclose_Log.calls k false (⟨#[56]⟩ : ByteArray) (⟨#[49]⟩ : ByteArray) 2 t589 t590 t591 _ A2.out).mono ?_); rintro e w15 ⟨rfl, hb⟩; refine ⟨_, rfl, ?_⟩; replace HB := hs HB hb; (try clear hb)))
     go_ret
     exact ⟨er, by first | exact bl HB | exact HB.out⟩
  ·rw [if_neg c4] at H
   have c4b0 : (t586 == 25) = false := beq_eq_false_iff_ne.mpr c4
   have c4b1 : (t586 != 25) = true := bne_iff_ne.mpr c4
   obtain rfl := Option.some.inj H
   go_enter Try.func28, Try.ntmps28
   go_wp2_with (first | ((with_reducible refine gate_callee (f := 27) rfl ?_); refine goesL_ (some 9) rfl rfl Try.func27 (by kernel_rfl) rfl #[.agg #[.bool false, .string (⟨#[51]⟩ : ByteArray), .string (⟨#[49]⟩ : ByteArray)], .int .i64 4] rfl ga ?_; (with_reducible refine (enclose_Log.calls k false (⟨#[51]⟩ : ByteArray) (⟨#[49]⟩ : ByteArray) 4 t586 t587 t588 _ A1.out).mono ?_); rintro e w16 ⟨rfl, hb⟩; refine ⟨_, rfl, ?_⟩; replace HB := hs HB hb; (try clear hb)) | ((with_reducible refine gate_callee (f := 27) rfl ?_); refine goesL_ (some 15) rfl rfl Try.func27 (by kernel_rfl) rfl #[.agg #[.bool false, .string (⟨#[56]⟩ : ByteArray), .string (⟨#[49]⟩ : ByteArray)], .int .i64 2] rfl ga ?_; (with_reducible refine (enclose_Log.calls k false (⟨#[56]⟩ : ByteArray) (⟨#[49]⟩ : ByteArray) 2 t589 t590 t591 _ A2.out).mono ?_); rintro e w17 ⟨rfl, hb⟩; refine ⟨_, rfl, ?_⟩; replace HB := hs HB hb; (try clear hb)))
   go_ret
   exact ⟨er, by first | exact bl HB | exact HB.out⟩
 ·rw [if_neg c3] at H
  have c3b0 : (t588 == 0) = false := beq_eq_false_iff_ne.mpr c3
  have c3b1 : (t588 != 0) = true := bne_iff_ne.mpr c3
  obtain rfl := Option.some.inj H
  go_enter Try.func28, Try.ntmps28
  go_wp2_with (first | ((with_reducible refine gate_callee (f := 27) rfl ?_); refine goesL_ (some 9) rfl rfl Try.func27 (by kernel_rfl) rfl #[.agg #[.bool false, .string (⟨#[51]⟩ : ByteArray), .string (⟨#[49]⟩ : ByteArray)], .int .i64 4] rfl ga ?_; (with_reducible refine (enclose_Log.calls k false (⟨#[51]⟩ : ByteArray) (⟨#[49]⟩ : ByteArray) 4 t586 t587 t588 _ A1.out).mono ?_); rintro e w18 ⟨rfl, hb⟩; refine ⟨_, rfl, ?_⟩; replace HB := hs HB hb; (try clear hb)) | ((with_reducible refine gate_callee (f := 27) rfl ?_); refine goesL_ (some 15) rfl rfl Try.func27 (by kernel_rfl) rfl #[.agg #[.bool false, .string (⟨#[56]⟩ : ByteArray), .string (⟨#[49]⟩ : ByteArray)], .int .i64 2] rfl ga ?_; (with_reducible refine (enclose_Log.calls k false (⟨#[56]⟩ : ByteArray) (⟨#[49]⟩ : ByteArray) 2 t589 t590 t591 _ A2.out).mono ?_); rintro e w19 ⟨rfl, hb⟩; refine ⟨_, rfl, ?_⟩; replace HB := hs HB hb; (try clear hb)))
  go_ret
  exact ⟨er, by first | exact bl HB | exact HB.out⟩
end Go.Proofs.Ytccgfmjcldifcaa.P
