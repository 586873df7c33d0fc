/- What each Go function computes, as plain Lean functions, and the walks that show it; each theorem's conditions stand in it. -/
import Derived.Test.YtccgfmjcldifcaaT
import Derived.Test.YtccgfmjcldifcaaCCmp
import Derived.Test.YtccgfmjcldifcaaCMul
import Derived.Test.YtccgfmjcldifcaaCStr
import Derived.Test.YtccgfmjcldifcaaCValid
import Derived.Test.YtccgfmjcldifcaaDA
namespace Go.Proofs.Ytccgfmjcldifcaa.P
open Go.RowKit Go.Proofs.YtccgfmjcldifcaaW.PrintWords Go.Proofs.YtccgfmjcldifcaaW.PrintLast Go.Proofs.YtccgfmjcldifcaaW.PrintMore
attribute [local go_sem] max2_int min2_int max_two min_two max_three min_three max_four min_four   -- for this text's walks alone
set_option linter.unusedVariables false
set_option linter.unusedSimpArgs false

set_option maxHeartbeats 8000000 in
set_option maxRecDepth 100000 in
theorem ratio_NatSub.calls (k : Nat) (a0 : ByteArray) (a1 : ByteArray) (r1 : ByteArray) (r2 : Int) (w : World) (h : ratio_NatSub.f k a0 a1 = some (r1, r2)) :
  Calls Try.prog 33 #[.string a0, .string a1] w fun e w' => e = .returned (.tuple #[.string r1, .int .i64 r2]) ∧ Below w.heap.size w w' := by
 have HB := Aside0.mk (Below.refl w.heap.size w)
 have H : ((ratio_both.f k a0 a1).bind fun bt826 => (if bt826.2.2 = true then ((bignat_Nat_Cmp.f k bt826.1 bt826.2.1).bind fun t833 => (if t833 < 0 then (some ((⟨#[]⟩ : ByteArray), 8)) else ((bignat_Nat_Sub.f k bt826.1 bt826.2.1).bind fun t834 => ((ratio_text.f k t834).bind fun bt837 => (some (bt837.1, bt837.2)))))) else (some ((⟨#[]⟩ : ByteArray), 1)))) = some (r1, r2) := h
 clear h
 replace H := Option.bind_eq_some_iff.mp H
 obtain ⟨⟨t826, t827, t828⟩, A30, H⟩ := H
 replace H : (if t828 = true then ((bignat_Nat_Cmp.f k t826 t827).bind fun t833 => (if t833 < 0 then (some ((⟨#[]⟩ : ByteArray), 8)) else ((bignat_Nat_Sub.f k t826 t827).bind fun t834 => ((ratio_text.f k t834).bind fun bt837 => (some (bt837.1, bt837.2)))))) else (some ((⟨#[]⟩ : ByteArray), 1))) = some (r1, r2) := H
 have A3 := Aside0.mk A30
 clear A30
 by_cases c4 : t828 = true
 ·subst c4
  have H1 : ((bignat_Nat_Cmp.f k t826 t827).bind fun t833 => (if t833 < 0 then (some ((⟨#[]⟩ : ByteArray), 8)) else ((bignat_Nat_Sub.f k t826 t827).bind fun t834 => ((ratio_text.f k t834).bind fun bt837 => (some (bt837.1, bt837.2)))))) = some (r1, r2) := by rw [if_pos rfl] at H; exact H
  clear H
  have H := H1
  clear H1
  replace H := Option.bind_eq_some_iff.mp H
  obtain ⟨t833, A50, H⟩ := H
  replace H : (if t833 < 0 then (some ((⟨#[]⟩ : ByteArray), 8)) else ((bignat_Nat_Sub.f k t826 t827).bind fun t834 => ((ratio_text.f k t834).bind fun bt837 => (some (bt837.1, bt837.2))))) = some (r1, r2) := H
  have A5 := Aside0.mk A50
  clear A50
  by_cases c6 : t833 < 0
  ·rw [if_pos c6] at H
   have c6b0 : decide (t833 < 0) = true := decide_eq_true c6
   clear c6
   simp only [Option.some.injEq, Prod.mk.injEq] at H
   obtain ⟨rfl, rfl⟩ := H
   go_enter Try.func33, Try.ntmps33
   go_wp2_with (first | ((with_reducible refine gate_callee (f := 73) rfl ?_); refine goesL_ (some 12) rfl rfl Try.func73 (by kernel_rfl) rfl #[.string a0, .string a1] rfl ga ?_; (with_reducible refine (ratio_both.calls k a0 a1 t826 t827 true _ A3.out).mono ?_); rintro e w7 ⟨v829, v831, rfl, ho0, ho1, hb⟩; refine ⟨_, rfl, ?_⟩; have HO830 := Aside0.mk (Kd.R_lower ho0 (below_size (by first | exact bl HB | exact HB.out))); have HO832 := Aside0.mk (Kd.R_lower ho1 (below_size (by first | exact bl HB | exact HB.out))); replace HB := Aside0.mk (below_step (by first | exact bl HB | exact HB.out) hb); (try clear hb); (try clear hb2); (try clear hk); (try clear hi); (try clear ho0); (try clear ho1); obtain ⟨Ao8, co8, eo8⟩ := Kd.R_slice HO830.out; subst eo8; obtain ⟨Ao9, co9, eo9⟩ := Kd.R_slice HO832.out; subst eo9) | ((with_reducible refine gate_callee (f := 94) rfl ?_); refine goesL_ (some 20) rfl rfl Try.func94 (by kernel_rfl) rfl #[.slice Ao8 t826.length co8, .slice Ao9 t827.length co9] rfl ga ?_; (with_reducible refine (bignat_Nat_Cmp.calls k _ _ t826 _ _ t827 t833 _ ?side1 ?side2 ?side3 ?side4 A5.out).mono ?_); (case side1 => exact cl ((Kd.R_reads' HO830.out).2.2)); (case side2 => exact (Kd.R_reads' HO830.out).2.1); (case side3 => exact cl ((Kd.R_reads' HO832.out).2.2)); (case side4 => exact (Kd.R_reads' HO832.out).2.1); rintro e w' ⟨rfl, ⟨nd, rfl⟩⟩; refine ⟨_, rfl, ?_⟩))
   go_ret2
   exact ⟨by first | rfl | (simp [errW_none, errW_some] <;> rfl) | (simp [*, errW_none, errW_some] <;> rfl), by first | exact bl HB | exact HB.out⟩
  ·rw [if_neg c6] at H
   have c6b0 : decide (t833 < 0) = false := decide_eq_false c6
   clear c6
   replace H := Option.bind_eq_some_iff.mp H
   obtain ⟨t834, A100, H⟩ := H
   replace H : ((ratio_text.f k t834).bind fun bt837 => (some (bt837.1, bt837.2))) = some (r1, r2) := H
   have A10 := Aside0.mk A100
   clear A100
   replace H := Option.bind_eq_some_iff.mp H
   obtain ⟨⟨t837, t838⟩, A110, H⟩ := H
   replace H : (some (t837, t838)) = some (r1, r2) := H
   have A11 := Aside0.mk A110
   clear A110
   simp only [Option.some.injEq, Prod.mk.injEq] at H
   obtain ⟨rfl, rfl⟩ := H
   go_enter Try.func33, Try.ntmps33
   go_wp2_with (first | ((with_reducible refine gate_callee (f := 73) rfl ?_); refine goesL_ (some 12) rfl rfl Try.func73 (by kernel_rfl) rfl #[.string a0, .string a1] rfl ga ?_; (with_reducible refine (ratio_both.calls k a0 a1 t826 t827 true _ A3.out).mono ?_); rintro e w12 ⟨v829, v831, rfl, ho0, ho1, hb⟩; refine ⟨_, rfl, ?_⟩; have HO830 := Aside0.mk (Kd.R_lower ho0 (below_size (by first | exact bl HB | exact HB.out))); have HO832 := Aside0.mk (Kd.R_lower ho1 (below_size (by first | exact bl HB | exact HB.out))); replace HB := Aside0.mk (below_step (by first | exact bl HB | exact HB.out) hb); (try clear hb); (try clear hb2); (try clear hk); (try clear hi); (try clear ho0); (try clear ho1); obtain ⟨Ao13, co13, eo13⟩ := Kd.R_slice HO830.out; subst eo13; obtain ⟨Ao14, co14, eo14⟩ := Kd.R_slice HO832.out; subst eo14) | ((with_reducible refine gate_callee (f := 94) rfl ?_); refine goesL_ (some 20) rfl rfl Try.func94 (by kernel_rfl) rfl #[.slice Ao13 t826.length co13, .slice Ao14 t827.length co14] rfl ga ?_; (with_reducible refine (bignat_Nat_Cmp.calls k _ _ t826 _ _ t827 t833 _ ?side1 ?side2 ?side3 ?side4 A5.out).mono ?_); (case side1 => exact cl ((Kd.R_reads' HO830.out).2.2)); (case side2 => exact (Kd.R_reads' HO830.out).2.1); (case side3 => exact cl ((Kd.R_reads' HO832.out).2.2)); (case side4 => exact (Kd.R_reads' HO832.out).2.1); rintro e w' ⟨rfl, ⟨nd, rfl⟩⟩; refine ⟨_, rfl, ?_⟩) | ((with_reducible refine gate_callee (f := 96) rfl ?_); refine goesL_ (some 24) rfl rfl Try.func96 (by kernel_rfl) rfl #[.slice Ao13 t826.length co13, .slice Ao14 t827.length co14] rfl ga ?_; (with_reducible refine (bignat_Nat_Sub.calls k _ _ t826 _ _ t827 t834 _ ?side1 ?side2 ?side3 ?side4 A10.out).mono ?_); (case side1 => exact cl ((Kd.R_reads' HO830.out).2.2)); (case side2 => exact (Kd.R_reads' HO830.out).2.1); (case side3 => exact cl ((Kd.R_reads' HO832.out).2.2)); (case side4 => exact (Kd.R_reads' HO832.out).2.1); rintro e w15 ⟨v835, rfl, ho0, hb⟩; refine ⟨_, rfl, ?_⟩; have HO836 := Aside0.mk (Kd.V_lower (Kd.V_mono (ok' := fun k_ => some k_ ≠ (.slice Ao13 t826.length co13 : Value).ownBlock ∧ some k_ ≠ (.slice Ao14 t827.length co14 : Value).ownBlock) ho0 (fun k_ hk_ => ⟨(Kd.fresh' (Kd.R_lt (by exact rl HO830)) k_ hk_), (Kd.fresh' (Kd.R_lt (by exact rl HO832)) k_ hk_)⟩)) (below_size (by first | exact bl HB | exact HB.out))); replace HO830 := Aside0.mk (Kd.R_below (by exact rl HO830) hb); replace HO832 := Aside0.mk (Kd.R_below (by exact rl HO832) hb); replace HB := Aside0.mk (below_step (by first | exact bl HB | exact HB.out) hb); (try clear hb); (try clear hb2); (try clear hk); (try clear hi); (try clear ho0); obtain ⟨Ao16, co16, eo16⟩ := Kd.V_slice HO836.out; subst eo16) | ((with_reducible refine gate_callee (f := 95) rfl ?_); refine goesL_ (some 25) rfl rfl Try.func95 (by kernel_rfl) rfl #[.slice Ao16 t834.length co16] rfl ga ?_; (with_reducible refine (ratio_text.calls k _ _ t834 t837 t838 _ ?side1 ?side2 A11.out).mono ?_); (case side1 => exact cl ((Kd.V_reads' HO836.out).2.2)); (case side2 => exact (Kd.V_reads' HO836.out).2.1); rintro e w17 ⟨rfl, hb⟩; refine ⟨_, rfl, ?_⟩; replace HO830 := Aside0.mk (Kd.R_below (by exact rl HO830) hb); replace HO832 := Aside0.mk (Kd.R_below (by exact rl HO832) hb); replace HO836 := Aside0.mk (Kd.V_below (by exact vl HO836) hb); replace HB := Aside0.mk (below_step (by first | exact bl HB | exact HB.out) hb); (try clear hb); (try clear hb2); (try clear hk); (try clear hi)))
   go_ret2
   exact ⟨by first | rfl | (simp [errW_none, errW_some] <;> rfl) | (simp [*, errW_none, errW_some] <;> rfl), by first | exact bl HB | exact HB.out⟩
 ·replace c4 := Bool.eq_false_iff.mpr c4
  subst c4
  have H1 : (some ((⟨#[]⟩ : ByteArray), 1)) = some (r1, r2) := by rw [if_neg (show ¬ (false = true) by decide)] at H; exact H
  clear H
  have H := H1
  clear H1
  simp only [Option.some.injEq, Prod.mk.injEq] at H
  obtain ⟨rfl, rfl⟩ := H
  go_enter Try.func33, Try.ntmps33
  go_wp2_with (first | ((with_reducible refine gate_callee (f := 73) rfl ?_); refine goesL_ (some 12) rfl rfl Try.func73 (by kernel_rfl) rfl #[.string a0, .string a1] rfl ga ?_; (with_reducible refine (ratio_both.calls k a0 a1 t826 t827 false _ A3.out).mono ?_); rintro e w18 ⟨v829, v831, rfl, ho0, ho1, hb⟩; refine ⟨_, rfl, ?_⟩; have HO830 := Aside0.mk (Kd.R_lower ho0 (below_size (by first | exact bl HB | exact HB.out))); have HO832 := Aside0.mk (Kd.R_lower ho1 (below_size (by first | exact bl HB | exact HB.out))); replace HB := Aside0.mk (below_step (by first | exact bl HB | exact HB.out) hb); (try clear hb); (try clear hb2); (try clear hk); (try clear hi); (try clear ho0); (try clear ho1)))
  go_ret2
  exact ⟨by first | rfl | (simp [errW_none, errW_some] <;> rfl) | (simp [*, errW_none, errW_some] <;> rfl), by first | exact bl HB | exact HB.out⟩

end Go.Proofs.Ytccgfmjcldifcaa.P
