/- What each Go function computes, as plain Lean functions, and the walks that show it; each theorem's conditions stand in it. -/
import Derived.Test.YtccgfmjcldifcaaT
import Derived.Test.YtccgfmjcldifcaaCRBig
import Derived.Test.YtccgfmjcldifcaaCRDiv
import Derived.Test.YtccgfmjcldifcaaCRText
import Derived.Test.YtccgfmjcldifcaaCRTimes
import Derived.Test.YtccgfmjcldifcaaDB
namespace Go.Proofs.Ytccgfmjcldifcaa.P
open Go.RowKit Go.Proofs.YtccgfmjcldifcaaW.PrintWords Go.Proofs.YtccgfmjcldifcaaW.PrintLast Go.Proofs.YtccgfmjcldifcaaW.PrintMore
attribute [local go_sem] max2_int min2_int max_two min_two max_three min_three max_four min_four   -- for this text's walks alone
set_option linter.unusedVariables false
set_option linter.unusedSimpArgs false

set_option maxHeartbeats 8000000 in
set_option maxRecDepth 100000 in
theorem corporaref36_NatAdd.calls (k : Nat) (a0 : ByteArray) (a1 : ByteArray) (r1 : ByteArray) (r2 : Int) (w : World) (h : corporaref36_NatAdd.f k a0 a1 = some (r1, r2)) :
  Calls Try.prog 35 #[.string a0, .string a1] w fun e w' => e = .returned (.tuple #[.string r1, .int .i64 r2]) ∧ Below w.heap.size w w' := by
 have HB := Aside0.mk (Below.refl w.heap.size w)
 have H : ((corporaref36_Valid.f k a0).bind fun t857 => (if t857 = true then ((corporaref36_Valid.f k a1).bind fun t858 => (corporaref36_NatAdd.j0 k a0 a1 (!t858))) else (corporaref36_NatAdd.j0 k a0 a1 true))) = some (r1, r2) := h
 clear h
 have HC3 := Aside0.mk H
 clear H
 go_enter Try.func35, Try.ntmps35
 go_upto_region 1 with (fail)
 go_cut [13] (fun v13 wc => ∃ (kq : Nat) (x13_2 : Bool), v13 = .bool x13_2 ∧ Aside0 (corporaref36_NatAdd.j0 kq a0 a1 x13_2 = some (r1, r2)) ∧ Aside0 (kq ≤ k) ∧ Aside0 (Below w.heap.size w wc))
 case first =>
  have H := HC3.out
  clear HC3
  replace H := Option.bind_eq_some_iff.mp H
  obtain ⟨t857, A40, H⟩ := H
  replace H : (if t857 = true then ((corporaref36_Valid.f k a1).bind fun t858 => (corporaref36_NatAdd.j0 k a0 a1 (!t858))) else (corporaref36_NatAdd.j0 k a0 a1 true)) = some (r1, r2) := H
  have A4 := Aside0.mk A40
  clear A40
  by_cases c5 : t857 = true
  ·subst c5
   have H1 : ((corporaref36_Valid.f k a1).bind fun t858 => (corporaref36_NatAdd.j0 k a0 a1 (!t858))) = some (r1, r2) := by rw [if_pos rfl] at H; exact H
   clear H
   have H := H1
   clear H1
   replace H := Option.bind_eq_some_iff.mp H
   obtain ⟨t858, A60, H⟩ := H
   replace H : (corporaref36_NatAdd.j0 k a0 a1 (!t858)) = some (r1, r2) := H
   have A6 := Aside0.mk A60
   clear A60
   have H' := Aside0.mk H
   clear H
   go_wp2_with (first | ((with_reducible refine gate_callee (f := 98) rfl ?_); refine goesL_ (some 7) rfl rfl Try.func98 (by kernel_rfl) rfl #[.string a0] rfl ga ?_; (with_reducible refine (corporaref36_Valid.calls k a0 true _ A4.out).mono ?_); rintro e w' ⟨rfl, ⟨nd, rfl⟩⟩; refine ⟨_, rfl, ?_⟩) | (go_at_call 98; (with_reducible refine (corporaref36_Valid.calls k a1 t858 _ A6.out).mono ?_); rintro e w' ⟨rfl, ⟨nd, rfl⟩⟩))
   go_meet
   case rel => exact ⟨_, (!t858), sv, H', ⟨by first | omega | exact Nat.le_refl _⟩, ⟨by first | exact bl HB | exact HB.out⟩⟩
  ·replace c5 := Bool.eq_false_iff.mpr c5
   subst c5
   have H1 : (corporaref36_NatAdd.j0 k a0 a1 true) = some (r1, r2) := by rw [if_neg (show ¬ (false = true) by decide)] at H; exact H
   clear H
   have H := H1
   clear H1
   have H' := Aside0.mk H
   clear H
   go_wp2_with (first | ((with_reducible refine gate_callee (f := 98) rfl ?_); refine goesL_ (some 7) rfl rfl Try.func98 (by kernel_rfl) rfl #[.string a0] rfl ga ?_; (with_reducible refine (corporaref36_Valid.calls k a0 false _ A4.out).mono ?_); rintro e w' ⟨rfl, ⟨nd, rfl⟩⟩; refine ⟨_, rfl, ?_⟩))
   go_meet
   case rel => exact ⟨_, (true), sv, H', ⟨by first | omega | exact Nat.le_refl _⟩, ⟨by first | exact bl HB | exact HB.out⟩⟩
 case rest =>
  clear HC3
  try clear c5
  obtain ⟨kq, x13_2, rfl, HA, HJ2, HB⟩ := hcut
  cases kq with
  | zero => exact absurd HA.out (by simp [corporaref36_NatAdd.j0])
  | succ kj2 =>
   have H := HA.out
   clear HA
   simp only [corporaref36_NatAdd.j0] at H
   by_cases c7 : x13_2 = true
   ·subst c7
    have H1 : (some ((⟨#[]⟩ : ByteArray), 1)) = some (r1, r2) := by rw [if_pos rfl] at H; exact H
    clear H
    have H := H1
    clear H1
    simp only [Option.some.injEq, Prod.mk.injEq] at H
    obtain ⟨rfl, rfl⟩ := H
    go_wp2
    go_ret2
    exact ⟨by first | rfl | (simp [errW_none, errW_some] <;> rfl) | (simp [*, errW_none, errW_some] <;> rfl), by first | exact bl HB | exact HB.out⟩
   ·replace c7 := Bool.eq_false_iff.mpr c7
    subst c7
    have H1 : ((corporaref36_Big.f kj2 a0).bind fun t859 => ((corporaref36_Big.f kj2 a1).bind fun t862 => ((corporaref36_Plus.f kj2 t859 t862).bind fun t865 => ((corporaref36_done.f kj2 t865).bind fun bt868 => (some (bt868.1, bt868.2)))))) = some (r1, r2) := by rw [if_neg (show ¬ (false = true) by decide)] at H; exact H
    clear H
    have H := H1
    clear H1
    replace H := Option.bind_eq_some_iff.mp H
    obtain ⟨t859, A80, H⟩ := H
    replace H : ((corporaref36_Big.f kj2 a1).bind fun t862 => ((corporaref36_Plus.f kj2 t859 t862).bind fun t865 => ((corporaref36_done.f kj2 t865).bind fun bt868 => (some (bt868.1, bt868.2))))) = some (r1, r2) := H
    have A8 := Aside0.mk A80
    clear A80
    replace H := Option.bind_eq_some_iff.mp H
    obtain ⟨t862, A90, H⟩ := H
    replace H : ((corporaref36_Plus.f kj2 t859 t862).bind fun t865 => ((corporaref36_done.f kj2 t865).bind fun bt868 => (some (bt868.1, bt868.2)))) = some (r1, r2) := H
    have A9 := Aside0.mk A90
    clear A90
    replace H := Option.bind_eq_some_iff.mp H
    obtain ⟨t865, A100, H⟩ := H
    replace H : ((corporaref36_done.f kj2 t865).bind fun bt868 => (some (bt868.1, bt868.2))) = some (r1, r2) := H
    have A10 := Aside0.mk A100
    clear A100
    replace H := Option.bind_eq_some_iff.mp H
    obtain ⟨⟨t868, t869⟩, A110, H⟩ := H
    replace H : (some (t868, t869)) = some (r1, r2) := H
    have A11 := Aside0.mk A110
    clear A110
    simp only [Option.some.injEq, Prod.mk.injEq] at H
    obtain ⟨rfl, rfl⟩ := H
    go_wp2_with (first | ((with_reducible refine gate_callee (f := 88) rfl ?_); refine goesL_ (some 15) rfl rfl Try.func88 (by kernel_rfl) rfl #[.string a0] rfl ga ?_; (with_reducible refine (corporaref36_Big.calls kj2 a0 t859 _ A8.out).mono ?_); rintro e w12 ⟨v860, rfl, ho0, hb⟩; refine ⟨_, rfl, ?_⟩; have HO861 := Aside0.mk (Kd.V_lower (Kd.V_mono (ok' := fun k_ => True) ho0 (fun k_ hk_ => trivial)) (below_size (by first | exact bl HB | exact HB.out))); replace HB := Aside0.mk (below_step (by first | exact bl HB | exact HB.out) hb); (try clear hb); (try clear hb2); (try clear hk); (try clear hi); (try clear ho0)) | ((with_reducible refine gate_callee (f := 88) rfl ?_); refine goesL_ (some 17) rfl rfl Try.func88 (by kernel_rfl) rfl #[.string a1] rfl ga ?_; (with_reducible refine (corporaref36_Big.calls kj2 a1 t862 _ A9.out).mono ?_); rintro e w13 ⟨v863, rfl, ho0, hb⟩; refine ⟨_, rfl, ?_⟩; replace HO861 := Aside0.mk (Kd.V_below (by exact vl HO861) hb); have HO864 := Aside0.mk (Kd.V_lower (Kd.V_mono (ok' := fun k_ => True) ho0 (fun k_ hk_ => trivial)) (below_size (by first | exact bl HB | exact HB.out))); replace HB := Aside0.mk (below_step (by first | exact bl HB | exact HB.out) hb); (try clear hb); (try clear hb2); (try clear hk); (try clear hi); (try clear ho0); obtain ⟨Ao14, co14, eo14⟩ := Kd.V_slice HO861.out; subst eo14; obtain ⟨Ao15, co15, eo15⟩ := Kd.V_slice HO864.out; subst eo15) | ((with_reducible refine gate_callee (f := 100) rfl ?_); refine goesL_ (some 18) rfl rfl Try.func100 (by kernel_rfl) rfl #[.slice Ao14 t859.length co14, .slice Ao15 t862.length co15] rfl ga ?_; (with_reducible refine (corporaref36_Plus.calls kj2 _ _ t859 _ _ t862 t865 _ ?side1 ?side2 ?side3 ?side4 A10.out).mono ?_); (case side1 => exact cl ((Kd.V_reads' HO861.out).2.2)); (case side2 => exact (Kd.V_reads' HO861.out).2.1); (case side3 => exact cl ((Kd.V_reads' HO864.out).2.2)); (case side4 => exact (Kd.V_reads' HO864.out).2.1); rintro e w16 ⟨v866, rfl, ho0, hb⟩; refine ⟨_, rfl, ?_⟩; replace HO861 := Aside0.mk (Kd.V_below (by exact vl HO861) hb); replace HO864 := Aside0.mk (Kd.V_below (by exact vl HO864) hb); have HO867 := Aside0.mk (Kd.V_lower (Kd.V_mono (ok' := fun k_ => True) ho0 (fun k_ hk_ => trivial)) (below_size (by first | exact bl HB | exact HB.out))); replace HB := Aside0.mk (below_step (by first | exact bl HB | exact HB.out) hb); (try clear hb); (try clear hb2); (try clear hk); (try clear hi); (try clear ho0); obtain ⟨Ao17, co17, eo17⟩ := Kd.V_slice HO867.out; subst eo17) | ((with_reducible refine gate_callee (f := 99) rfl ?_); refine goesL_ (some 19) rfl rfl Try.func99 (by kernel_rfl) rfl #[.slice Ao17 t865.length co17] rfl ga ?_; (with_reducible refine (corporaref36_done.calls kj2 _ _ t865 t868 t869 _ ?side1 ?side2 A11.out).mono ?_); (case side1 => exact cl ((Kd.V_reads' HO867.out).2.2)); (case side2 => exact (Kd.V_reads' HO867.out).2.1); rintro e w18 ⟨rfl, hb⟩; refine ⟨_, rfl, ?_⟩; replace HO861 := Aside0.mk (Kd.V_below (by exact vl HO861) hb); replace HO864 := Aside0.mk (Kd.V_below (by exact vl HO864) hb); replace HO867 := Aside0.mk (Kd.V_below (by exact vl HO867) hb); replace HB := Aside0.mk (below_step (by first | exact bl HB | exact HB.out) hb); (try clear hb); (try clear hb2); (try clear hk); (try clear hi)))
    go_ret2
    exact ⟨by first | rfl | (simp [errW_none, errW_some] <;> rfl) | (simp [*, errW_none, errW_some] <;> rfl), by first | exact bl HB | exact HB.out⟩

set_option maxHeartbeats 8000000 in
set_option maxRecDepth 100000 in
theorem corporaref36_NatSub.calls (k : Nat) (a0 : ByteArray) (a1 : ByteArray) (r1 : ByteArray) (r2 : Int) (w : World) (h : corporaref36_NatSub.f k a0 a1 = some (r1, r2)) :
  Calls Try.prog 36 #[.string a0, .string a1] w fun e w' => e = .returned (.tuple #[.string r1, .int .i64 r2]) ∧ Below w.heap.size w w' := by
 have HB := Aside0.mk (Below.refl w.heap.size w)
 have H : ((corporaref36_Valid.f k a0).bind fun t870 => (if t870 = true then ((corporaref36_Valid.f k a1).bind fun t871 => (corporaref36_NatSub.j0 k a0 a1 (!t871))) else (corporaref36_NatSub.j0 k a0 a1 true))) = some (r1, r2) := h
 clear h
 have HC3 := Aside0.mk H
 clear H
 go_enter Try.func36, Try.ntmps36
 go_upto_region 1 with (fail)
 go_cut [13] (fun v13 wc => ∃ (kq : Nat) (x13_2 : Bool), v13 = .bool x13_2 ∧ Aside0 (corporaref36_NatSub.j0 kq a0 a1 x13_2 = some (r1, r2)) ∧ Aside0 (kq ≤ k) ∧ Aside0 (Below w.heap.size w wc))
 case first =>
  have H := HC3.out
  clear HC3
  replace H := Option.bind_eq_some_iff.mp H
  obtain ⟨t870, A40, H⟩ := H
  replace H : (if t870 = true then ((corporaref36_Valid.f k a1).bind fun t871 => (corporaref36_NatSub.j0 k a0 a1 (!t871))) else (corporaref36_NatSub.j0 k a0 a1 true)) = some (r1, r2) := H
  have A4 := Aside0.mk A40
  clear A40
  by_cases c5 : t870 = true
  ·subst c5
   have H1 : ((corporaref36_Valid.f k a1).bind fun t871 => (corporaref36_NatSub.j0 k a0 a1 (!t871))) = some (r1, r2) := by rw [if_pos rfl] at H; exact H
   clear H
   have H := H1
   clear H1
   replace H := Option.bind_eq_some_iff.mp H
   obtain ⟨t871, A60, H⟩ := H
   replace H : (corporaref36_NatSub.j0 k a0 a1 (!t871)) = some (r1, r2) := H
   have A6 := Aside0.mk A60
   clear A60
   have H' := Aside0.mk H
   clear H
   go_wp2_with (first | ((with_reducible refine gate_callee (f := 98) rfl ?_); refine goesL_ (some 7) rfl rfl Try.func98 (by kernel_rfl) rfl #[.string a0] rfl ga ?_; (with_reducible refine (corporaref36_Valid.calls k a0 true _ A4.out).mono ?_); rintro e w' ⟨rfl, ⟨nd, rfl⟩⟩; refine ⟨_, rfl, ?_⟩) | (go_at_call 98; (with_reducible refine (corporaref36_Valid.calls k a1 t871 _ A6.out).mono ?_); rintro e w' ⟨rfl, ⟨nd, rfl⟩⟩))
   go_meet
   case rel => exact ⟨_, (!t871), sv, H', ⟨by first | omega | exact Nat.le_refl _⟩, ⟨by first | exact bl HB | exact HB.out⟩⟩
  ·replace c5 := Bool.eq_false_iff.mpr c5
   subst c5
   have H1 : (corporaref36_NatSub.j0 k a0 a1 true) = some (r1, r2) := by rw [if_neg (show ¬ (false = true) by decide)] at H; exact H
   clear H
   have H := H1
   clear H1
   have H' := Aside0.mk H
   clear H
   go_wp2_with (first | ((with_reducible refine gate_callee (f := 98) rfl ?_); refine goesL_ (some 7) rfl rfl Try.func98 (by kernel_rfl) rfl #[.string a0] rfl ga ?_; (with_reducible refine (corporaref36_Valid.calls k a0 false _ A4.out).mono ?_); rintro e w' ⟨rfl, ⟨nd, rfl⟩⟩; refine ⟨_, rfl, ?_⟩))
   go_meet
   case rel => exact ⟨_, (true), sv, H', ⟨by first | omega | exact Nat.le_refl _⟩, ⟨by first | exact bl HB | exact HB.out⟩⟩
 case rest =>
  clear HC3
  try clear c5
  obtain ⟨kq, x13_2, rfl, HA, HJ2, HB⟩ := hcut
  cases kq with
  | zero => exact absurd HA.out (by simp [corporaref36_NatSub.j0])
  | succ kj2 =>
   have H := HA.out
   clear HA
   simp only [corporaref36_NatSub.j0] at H
   by_cases c7 : x13_2 = true
   ·subst c7
    have H1 : (some ((⟨#[]⟩ : ByteArray), 1)) = some (r1, r2) := by rw [if_pos rfl] at H; exact H
    clear H
    have H := H1
    clear H1
    simp only [Option.some.injEq, Prod.mk.injEq] at H
    obtain ⟨rfl, rfl⟩ := H
    go_wp2
    go_ret2
    exact ⟨by first | rfl | (simp [errW_none, errW_some] <;> rfl) | (simp [*, errW_none, errW_some] <;> rfl), by first | exact bl HB | exact HB.out⟩
   ·replace c7 := Bool.eq_false_iff.mpr c7
    subst c7
    have H1 : ((corporaref36_Big.f kj2 a0).bind fun t872 => ((corporaref36_Big.f kj2 a1).bind fun t875 => ((corporaref36_Less.f kj2 t872 t875).bind fun t878 => (if t878 < 0 then (some ((⟨#[]⟩ : ByteArray), 8)) else ((corporaref36_Big.f kj2 a0).bind fun t879 => ((corporaref36_Big.f kj2 a1).bind fun t882 => ((corporaref36_Minus.f kj2 t879 t882).bind fun t885 => ((corporaref36_done.f kj2 t885).bind fun bt888 => (some (bt888.1, bt888.2)))))))))) = some (r1, r2) := by rw [if_neg (show ¬ (false = true) by decide)] at H; exact H
    clear H
    have H := H1
    clear H1
    replace H := Option.bind_eq_some_iff.mp H
    obtain ⟨t872, A80, H⟩ := H
    replace H : ((corporaref36_Big.f kj2 a1).bind fun t875 => ((corporaref36_Less.f kj2 t872 t875).bind fun t878 => (if t878 < 0 then (some ((⟨#[]⟩ : ByteArray), 8)) else ((corporaref36_Big.f kj2 a0).bind fun t879 => ((corporaref36_Big.f kj2 a1).bind fun t882 => ((corporaref36_Minus.f kj2 t879 t882).bind fun t885 => ((corporaref36_done.f kj2 t885).bind fun bt888 => (some (bt888.1, bt888.2))))))))) = some (r1, r2) := H
    have A8 := Aside0.mk A80
    clear A80
    replace H := Option.bind_eq_some_iff.mp H
    obtain ⟨t875, A90, H⟩ := H
    replace H : ((corporaref36_Less.f kj2 t872 t875).bind fun t878 => (if t878 < 0 then (some ((⟨#[]⟩ : ByteArray), 8)) else ((corporaref36_Big.f kj2 a0).bind fun t879 => ((corporaref36_Big.f kj2 a1).bind fun t882 => ((corporaref36_Minus.f kj2 t879 t882).bind fun t885 => ((corporaref36_done.f kj2 t885).bind fun bt888 => (some (bt888.1, bt888.2)))))))) = some (r1, r2) := H
    have A9 := Aside0.mk A90
    clear A90
    replace H := Option.bind_eq_some_iff.mp H
    obtain ⟨t878, A100, H⟩ := H
    replace H : (if t878 < 0 then (some ((⟨#[]⟩ : ByteArray), 8)) else ((corporaref36_Big.f kj2 a0).bind fun t879 => ((corporaref36_Big.f kj2 a1).bind fun t882 => ((corporaref36_Minus.f kj2 t879 t882).bind fun t885 => ((corporaref36_done.f kj2 t885).bind fun bt888 => (some (bt888.1, bt888.2))))))) = some (r1, r2) := H
    have A10 := Aside0.mk A100
    clear A100
    by_cases c11 : t878 < 0
    ·rw [if_pos c11] at H
     have c11b0 : decide (t878 < 0) = true := decide_eq_true c11
     clear c11
     simp only [Option.some.injEq, Prod.mk.injEq] at H
     obtain ⟨rfl, rfl⟩ := H
     go_wp2_with (first | ((with_reducible refine gate_callee (f := 88) rfl ?_); refine goesL_ (some 15) rfl rfl Try.func88 (by kernel_rfl) rfl #[.string a0] rfl ga ?_; (with_reducible refine (corporaref36_Big.calls kj2 a0 t872 _ A8.out).mono ?_); rintro e w12 ⟨v873, rfl, ho0, hb⟩; refine ⟨_, rfl, ?_⟩; have HO874 := Aside0.mk (Kd.V_lower (Kd.V_mono (ok' := fun k_ => True) ho0 (fun k_ hk_ => trivial)) (below_size (by first | exact bl HB | exact HB.out))); replace HB := Aside0.mk (below_step (by first | exact bl HB | exact HB.out) hb); (try clear hb); (try clear hb2); (try clear hk); (try clear hi); (try clear ho0)) | ((with_reducible refine gate_callee (f := 88) rfl ?_); refine goesL_ (some 17) rfl rfl Try.func88 (by kernel_rfl) rfl #[.string a1] rfl ga ?_; (with_reducible refine (corporaref36_Big.calls kj2 a1 t875 _ A9.out).mono ?_); rintro e w13 ⟨v876, rfl, ho0, hb⟩; refine ⟨_, rfl, ?_⟩; replace HO874 := Aside0.mk (Kd.V_below (by exact vl HO874) hb); have HO877 := Aside0.mk (Kd.V_lower (Kd.V_mono (ok' := fun k_ => True) ho0 (fun k_ hk_ => trivial)) (below_size (by first | exact bl HB | exact HB.out))); replace HB := Aside0.mk (below_step (by first | exact bl HB | exact HB.out) hb); (try clear hb); (try clear hb2); (try clear hk); (try clear hi); (try clear ho0); obtain ⟨Ao14, co14, eo14⟩ := Kd.V_slice HO874.out; subst eo14; obtain ⟨Ao15, co15, eo15⟩ := Kd.V_slice HO877.out; subst eo15) | ((with_reducible refine gate_callee (f := 101) rfl ?_); refine goesL_ (some 18) rfl rfl Try.func101 (by kernel_rfl) rfl #[.slice Ao14 t872.length co14, .slice Ao15 t875.length co15] rfl ga ?_; (with_reducible refine (corporaref36_Less.calls kj2 _ _ t872 _ _ t875 t878 _ ?side1 ?side2 ?side3 ?side4 A10.out).mono ?_); (case side1 => exact cl ((Kd.V_reads' HO874.out).2.2)); (case side2 => exact (Kd.V_reads' HO874.out).2.1); (case side3 => exact cl ((Kd.V_reads' HO877.out).2.2)); (case side4 => exact (Kd.V_reads' HO877.out).2.1); rintro e w' ⟨rfl, ⟨nd, rfl⟩⟩; refine ⟨_, rfl, ?_⟩))
     go_ret2
     exact ⟨by first | rfl | (simp [errW_none, errW_some] <;> rfl) | (simp [*, errW_none, errW_some] <;> rfl), by first | exact bl HB | exact HB.out⟩
    ·rw [if_neg c11] at H
     have c11b0 : decide (t878 < 0) = false := decide_eq_false c11
     clear c11
     replace H := Option.bind_eq_some_iff.mp H
     obtain ⟨t879, A160, H⟩ := H
     replace H : ((corporaref36_Big.f kj2 a1).bind fun t882 => ((corporaref36_Minus.f kj2 t879 t882).bind fun t885 => ((corporaref36_done.f kj2 t885).bind fun bt888 => (some (bt888.1, bt888.2))))) = some (r1, r2) := H
     have A16 := Aside0.mk A160
     clear A160
     replace H := Option.bind_eq_some_iff.mp H
     obtain ⟨t882, A170, H⟩ := H
     replace H : ((corporaref36_Minus.f kj2 t879 t882).bind fun t885 => ((corporaref36_done.f kj2 t885).bind fun bt888 => (some (bt888.1, bt888.2)))) = some (r1, r2) := H
     have A17 := Aside0.mk A170
     clear A170
     replace H := Option.bind_eq_some_iff.mp H
     obtain ⟨t885, A180, H⟩ := H
     replace H : ((corporaref36_done.f kj2 t885).bind fun bt888 => (some (bt888.1, bt888.2))) = some (r1, r2) := H
     have A18 := Aside0.mk A180
     clear A180
     replace H := Option.bind_eq_some_iff.mp H
     obtain ⟨⟨t888, t889⟩, A190, H⟩ := H
     replace H : (some (t888, t889)) = some (r1, r2) := H
     have A19 := Aside0.mk A190
     clear A190
     simp only [Option.some.injEq, Prod.mk.injEq] at H
     obtain ⟨rfl, rfl⟩ := H
     go_wp2_with (first | ((with_reducible refine gate_callee (f := 88) rfl ?_); refine goesL_ (some 15) rfl rfl Try.func88 (by kernel_rfl) rfl #[.string a0] rfl ga ?_; (with_reducible refine (corporaref36_Big.calls kj2 a0 t872 _ A8.out).mono ?_); rintro e w20 ⟨v873, rfl, ho0, hb⟩; refine ⟨_, rfl, ?_⟩; have HO874 := Aside0.mk (Kd.V_lower (Kd.V_mono (ok' := fun k_ => True) ho0 (fun k_ hk_ => trivial)) (below_size (by first | exact bl HB | exact HB.out))); replace HB := Aside0.mk (below_step (by first | exact bl HB | exact HB.out) hb); (try clear hb); (try clear hb2); (try clear hk); (try clear hi); (try clear ho0)) | ((with_reducible refine gate_callee (f := 88) rfl ?_); refine goesL_ (some 17) rfl rfl Try.func88 (by kernel_rfl) rfl #[.string a1] rfl ga ?_; (with_reducible refine (corporaref36_Big.calls kj2 a1 t875 _ A9.out).mono ?_); rintro e w21 ⟨v876, rfl, ho0, hb⟩; refine ⟨_, rfl, ?_⟩; replace HO874 := Aside0.mk (Kd.V_below (by exact vl HO874) hb); have HO877 := Aside0.mk (Kd.V_lower (Kd.V_mono (ok' := fun k_ => True) ho0 (fun k_ hk_ => trivial)) (below_size (by first | exact bl HB | exact HB.out))); replace HB := Aside0.mk (below_step (by first | exact bl HB | exact HB.out) hb); (try clear hb); (try clear hb2); (try clear hk); (try clear hi); (try clear ho0); obtain ⟨Ao22, co22, eo22⟩ := Kd.V_slice HO874.out; subst eo22; obtain ⟨Ao23, co23, eo23⟩ := Kd.V_slice HO877.out; subst eo23) | ((with_reducible refine gate_callee (f := 101) rfl ?_); refine goesL_ (some 18) rfl rfl Try.func101 (by kernel_rfl) rfl #[.slice Ao22 t872.length co22, .slice Ao23 t875.length co23] rfl ga ?_; (with_reducible refine (corporaref36_Less.calls kj2 _ _ t872 _ _ t875 t878 _ ?side1 ?side2 ?side3 ?side4 A10.out).mono ?_); (case side1 => exact cl ((Kd.V_reads' HO874.out).2.2)); (case side2 => exact (Kd.V_reads' HO874.out).2.1); (case side3 => exact cl ((Kd.V_reads' HO877.out).2.2)); (case side4 => exact (Kd.V_reads' HO877.out).2.1); rintro e w' ⟨rfl, ⟨nd, rfl⟩⟩; refine ⟨_, rfl, ?_⟩) | ((with_reducible refine gate_callee (f := 88) rfl ?_); refine goesL_ (some 21) rfl rfl Try.func88 (by kernel_rfl) rfl #[.string a0] rfl ga ?_; (with_reducible refine (corporaref36_Big.calls kj2 a0 t879 _ A16.out).mono ?_); rintro e w24 ⟨v880, rfl, ho0, hb⟩; refine ⟨_, rfl, ?_⟩; replace HO874 := Aside0.mk (Kd.V_below (by exact vl HO874) hb); replace HO877 := Aside0.mk (Kd.V_below (by exact vl HO877) hb); have HO881 := Aside0.mk (Kd.V_lower (Kd.V_mono (ok' := fun k_ => True) ho0 (fun k_ hk_ => trivial)) (below_size (by first | exact bl HB | exact HB.out))); replace HB := Aside0.mk (below_step (by first | exact bl HB | exact HB.out) hb); (try clear hb); (try clear hb2); (try clear hk); (try clear hi); (try clear ho0)) | ((with_reducible refine gate_callee (f := 88) rfl ?_); refine goesL_ (some 23) rfl rfl Try.func88 (by kernel_rfl) rfl #[.string a1] rfl ga ?_; (with_reducible refine (corporaref36_Big.calls kj2 a1 t882 _ A17.out).mono ?_); rintro e w25 ⟨v883, rfl, ho0, hb⟩; refine ⟨_, rfl, ?_⟩; replace HO874 := Aside0.mk (Kd.V_below (by exact vl HO874) hb); replace HO877 := Aside0.mk (Kd.V_below (by exact vl HO877) hb); replace HO881 := Aside0.mk (Kd.V_below (by exact vl HO881) hb); have HO884 := Aside0.mk (Kd.V_lower (Kd.V_mono (ok' := fun k_ => True) ho0 (fun k_ hk_ => trivial)) (below_size (by first | exact bl HB | exact HB.out))); replace HB := Aside0.mk (below_step (by first | exact bl HB | exact HB.out) hb); (try clear hb); (try clear hb2); (try clear hk); (try clear hi); (try clear ho0); obtain ⟨Ao26, co26, eo26⟩ := Kd.V_slice HO881.out; subst eo26; obtain ⟨Ao27, co27, eo27⟩ := Kd.V_slice HO884.out; subst eo27) | ((with_reducible refine gate_callee (f := 102) rfl ?_); refine goesL_ (some 24) rfl rfl Try.func102 (by kernel_rfl) rfl #[.slice Ao26 t879.length co26, .slice Ao27 t882.length co27] rfl ga ?_; (with_reducible refine (corporaref36_Minus.calls kj2 _ _ t879 _ _ t882 t885 _ ?side1 ?side2 ?side3 ?side4 A18.out).mono ?_); (case side1 => exact cl ((Kd.V_reads' HO881.out).2.2)); (case side2 => exact (Kd.V_reads' HO881.out).2.1); (case side3 => exact cl ((Kd.V_reads' HO884.out).2.2)); (case side4 => exact (Kd.V_reads' HO884.out).2.1); rintro e w28 ⟨v886, rfl, ho0, hb⟩; refine ⟨_, rfl, ?_⟩; replace HO874 := Aside0.mk (Kd.V_below (by exact vl HO874) hb); replace HO877 := Aside0.mk (Kd.V_below (by exact vl HO877) hb); replace HO881 := Aside0.mk (Kd.V_below (by exact vl HO881) hb); replace HO884 := Aside0.mk (Kd.V_below (by exact vl HO884) hb); have HO887 := Aside0.mk (Kd.V_lower (Kd.V_mono (ok' := fun k_ => True) ho0 (fun k_ hk_ => trivial)) (below_size (by first | exact bl HB | exact HB.out))); replace HB := Aside0.mk (below_step (by first | exact bl HB | exact HB.out) hb); (try clear hb); (try clear hb2); (try clear hk); (try clear hi); (try clear ho0); obtain ⟨Ao29, co29, eo29⟩ := Kd.V_slice HO887.out; subst eo29) | ((with_reducible refine gate_callee (f := 99) rfl ?_); refine goesL_ (some 25) rfl rfl Try.func99 (by kernel_rfl) rfl #[.slice Ao29 t885.length co29] rfl ga ?_; (with_reducible refine (corporaref36_done.calls kj2 _ _ t885 t888 t889 _ ?side1 ?side2 A19.out).mono ?_); (case side1 => exact cl ((Kd.V_reads' HO887.out).2.2)); (case side2 => exact (Kd.V_reads' HO887.out).2.1); rintro e w30 ⟨rfl, hb⟩; refine ⟨_, rfl, ?_⟩; replace HO874 := Aside0.mk (Kd.V_below (by exact vl HO874) hb); replace HO877 := Aside0.mk (Kd.V_below (by exact vl HO877) hb); replace HO881 := Aside0.mk (Kd.V_below (by exact vl HO881) hb); replace HO884 := Aside0.mk (Kd.V_below (by exact vl HO884) hb); replace HO887 := Aside0.mk (Kd.V_below (by exact vl HO887) hb); replace HB := Aside0.mk (below_step (by first | exact bl HB | exact HB.out) hb); (try clear hb); (try clear hb2); (try clear hk); (try clear hi)))
     go_ret2
     exact ⟨by first | rfl | (simp [errW_none, errW_some] <;> rfl) | (simp [*, errW_none, errW_some] <;> rfl), by first | exact bl HB | exact HB.out⟩

set_option maxHeartbeats 8000000 in
set_option maxRecDepth 100000 in
theorem corporaref36_NatMul.calls (k : Nat) (a0 : ByteArray) (a1 : ByteArray) (r1 : ByteArray) (r2 : Int) (w : World) (h : corporaref36_NatMul.f k a0 a1 = some (r1, r2)) :
  Calls Try.prog 37 #[.string a0, .string a1] w fun e w' => e = .returned (.tuple #[.string r1, .int .i64 r2]) ∧ Below w.heap.size w w' := by
 have HB := Aside0.mk (Below.refl w.heap.size w)
 have H : ((corporaref36_Valid.f k a0).bind fun t890 => (if t890 = true then ((corporaref36_Valid.f k a1).bind fun t891 => (corporaref36_NatMul.j0 k a0 a1 (!t891))) else (corporaref36_NatMul.j0 k a0 a1 true))) = some (r1, r2) := h
 clear h
 have HC3 := Aside0.mk H
 clear H
 go_enter Try.func37, Try.ntmps37
 go_upto_region 1 with (fail)
 go_cut [13] (fun v13 wc => ∃ (kq : Nat) (x13_2 : Bool), v13 = .bool x13_2 ∧ Aside0 (corporaref36_NatMul.j0 kq a0 a1 x13_2 = some (r1, r2)) ∧ Aside0 (kq ≤ k) ∧ Aside0 (Below w.heap.size w wc))
 case first =>
  have H := HC3.out
  clear HC3
  replace H := Option.bind_eq_some_iff.mp H
  obtain ⟨t890, A40, H⟩ := H
  replace H : (if t890 = true then ((corporaref36_Valid.f k a1).bind fun t891 => (corporaref36_NatMul.j0 k a0 a1 (!t891))) else (corporaref36_NatMul.j0 k a0 a1 true)) = some (r1, r2) := H
  have A4 := Aside0.mk A40
  clear A40
  by_cases c5 : t890 = true
  ·subst c5
   have H1 : ((corporaref36_Valid.f k a1).bind fun t891 => (corporaref36_NatMul.j0 k a0 a1 (!t891))) = some (r1, r2) := by rw [if_pos rfl] at H; exact H
   clear H
   have H := H1
   clear H1
   replace H := Option.bind_eq_some_iff.mp H
   obtain ⟨t891, A60, H⟩ := H
   replace H : (corporaref36_NatMul.j0 k a0 a1 (!t891)) = some (r1, r2) := H
   have A6 := Aside0.mk A60
   clear A60
   have H' := Aside0.mk H
   clear H
   go_wp2_with (first | ((with_reducible refine gate_callee (f := 98) rfl ?_); refine goesL_ (some 7) rfl rfl Try.func98 (by kernel_rfl) rfl #[.string a0] rfl ga ?_; (with_reducible refine (corporaref36_Valid.calls k a0 true _ A4.out).mono ?_); rintro e w' ⟨rfl, ⟨nd, rfl⟩⟩; refine ⟨_, rfl, ?_⟩) | (go_at_call 98; (with_reducible refine (corporaref36_Valid.calls k a1 t891 _ A6.out).mono ?_); rintro e w' ⟨rfl, ⟨nd, rfl⟩⟩))
   go_meet
   case rel => exact ⟨_, (!t891), sv, H', ⟨by first | omega | exact Nat.le_refl _⟩, ⟨by first | exact bl HB | exact HB.out⟩⟩
  ·replace c5 := Bool.eq_false_iff.mpr c5
   subst c5
   have H1 : (corporaref36_NatMul.j0 k a0 a1 true) = some (r1, r2) := by rw [if_neg (show ¬ (false = true) by decide)] at H; exact H
   clear H
   have H := H1
   clear H1
   have H' := Aside0.mk H
   clear H
   go_wp2_with (first | ((with_reducible refine gate_callee (f := 98) rfl ?_); refine goesL_ (some 7) rfl rfl Try.func98 (by kernel_rfl) rfl #[.string a0] rfl ga ?_; (with_reducible refine (corporaref36_Valid.calls k a0 false _ A4.out).mono ?_); rintro e w' ⟨rfl, ⟨nd, rfl⟩⟩; refine ⟨_, rfl, ?_⟩))
   go_meet
   case rel => exact ⟨_, (true), sv, H', ⟨by first | omega | exact Nat.le_refl _⟩, ⟨by first | exact bl HB | exact HB.out⟩⟩
 case rest =>
  clear HC3
  try clear c5
  obtain ⟨kq, x13_2, rfl, HA, HJ2, HB⟩ := hcut
  cases kq with
  | zero => exact absurd HA.out (by simp [corporaref36_NatMul.j0])
  | succ kj2 =>
   have H := HA.out
   clear HA
   simp only [corporaref36_NatMul.j0] at H
   by_cases c7 : x13_2 = true
   ·subst c7
    have H1 : (some ((⟨#[]⟩ : ByteArray), 1)) = some (r1, r2) := by rw [if_pos rfl] at H; exact H
    clear H
    have H := H1
    clear H1
    simp only [Option.some.injEq, Prod.mk.injEq] at H
    obtain ⟨rfl, rfl⟩ := H
    go_wp2
    go_ret2
    exact ⟨by first | rfl | (simp [errW_none, errW_some] <;> rfl) | (simp [*, errW_none, errW_some] <;> rfl), by first | exact bl HB | exact HB.out⟩
   ·replace c7 := Bool.eq_false_iff.mpr c7
    subst c7
    have H1 : ((corporaref36_Big.f kj2 a0).bind fun t892 => ((corporaref36_Big.f kj2 a1).bind fun t895 => ((corporaref36_Times.f kj2 t892 t895).bind fun t898 => ((corporaref36_done.f kj2 t898).bind fun bt901 => (some (bt901.1, bt901.2)))))) = some (r1, r2) := by rw [if_neg (show ¬ (false = true) by decide)] at H; exact H
    clear H
    have H := H1
    clear H1
    replace H := Option.bind_eq_some_iff.mp H
    obtain ⟨t892, A80, H⟩ := H
    replace H : ((corporaref36_Big.f kj2 a1).bind fun t895 => ((corporaref36_Times.f kj2 t892 t895).bind fun t898 => ((corporaref36_done.f kj2 t898).bind fun bt901 => (some (bt901.1, bt901.2))))) = some (r1, r2) := H
    have A8 := Aside0.mk A80
    clear A80
    replace H := Option.bind_eq_some_iff.mp H
    obtain ⟨t895, A90, H⟩ := H
    replace H : ((corporaref36_Times.f kj2 t892 t895).bind fun t898 => ((corporaref36_done.f kj2 t898).bind fun bt901 => (some (bt901.1, bt901.2)))) = some (r1, r2) := H
    have A9 := Aside0.mk A90
    clear A90
    replace H := Option.bind_eq_some_iff.mp H
    obtain ⟨t898, A100, H⟩ := H
    replace H : ((corporaref36_done.f kj2 t898).bind fun bt901 => (some (bt901.1, bt901.2))) = some (r1, r2) := H
    have A10 := Aside0.mk A100
    clear A100
    replace H := Option.bind_eq_some_iff.mp H
    obtain ⟨⟨t901, t902⟩, A110, H⟩ := H
    replace H : (some (t901, t902)) = some (r1, r2) := H
    have A11 := Aside0.mk A110
    clear A110
    simp only [Option.some.injEq, Prod.mk.injEq] at H
    obtain ⟨rfl, rfl⟩ := H
    go_wp2_with (first | ((with_reducible refine gate_callee (f := 88) rfl ?_); refine goesL_ (some 15) rfl rfl Try.func88 (by kernel_rfl) rfl #[.string a0] rfl ga ?_; (with_reducible refine (corporaref36_Big.calls kj2 a0 t892 _ A8.out).mono ?_); rintro e w12 ⟨v893, rfl, ho0, hb⟩; refine ⟨_, rfl, ?_⟩; have HO894 := Aside0.mk (Kd.V_lower (Kd.V_mono (ok' := fun k_ => True) ho0 (fun k_ hk_ => trivial)) (below_size (by first | exact bl HB | exact HB.out))); replace HB := Aside0.mk (below_step (by first | exact bl HB | exact HB.out) hb); (try clear hb); (try clear hb2); (try clear hk); (try clear hi); (try clear ho0)) | ((with_reducible refine gate_callee (f := 88) rfl ?_); refine goesL_ (some 17) rfl rfl Try.func88 (by kernel_rfl) rfl #[.string a1] rfl ga ?_; (with_reducible refine (corporaref36_Big.calls kj2 a1 t895 _ A9.out).mono ?_); rintro e w13 ⟨v896, rfl, ho0, hb⟩; refine ⟨_, rfl, ?_⟩; replace HO894 := Aside0.mk (Kd.V_below (by exact vl HO894) hb); have HO897 := Aside0.mk (Kd.V_lower (Kd.V_mono (ok' := fun k_ => True) ho0 (fun k_ hk_ => trivial)) (below_size (by first | exact bl HB | exact HB.out))); replace HB := Aside0.mk (below_step (by first | exact bl HB | exact HB.out) hb); (try clear hb); (try clear hb2); (try clear hk); (try clear hi); (try clear ho0); obtain ⟨Ao14, co14, eo14⟩ := Kd.V_slice HO894.out; subst eo14; obtain ⟨Ao15, co15, eo15⟩ := Kd.V_slice HO897.out; subst eo15) | ((with_reducible refine gate_callee (f := 89) rfl ?_); refine goesL_ (some 18) rfl rfl Try.func89 (by kernel_rfl) rfl #[.slice Ao14 t892.length co14, .slice Ao15 t895.length co15] rfl ga ?_; (with_reducible refine (corporaref36_Times.calls kj2 _ _ t892 _ _ t895 t898 _ ?side1 ?side2 ?side3 ?side4 A10.out).mono ?_); (case side1 => exact cl ((Kd.V_reads' HO894.out).2.2)); (case side2 => exact (Kd.V_reads' HO894.out).2.1); (case side3 => exact cl ((Kd.V_reads' HO897.out).2.2)); (case side4 => exact (Kd.V_reads' HO897.out).2.1); rintro e w16 ⟨v899, rfl, ho0, hb⟩; refine ⟨_, rfl, ?_⟩; replace HO894 := Aside0.mk (Kd.V_below (by exact vl HO894) hb); replace HO897 := Aside0.mk (Kd.V_below (by exact vl HO897) hb); have HO900 := Aside0.mk (Kd.V_lower (Kd.V_mono (ok' := fun k_ => True) ho0 (fun k_ hk_ => trivial)) (below_size (by first | exact bl HB | exact HB.out))); replace HB := Aside0.mk (below_step (by first | exact bl HB | exact HB.out) hb); (try clear hb); (try clear hb2); (try clear hk); (try clear hi); (try clear ho0); obtain ⟨Ao17, co17, eo17⟩ := Kd.V_slice HO900.out; subst eo17) | ((with_reducible refine gate_callee (f := 99) rfl ?_); refine goesL_ (some 19) rfl rfl Try.func99 (by kernel_rfl) rfl #[.slice Ao17 t898.length co17] rfl ga ?_; (with_reducible refine (corporaref36_done.calls kj2 _ _ t898 t901 t902 _ ?side1 ?side2 A11.out).mono ?_); (case side1 => exact cl ((Kd.V_reads' HO900.out).2.2)); (case side2 => exact (Kd.V_reads' HO900.out).2.1); rintro e w18 ⟨rfl, hb⟩; refine ⟨_, rfl, ?_⟩; replace HO894 := Aside0.mk (Kd.V_below (by exact vl HO894) hb); replace HO897 := Aside0.mk (Kd.V_below (by exact vl HO897) hb); replace HO900 := Aside0.mk (Kd.V_below (by exact vl HO900) hb); replace HB := Aside0.mk (below_step (by first | exact bl HB | exact HB.out) hb); (try clear hb); (try clear hb2); (try clear hk); (try clear hi)))
    go_ret2
    exact ⟨by first | rfl | (simp [errW_none, errW_some] <;> rfl) | (simp [*, errW_none, errW_some] <;> rfl), by first | exact bl HB | exact HB.out⟩

set_option maxHeartbeats 8000000 in
set_option maxRecDepth 100000 in
theorem corporaref36_NatDiv.calls (k : Nat) (a0 : ByteArray) (a1 : ByteArray) (r1 : ByteArray) (r2 : ByteArray) (r3 : Int) (w : World) (h : corporaref36_NatDiv.f k a0 a1 = some (r1, r2, r3)) :
  Calls Try.prog 38 #[.string a0, .string a1] w fun e w' => e = .returned (.tuple #[.string r1, .string r2, .int .i64 r3]) ∧ Below w.heap.size w w' := by
 have HB := Aside0.mk (Below.refl w.heap.size w)
 have H : ((corporaref36_Valid.f k a0).bind fun t903 => (if t903 = true then ((corporaref36_Valid.f k a1).bind fun t904 => (corporaref36_NatDiv.j0 k a0 a1 (!t904))) else (corporaref36_NatDiv.j0 k a0 a1 true))) = some (r1, r2, r3) := h
 clear h
 have HC3 := Aside0.mk H
 clear H
 go_enter Try.func38, Try.ntmps38
 go_upto_region 1 with (fail)
 go_cut [16] (fun v16 wc => ∃ (kq : Nat) (x16_2 : Bool), v16 = .bool x16_2 ∧ Aside0 (corporaref36_NatDiv.j0 kq a0 a1 x16_2 = some (r1, r2, r3)) ∧ Aside0 (kq ≤ k) ∧ Aside0 (Below w.heap.size w wc))
 case first =>
  have H := HC3.out
  clear HC3
  replace H := Option.bind_eq_some_iff.mp H
  obtain ⟨t903, A40, H⟩ := H
  replace H : (if t903 = true then ((corporaref36_Valid.f k a1).bind fun t904 => (corporaref36_NatDiv.j0 k a0 a1 (!t904))) else (corporaref36_NatDiv.j0 k a0 a1 true)) = some (r1, r2, r3) := H
  have A4 := Aside0.mk A40
  clear A40
  by_cases c5 : t903 = true
  ·subst c5
   have H1 : ((corporaref36_Valid.f k a1).bind fun t904 => (corporaref36_NatDiv.j0 k a0 a1 (!t904))) = some (r1, r2, r3) := by rw [if_pos rfl] at H; exact H
   clear H
   have H := H1
   clear H1
   replace H := Option.bind_eq_some_iff.mp H
   obtain ⟨t904, A60, H⟩ := H
   replace H : (corporaref36_NatDiv.j0 k a0 a1 (!t904)) = some (r1, r2, r3) := H
   have A6 := Aside0.mk A60
   clear A60
   have H' := Aside0.mk H
   clear H
   go_wp2_with (first | ((with_reducible refine gate_callee (f := 98) rfl ?_); refine goesL_ (some 10) rfl rfl Try.func98 (by kernel_rfl) rfl #[.string a0] rfl ga ?_; (with_reducible refine (corporaref36_Valid.calls k a0 true _ A4.out).mono ?_); rintro e w' ⟨rfl, ⟨nd, rfl⟩⟩; refine ⟨_, rfl, ?_⟩) | (go_at_call 98; (with_reducible refine (corporaref36_Valid.calls k a1 t904 _ A6.out).mono ?_); rintro e w' ⟨rfl, ⟨nd, rfl⟩⟩))
   go_meet
   case rel => exact ⟨_, (!t904), sv, H', ⟨by first | omega | exact Nat.le_refl _⟩, ⟨by first | exact bl HB | exact HB.out⟩⟩
  ·replace c5 := Bool.eq_false_iff.mpr c5
   subst c5
   have H1 : (corporaref36_NatDiv.j0 k a0 a1 true) = some (r1, r2, r3) := by rw [if_neg (show ¬ (false = true) by decide)] at H; exact H
   clear H
   have H := H1
   clear H1
   have H' := Aside0.mk H
   clear H
   go_wp2_with (first | ((with_reducible refine gate_callee (f := 98) rfl ?_); refine goesL_ (some 10) rfl rfl Try.func98 (by kernel_rfl) rfl #[.string a0] rfl ga ?_; (with_reducible refine (corporaref36_Valid.calls k a0 false _ A4.out).mono ?_); rintro e w' ⟨rfl, ⟨nd, rfl⟩⟩; refine ⟨_, rfl, ?_⟩))
   go_meet
   case rel => exact ⟨_, (true), sv, H', ⟨by first | omega | exact Nat.le_refl _⟩, ⟨by first | exact bl HB | exact HB.out⟩⟩
 case rest =>
  clear HC3
  try clear c5
  obtain ⟨kq, x16_2, rfl, HA, HJ2, HB⟩ := hcut
  cases kq with
  | zero => exact absurd HA.out (by simp [corporaref36_NatDiv.j0])
  | succ kj2 =>
   have H := HA.out
   clear HA
   simp only [corporaref36_NatDiv.j0] at H
   by_cases c7 : x16_2 = true
   ·subst c7
    have H1 : (some ((⟨#[]⟩ : ByteArray), (⟨#[]⟩ : ByteArray), 1)) = some (r1, r2, r3) := by rw [if_pos rfl] at H; exact H
    clear H
    have H := H1
    clear H1
    simp only [Option.some.injEq, Prod.mk.injEq] at H
    obtain ⟨rfl, rfl, rfl⟩ := H
    go_wp2
    go_ret3
    exact ⟨by first | rfl | (simp [errW_none, errW_some] <;> rfl) | (simp [*, errW_none, errW_some] <;> rfl), by first | exact bl HB | exact HB.out⟩
   ·replace c7 := Bool.eq_false_iff.mpr c7
    subst c7
    have H1 : (if a1.toList = ([48] : List UInt8) then (some ((⟨#[]⟩ : ByteArray), (⟨#[]⟩ : ByteArray), 25)) else ((corporaref36_Big.f kj2 a0).bind fun t905 => ((corporaref36_Big.f kj2 a1).bind fun t908 => ((corporaref36_Divide.f kj2 t905 t908).bind fun bt911 => ((corporaref36_Text.f kj2 bt911.1).bind fun t917 => ((corporaref36_Text.f kj2 bt911.2).bind fun t918 => (some (t917, t918, 0)))))))) = some (r1, r2, r3) := by rw [if_neg (show ¬ (false = true) by decide)] at H; exact H
    clear H
    have H := H1
    clear H1
    by_cases c8 : a1.toList = ([48] : List UInt8)
    ·rw [if_pos c8] at H
     have c8b0 : (a1.toList == ([48] : List UInt8)) = true := beq_iff_eq.mpr c8
     have c8b1 : (a1.toList != ([48] : List UInt8)) = false := bne_eq_false_iff_eq.mpr c8
     clear c8
     simp only [Option.some.injEq, Prod.mk.injEq] at H
     obtain ⟨rfl, rfl, rfl⟩ := H
     go_wp2
     go_ret3
     exact ⟨by first | rfl | (simp [errW_none, errW_some] <;> rfl) | (simp [*, errW_none, errW_some] <;> rfl), by first | exact bl HB | exact HB.out⟩
    ·rw [if_neg c8] at H
     have c8b0 : (a1.toList == ([48] : List UInt8)) = false := beq_eq_false_iff_ne.mpr c8
     have c8b1 : (a1.toList != ([48] : List UInt8)) = true := bne_iff_ne.mpr c8
     replace H := Option.bind_eq_some_iff.mp H
     obtain ⟨t905, A90, H⟩ := H
     replace H : ((corporaref36_Big.f kj2 a1).bind fun t908 => ((corporaref36_Divide.f kj2 t905 t908).bind fun bt911 => ((corporaref36_Text.f kj2 bt911.1).bind fun t917 => ((corporaref36_Text.f kj2 bt911.2).bind fun t918 => (some (t917, t918, 0)))))) = some (r1, r2, r3) := H
     have A9 := Aside0.mk A90
     clear A90
     replace H := Option.bind_eq_some_iff.mp H
     obtain ⟨t908, A100, H⟩ := H
     replace H : ((corporaref36_Divide.f kj2 t905 t908).bind fun bt911 => ((corporaref36_Text.f kj2 bt911.1).bind fun t917 => ((corporaref36_Text.f kj2 bt911.2).bind fun t918 => (some (t917, t918, 0))))) = some (r1, r2, r3) := H
     have A10 := Aside0.mk A100
     clear A100
     replace H := Option.bind_eq_some_iff.mp H
     obtain ⟨⟨t911, t914⟩, A110, H⟩ := H
     replace H : ((corporaref36_Text.f kj2 t911).bind fun t917 => ((corporaref36_Text.f kj2 t914).bind fun t918 => (some (t917, t918, 0)))) = some (r1, r2, r3) := H
     have A11 := Aside0.mk A110
     clear A110
     replace H := Option.bind_eq_some_iff.mp H
     obtain ⟨t917, A120, H⟩ := H
     replace H : ((corporaref36_Text.f kj2 t914).bind fun t918 => (some (t917, t918, 0))) = some (r1, r2, r3) := H
     have A12 := Aside0.mk A120
     clear A120
     replace H := Option.bind_eq_some_iff.mp H
     obtain ⟨t918, A130, H⟩ := H
     replace H : (some (t917, t918, 0)) = some (r1, r2, r3) := H
     have A13 := Aside0.mk A130
     clear A130
     simp only [Option.some.injEq, Prod.mk.injEq] at H
     obtain ⟨rfl, rfl, rfl⟩ := H
     go_wp2_with (first | ((with_reducible refine gate_callee (f := 88) rfl ?_); refine goesL_ (some 21) rfl rfl Try.func88 (by kernel_rfl) rfl #[.string a0] rfl ga ?_; (with_reducible refine (corporaref36_Big.calls kj2 a0 t905 _ A9.out).mono ?_); rintro e w14 ⟨v906, rfl, ho0, hb⟩; refine ⟨_, rfl, ?_⟩; have HO907 := Aside0.mk (Kd.V_lower (Kd.V_mono (ok' := fun k_ => True) ho0 (fun k_ hk_ => trivial)) (below_size (by first | exact bl HB | exact HB.out))); replace HB := Aside0.mk (below_step (by first | exact bl HB | exact HB.out) hb); (try clear hb); (try clear hb2); (try clear hk); (try clear hi); (try clear ho0)) | ((with_reducible refine gate_callee (f := 88) rfl ?_); refine goesL_ (some 23) rfl rfl Try.func88 (by kernel_rfl) rfl #[.string a1] rfl ga ?_; (with_reducible refine (corporaref36_Big.calls kj2 a1 t908 _ A10.out).mono ?_); rintro e w15 ⟨v909, rfl, ho0, hb⟩; refine ⟨_, rfl, ?_⟩; replace HO907 := Aside0.mk (Kd.V_below (by exact vl HO907) hb); have HO910 := Aside0.mk (Kd.V_lower (Kd.V_mono (ok' := fun k_ => True) ho0 (fun k_ hk_ => trivial)) (below_size (by first | exact bl HB | exact HB.out))); replace HB := Aside0.mk (below_step (by first | exact bl HB | exact HB.out) hb); (try clear hb); (try clear hb2); (try clear hk); (try clear hi); (try clear ho0); obtain ⟨Ao16, co16, eo16⟩ := Kd.V_slice HO907.out; subst eo16; obtain ⟨Ao17, co17, eo17⟩ := Kd.V_slice HO910.out; subst eo17) | ((with_reducible refine gate_callee (f := 103) rfl ?_); refine goesL_ (some 24) rfl rfl Try.func103 (by kernel_rfl) rfl #[.slice Ao16 t905.length co16, .slice Ao17 t908.length co17] rfl ga ?_; (with_reducible refine (corporaref36_Divide.calls kj2 _ _ t905 _ _ t908 t911 t914 _ ?side1 ?side2 ?side3 ?side4 A11.out).mono ?_); (case side1 => exact cl ((Kd.V_reads' HO907.out).2.2)); (case side2 => exact (Kd.V_reads' HO907.out).2.1); (case side3 => exact cl ((Kd.V_reads' HO910.out).2.2)); (case side4 => exact (Kd.V_reads' HO910.out).2.1); rintro e w18 ⟨v912, v915, rfl, ho0, ho1, hb⟩; refine ⟨_, rfl, ?_⟩; replace HO907 := Aside0.mk (Kd.V_below (by exact vl HO907) hb); replace HO910 := Aside0.mk (Kd.V_below (by exact vl HO910) hb); have HO913 := Aside0.mk (Kd.V_lower (Kd.V_mono (ok' := fun k_ => True) ho0 (fun k_ hk_ => trivial)) (below_size (by first | exact bl HB | exact HB.out))); have HO916 := Aside0.mk (Kd.V_lower (Kd.V_mono (ok' := fun k_ => True) ho1 (fun k_ hk_ => trivial)) (below_size (by first | exact bl HB | exact HB.out))); replace HB := Aside0.mk (below_step (by first | exact bl HB | exact HB.out) hb); (try clear hb); (try clear hb2); (try clear hk); (try clear hi); (try clear ho0); (try clear ho1); obtain ⟨Ao19, co19, eo19⟩ := Kd.V_slice HO913.out; subst eo19) | ((with_reducible refine gate_callee (f := 90) rfl ?_); refine goesL_ (some 28) rfl rfl Try.func90 (by kernel_rfl) rfl #[.slice Ao19 t911.length co19] rfl ga ?_; (with_reducible refine (corporaref36_Text.calls kj2 _ _ t911 t917 _ ?side1 ?side2 A12.out).mono ?_); (case side1 => exact cl ((Kd.V_reads' HO913.out).2.2)); (case side2 => exact (Kd.V_reads' HO913.out).2.1); rintro e w20 ⟨rfl, hb⟩; refine ⟨_, rfl, ?_⟩; replace HO907 := Aside0.mk (Kd.V_below (by exact vl HO907) hb); replace HO910 := Aside0.mk (Kd.V_below (by exact vl HO910) hb); replace HO913 := Aside0.mk (Kd.V_below (by exact vl HO913) hb); replace HO916 := Aside0.mk (Kd.V_below (by exact vl HO916) hb); replace HB := Aside0.mk (below_step (by first | exact bl HB | exact HB.out) hb); (try clear hb); (try clear hb2); (try clear hk); (try clear hi); obtain ⟨Ao21, co21, eo21⟩ := Kd.V_slice HO916.out; subst eo21) | ((with_reducible refine gate_callee (f := 90) rfl ?_); refine goesL_ (some 30) rfl rfl Try.func90 (by kernel_rfl) rfl #[.slice Ao21 t914.length co21] rfl ga ?_; (with_reducible refine (corporaref36_Text.calls kj2 _ _ t914 t918 _ ?side1 ?side2 A13.out).mono ?_); (case side1 => exact cl ((Kd.V_reads' HO916.out).2.2)); (case side2 => exact (Kd.V_reads' HO916.out).2.1); rintro e w22 ⟨rfl, hb⟩; refine ⟨_, rfl, ?_⟩; replace HO907 := Aside0.mk (Kd.V_below (by exact vl HO907) hb); replace HO910 := Aside0.mk (Kd.V_below (by exact vl HO910) hb); replace HO913 := Aside0.mk (Kd.V_below (by exact vl HO913) hb); replace HO916 := Aside0.mk (Kd.V_below (by exact vl HO916) hb); replace HB := Aside0.mk (below_step (by first | exact bl HB | exact HB.out) hb); (try clear hb); (try clear hb2); (try clear hk); (try clear hi)))
     go_ret3
     exact ⟨by first | rfl | (simp [errW_none, errW_some] <;> rfl) | (simp [*, errW_none, errW_some] <;> rfl), by first | exact bl HB | exact HB.out⟩

set_option maxHeartbeats 8000000 in
set_option maxRecDepth 100000 in
theorem corporaref36_NatGcd.calls (k : Nat) (a0 : ByteArray) (a1 : ByteArray) (r1 : ByteArray) (r2 : Int) (w : World) (h : corporaref36_NatGcd.f k a0 a1 = some (r1, r2)) :
  Calls Try.prog 39 #[.string a0, .string a1] w fun e w' => e = .returned (.tuple #[.string r1, .int .i64 r2]) ∧ Below w.heap.size w w' := by
 have HB := Aside0.mk (Below.refl w.heap.size w)
 have H : ((corporaref36_Valid.f k a0).bind fun t919 => (if t919 = true then ((corporaref36_Valid.f k a1).bind fun t920 => (corporaref36_NatGcd.j0 k a0 a1 (!t920))) else (corporaref36_NatGcd.j0 k a0 a1 true))) = some (r1, r2) := h
 clear h
 have HC3 := Aside0.mk H
 clear H
 go_enter Try.func39, Try.ntmps39
 go_upto_region 1 with (fail)
 go_cut [13] (fun v13 wc => ∃ (kq : Nat) (x13_2 : Bool), v13 = .bool x13_2 ∧ Aside0 (corporaref36_NatGcd.j0 kq a0 a1 x13_2 = some (r1, r2)) ∧ Aside0 (kq ≤ k) ∧ Aside0 (Below w.heap.size w wc))
 case first =>
  have H := HC3.out
  clear HC3
  replace H := Option.bind_eq_some_iff.mp H
  obtain ⟨t919, A40, H⟩ := H
  replace H : (if t919 = true then ((corporaref36_Valid.f k a1).bind fun t920 => (corporaref36_NatGcd.j0 k a0 a1 (!t920))) else (corporaref36_NatGcd.j0 k a0 a1 true)) = some (r1, r2) := H
  have A4 := Aside0.mk A40
  clear A40
  by_cases c5 : t919 = true
  ·subst c5
   have H1 : ((corporaref36_Valid.f k a1).bind fun t920 => (corporaref36_NatGcd.j0 k a0 a1 (!t920))) = some (r1, r2) := by rw [if_pos rfl] at H; exact H
   clear H
   have H := H1
   clear H1
   replace H := Option.bind_eq_some_iff.mp H
   obtain ⟨t920, A60, H⟩ := H
   replace H : (corporaref36_NatGcd.j0 k a0 a1 (!t920)) = some (r1, r2) := H
   have A6 := Aside0.mk A60
   clear A60
   have H' := Aside0.mk H
   clear H
   go_wp2_with (first | ((with_reducible refine gate_callee (f := 98) rfl ?_); refine goesL_ (some 7) rfl rfl Try.func98 (by kernel_rfl) rfl #[.string a0] rfl ga ?_; (with_reducible refine (corporaref36_Valid.calls k a0 true _ A4.out).mono ?_); rintro e w' ⟨rfl, ⟨nd, rfl⟩⟩; refine ⟨_, rfl, ?_⟩) | (go_at_call 98; (with_reducible refine (corporaref36_Valid.calls k a1 t920 _ A6.out).mono ?_); rintro e w' ⟨rfl, ⟨nd, rfl⟩⟩))
   go_meet
   case rel => exact ⟨_, (!t920), sv, H', ⟨by first | omega | exact Nat.le_refl _⟩, ⟨by first | exact bl HB | exact HB.out⟩⟩
  ·replace c5 := Bool.eq_false_iff.mpr c5
   subst c5
   have H1 : (corporaref36_NatGcd.j0 k a0 a1 true) = some (r1, r2) := by rw [if_neg (show ¬ (false = true) by decide)] at H; exact H
   clear H
   have H := H1
   clear H1
   have H' := Aside0.mk H
   clear H
   go_wp2_with (first | ((with_reducible refine gate_callee (f := 98) rfl ?_); refine goesL_ (some 7) rfl rfl Try.func98 (by kernel_rfl) rfl #[.string a0] rfl ga ?_; (with_reducible refine (corporaref36_Valid.calls k a0 false _ A4.out).mono ?_); rintro e w' ⟨rfl, ⟨nd, rfl⟩⟩; refine ⟨_, rfl, ?_⟩))
   go_meet
   case rel => exact ⟨_, (true), sv, H', ⟨by first | omega | exact Nat.le_refl _⟩, ⟨by first | exact bl HB | exact HB.out⟩⟩
 case rest =>
  clear HC3
  try clear c5
  obtain ⟨kq, x13_2, rfl, HA, HJ2, HB⟩ := hcut
  cases kq with
  | zero => exact absurd HA.out (by simp [corporaref36_NatGcd.j0])
  | succ kj2 =>
   have H := HA.out
   clear HA
   simp only [corporaref36_NatGcd.j0] at H
   by_cases c7 : x13_2 = true
   ·subst c7
    have H1 : (some ((⟨#[]⟩ : ByteArray), 1)) = some (r1, r2) := by rw [if_pos rfl] at H; exact H
    clear H
    have H := H1
    clear H1
    simp only [Option.some.injEq, Prod.mk.injEq] at H
    obtain ⟨rfl, rfl⟩ := H
    go_wp2
    go_ret2
    exact ⟨by first | rfl | (simp [errW_none, errW_some] <;> rfl) | (simp [*, errW_none, errW_some] <;> rfl), by first | exact bl HB | exact HB.out⟩
   ·replace c7 := Bool.eq_false_iff.mpr c7
    subst c7
    have H1 : ((corporaref36_Big.f kj2 a0).bind fun t921 => ((corporaref36_Big.f kj2 a1).bind fun t924 => ((corporaref36_Gcd.f kj2 t921 t924).bind fun t927 => ((corporaref36_done.f kj2 t927).bind fun bt930 => (some (bt930.1, bt930.2)))))) = some (r1, r2) := by rw [if_neg (show ¬ (false = true) by decide)] at H; exact H
    clear H
    have H := H1
    clear H1
    replace H := Option.bind_eq_some_iff.mp H
    obtain ⟨t921, A80, H⟩ := H
    replace H : ((corporaref36_Big.f kj2 a1).bind fun t924 => ((corporaref36_Gcd.f kj2 t921 t924).bind fun t927 => ((corporaref36_done.f kj2 t927).bind fun bt930 => (some (bt930.1, bt930.2))))) = some (r1, r2) := H
    have A8 := Aside0.mk A80
    clear A80
    replace H := Option.bind_eq_some_iff.mp H
    obtain ⟨t924, A90, H⟩ := H
    replace H : ((corporaref36_Gcd.f kj2 t921 t924).bind fun t927 => ((corporaref36_done.f kj2 t927).bind fun bt930 => (some (bt930.1, bt930.2)))) = some (r1, r2) := H
    have A9 := Aside0.mk A90
    clear A90
    replace H := Option.bind_eq_some_iff.mp H
    obtain ⟨t927, A100, H⟩ := H
    replace H : ((corporaref36_done.f kj2 t927).bind fun bt930 => (some (bt930.1, bt930.2))) = some (r1, r2) := H
    have A10 := Aside0.mk A100
    clear A100
    replace H := Option.bind_eq_some_iff.mp H
    obtain ⟨⟨t930, t931⟩, A110, H⟩ := H
    replace H : (some (t930, t931)) = some (r1, r2) := H
    have A11 := Aside0.mk A110
    clear A110
    simp only [Option.some.injEq, Prod.mk.injEq] at H
    obtain ⟨rfl, rfl⟩ := H
    go_wp2_with (first | ((with_reducible refine gate_callee (f := 88) rfl ?_); refine goesL_ (some 15) rfl rfl Try.func88 (by kernel_rfl) rfl #[.string a0] rfl ga ?_; (with_reducible refine (corporaref36_Big.calls kj2 a0 t921 _ A8.out).mono ?_); rintro e w12 ⟨v922, rfl, ho0, hb⟩; refine ⟨_, rfl, ?_⟩; have HO923 := Aside0.mk (Kd.V_lower (Kd.V_mono (ok' := fun k_ => True) ho0 (fun k_ hk_ => trivial)) (below_size (by first | exact bl HB | exact HB.out))); replace HB := Aside0.mk (below_step (by first | exact bl HB | exact HB.out) hb); (try clear hb); (try clear hb2); (try clear hk); (try clear hi); (try clear ho0)) | ((with_reducible refine gate_callee (f := 88) rfl ?_); refine goesL_ (some 17) rfl rfl Try.func88 (by kernel_rfl) rfl #[.string a1] rfl ga ?_; (with_reducible refine (corporaref36_Big.calls kj2 a1 t924 _ A9.out).mono ?_); rintro e w13 ⟨v925, rfl, ho0, hb⟩; refine ⟨_, rfl, ?_⟩; replace HO923 := Aside0.mk (Kd.V_below (by exact vl HO923) hb); have HO926 := Aside0.mk (Kd.V_lower (Kd.V_mono (ok' := fun k_ => True) ho0 (fun k_ hk_ => trivial)) (below_size (by first | exact bl HB | exact HB.out))); replace HB := Aside0.mk (below_step (by first | exact bl HB | exact HB.out) hb); (try clear hb); (try clear hb2); (try clear hk); (try clear hi); (try clear ho0); obtain ⟨Ao14, co14, eo14⟩ := Kd.V_slice HO923.out; subst eo14; obtain ⟨Ao15, co15, eo15⟩ := Kd.V_slice HO926.out; subst eo15) | ((with_reducible refine gate_callee (f := 104) rfl ?_); refine goesL_ (some 18) rfl rfl Try.func104 (by kernel_rfl) rfl #[.slice Ao14 t921.length co14, .slice Ao15 t924.length co15] rfl ga ?_; (with_reducible refine (corporaref36_Gcd.calls kj2 (fun k_ => True) _ _ t921 (fun k_ => True) _ _ t924 t927 _ ?side1 ?side2 A10.out).mono ?_); (case side1 => exact HO923.out); (case side2 => exact HO926.out); rintro e w16 ⟨v928, rfl, ho0, hb⟩; refine ⟨_, rfl, ?_⟩; replace HO923 := Aside0.mk (Kd.V_below (by exact vl HO923) hb); replace HO926 := Aside0.mk (Kd.V_below (by exact vl HO926) hb); have HO929 := Aside0.mk (Kd.V_lower (Kd.V_mono (ok' := fun k_ => True) ho0 (fun k_ hk_ => trivial)) (below_size (by first | exact bl HB | exact HB.out))); replace HB := Aside0.mk (below_step (by first | exact bl HB | exact HB.out) hb); (try clear hb); (try clear hb2); (try clear hk); (try clear hi); (try clear ho0); obtain ⟨Ao17, co17, eo17⟩ := Kd.V_slice HO929.out; subst eo17) | ((with_reducible refine gate_callee (f := 99) rfl ?_); refine goesL_ (some 19) rfl rfl Try.func99 (by kernel_rfl) rfl #[.slice Ao17 t927.length co17] rfl ga ?_; (with_reducible refine (corporaref36_done.calls kj2 _ _ t927 t930 t931 _ ?side1 ?side2 A11.out).mono ?_); (case side1 => exact cl ((Kd.V_reads' HO929.out).2.2)); (case side2 => exact (Kd.V_reads' HO929.out).2.1); rintro e w18 ⟨rfl, hb⟩; refine ⟨_, rfl, ?_⟩; replace HO923 := Aside0.mk (Kd.V_below (by exact vl HO923) hb); replace HO926 := Aside0.mk (Kd.V_below (by exact vl HO926) hb); replace HO929 := Aside0.mk (Kd.V_below (by exact vl HO929) hb); replace HB := Aside0.mk (below_step (by first | exact bl HB | exact HB.out) hb); (try clear hb); (try clear hb2); (try clear hk); (try clear hi)))
    go_ret2
    exact ⟨by first | rfl | (simp [errW_none, errW_some] <;> rfl) | (simp [*, errW_none, errW_some] <;> rfl), by first | exact bl HB | exact HB.out⟩

set_option maxHeartbeats 8000000 in
set_option maxRecDepth 100000 in
theorem corporaref36_NatCompare.calls (k : Nat) (a0 : ByteArray) (a1 : ByteArray) (r : Int) (w : World) (h : corporaref36_NatCompare.f k a0 a1 = some r) :
  Calls Try.prog 40 #[.string a0, .string a1] w fun e w' => e = .returned (.int .i64 r) ∧ Below w.heap.size w w' := by
 have HB := Aside0.mk (Below.refl w.heap.size w)
 have H : ((corporaref36_Valid.f k a0).bind fun t932 => (if t932 = true then ((corporaref36_Valid.f k a1).bind fun t933 => (corporaref36_NatCompare.j0 k a0 a1 (!t933))) else (corporaref36_NatCompare.j0 k a0 a1 true))) = some r := h
 clear h
 have HC3 := Aside0.mk H
 clear H
 go_enter Try.func40, Try.ntmps40
 go_upto_region 1 with (fail)
 go_cut [12] (fun v12 wc => ∃ (kq : Nat) (x12_2 : Bool), v12 = .bool x12_2 ∧ Aside0 (corporaref36_NatCompare.j0 kq a0 a1 x12_2 = some r) ∧ Aside0 (kq ≤ k) ∧ Aside0 (Below w.heap.size w wc))
 case first =>
  have H := HC3.out
  clear HC3
  replace H := Option.bind_eq_some_iff.mp H
  obtain ⟨t932, A40, H⟩ := H
  replace H : (if t932 = true then ((corporaref36_Valid.f k a1).bind fun t933 => (corporaref36_NatCompare.j0 k a0 a1 (!t933))) else (corporaref36_NatCompare.j0 k a0 a1 true)) = some r := H
  have A4 := Aside0.mk A40
  clear A40
  by_cases c5 : t932 = true
  ·subst c5
   have H1 : ((corporaref36_Valid.f k a1).bind fun t933 => (corporaref36_NatCompare.j0 k a0 a1 (!t933))) = some r := by rw [if_pos rfl] at H; exact H
   clear H
   have H := H1
   clear H1
   replace H := Option.bind_eq_some_iff.mp H
   obtain ⟨t933, A60, H⟩ := H
   replace H : (corporaref36_NatCompare.j0 k a0 a1 (!t933)) = some r := H
   have A6 := Aside0.mk A60
   clear A60
   have H' := Aside0.mk H
   clear H
   go_wp2_with (first | ((with_reducible refine gate_callee (f := 98) rfl ?_); refine goesL_ (some 6) rfl rfl Try.func98 (by kernel_rfl) rfl #[.string a0] rfl ga ?_; (with_reducible refine (corporaref36_Valid.calls k a0 true _ A4.out).mono ?_); rintro e w' ⟨rfl, ⟨nd, rfl⟩⟩; refine ⟨_, rfl, ?_⟩) | (go_at_call 98; (with_reducible refine (corporaref36_Valid.calls k a1 t933 _ A6.out).mono ?_); rintro e w' ⟨rfl, ⟨nd, rfl⟩⟩))
   go_meet
   case rel => exact ⟨_, (!t933), sv, H', ⟨by first | omega | exact Nat.le_refl _⟩, ⟨by first | exact bl HB | exact HB.out⟩⟩
  ·replace c5 := Bool.eq_false_iff.mpr c5
   subst c5
   have H1 : (corporaref36_NatCompare.j0 k a0 a1 true) = some r := by rw [if_neg (show ¬ (false = true) by decide)] at H; exact H
   clear H
   have H := H1
   clear H1
   have H' := Aside0.mk H
   clear H
   go_wp2_with (first | ((with_reducible refine gate_callee (f := 98) rfl ?_); refine goesL_ (some 6) rfl rfl Try.func98 (by kernel_rfl) rfl #[.string a0] rfl ga ?_; (with_reducible refine (corporaref36_Valid.calls k a0 false _ A4.out).mono ?_); rintro e w' ⟨rfl, ⟨nd, rfl⟩⟩; refine ⟨_, rfl, ?_⟩))
   go_meet
   case rel => exact ⟨_, (true), sv, H', ⟨by first | omega | exact Nat.le_refl _⟩, ⟨by first | exact bl HB | exact HB.out⟩⟩
 case rest =>
  clear HC3
  try clear c5
  obtain ⟨kq, x12_2, rfl, HA, HJ2, HB⟩ := hcut
  cases kq with
  | zero => exact absurd HA.out (by simp [corporaref36_NatCompare.j0])
  | succ kj2 =>
   have H := HA.out
   clear HA
   simp only [corporaref36_NatCompare.j0] at H
   by_cases c7 : x12_2 = true
   ·subst c7
    have H1 : (some 0) = some r := by rw [if_pos rfl] at H; exact H
    clear H
    have H := H1
    clear H1
    obtain rfl := Option.some.inj H
    go_wp2
    go_ret
    exact ⟨by first | rfl | (simp [errW_none, errW_some] <;> rfl) | (simp [*, errW_none, errW_some] <;> rfl), by first | exact bl HB | exact HB.out⟩
   ·replace c7 := Bool.eq_false_iff.mpr c7
    subst c7
    have H1 : ((corporaref36_Big.f kj2 a0).bind fun t934 => ((corporaref36_Big.f kj2 a1).bind fun t937 => ((corporaref36_Less.f kj2 t934 t937).bind fun t940 => (some t940)))) = some r := by rw [if_neg (show ¬ (false = true) by decide)] at H; exact H
    clear H
    have H := H1
    clear H1
    replace H := Option.bind_eq_some_iff.mp H
    obtain ⟨t934, A80, H⟩ := H
    replace H : ((corporaref36_Big.f kj2 a1).bind fun t937 => ((corporaref36_Less.f kj2 t934 t937).bind fun t940 => (some t940))) = some r := H
    have A8 := Aside0.mk A80
    clear A80
    replace H := Option.bind_eq_some_iff.mp H
    obtain ⟨t937, A90, H⟩ := H
    replace H : ((corporaref36_Less.f kj2 t934 t937).bind fun t940 => (some t940)) = some r := H
    have A9 := Aside0.mk A90
    clear A90
    replace H := Option.bind_eq_some_iff.mp H
    obtain ⟨t940, A100, H⟩ := H
    replace H : (some t940) = some r := H
    have A10 := Aside0.mk A100
    clear A100
    obtain rfl := Option.some.inj H
    go_wp2_with (first | ((with_reducible refine gate_callee (f := 88) rfl ?_); refine goesL_ (some 14) rfl rfl Try.func88 (by kernel_rfl) rfl #[.string a0] rfl ga ?_; (with_reducible refine (corporaref36_Big.calls kj2 a0 t934 _ A8.out).mono ?_); rintro e w11 ⟨v935, rfl, ho0, hb⟩; refine ⟨_, rfl, ?_⟩; have HO936 := Aside0.mk (Kd.V_lower (Kd.V_mono (ok' := fun k_ => True) ho0 (fun k_ hk_ => trivial)) (below_size (by first | exact bl HB | exact HB.out))); replace HB := Aside0.mk (below_step (by first | exact bl HB | exact HB.out) hb); (try clear hb); (try clear hb2); (try clear hk); (try clear hi); (try clear ho0)) | ((with_reducible refine gate_callee (f := 88) rfl ?_); refine goesL_ (some 16) rfl rfl Try.func88 (by kernel_rfl) rfl #[.string a1] rfl ga ?_; (with_reducible refine (corporaref36_Big.calls kj2 a1 t937 _ A9.out).mono ?_); rintro e w12 ⟨v938, rfl, ho0, hb⟩; refine ⟨_, rfl, ?_⟩; replace HO936 := Aside0.mk (Kd.V_below (by exact vl HO936) hb); have HO939 := Aside0.mk (Kd.V_lower (Kd.V_mono (ok' := fun k_ => True) ho0 (fun k_ hk_ => trivial)) (below_size (by first | exact bl HB | exact HB.out))); replace HB := Aside0.mk (below_step (by first | exact bl HB | exact HB.out) hb); (try clear hb); (try clear hb2); (try clear hk); (try clear hi); (try clear ho0); obtain ⟨Ao13, co13, eo13⟩ := Kd.V_slice HO936.out; subst eo13; obtain ⟨Ao14, co14, eo14⟩ := Kd.V_slice HO939.out; subst eo14) | ((with_reducible refine gate_callee (f := 101) rfl ?_); refine goesL_ (some 17) rfl rfl Try.func101 (by kernel_rfl) rfl #[.slice Ao13 t934.length co13, .slice Ao14 t937.length co14] rfl ga ?_; (with_reducible refine (corporaref36_Less.calls kj2 _ _ t934 _ _ t937 t940 _ ?side1 ?side2 ?side3 ?side4 A10.out).mono ?_); (case side1 => exact cl ((Kd.V_reads' HO936.out).2.2)); (case side2 => exact (Kd.V_reads' HO936.out).2.1); (case side3 => exact cl ((Kd.V_reads' HO939.out).2.2)); (case side4 => exact (Kd.V_reads' HO939.out).2.1); rintro e w' ⟨rfl, ⟨nd, rfl⟩⟩; refine ⟨_, rfl, ?_⟩))
    go_ret
    exact ⟨by first | rfl | (simp [errW_none, errW_some] <;> rfl) | (simp [*, errW_none, errW_some] <;> rfl), by first | exact bl HB | exact HB.out⟩

end Go.Proofs.Ytccgfmjcldifcaa.P
