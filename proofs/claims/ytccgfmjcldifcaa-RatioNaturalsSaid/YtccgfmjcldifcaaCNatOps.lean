/- What each Go function computes, as plain Lean functions, and the walks that show it; each theorem's conditions stand in it. -/
import Derived.Test.YtccgfmjcldifcaaT
import Derived.Test.YtccgfmjcldifcaaCAdd
import Derived.Test.YtccgfmjcldifcaaCMul
import Derived.Test.YtccgfmjcldifcaaCNatDiv
import Derived.Test.YtccgfmjcldifcaaCStr
import Derived.Test.YtccgfmjcldifcaaCValid
import Derived.Test.YtccgfmjcldifcaaDA
namespace Go.Proofs.Ytccgfmjcldifcaa.P
open Go.RowKit Go.Proofs.YtccgfmjcldifcaaW.PrintWords Go.Proofs.YtccgfmjcldifcaaW.PrintLast Go.Proofs.YtccgfmjcldifcaaW.PrintMore
attribute [local go_sem] max2_int min2_int max_two min_two max_three min_three max_four min_four   -- for this text's walks alone
set_option linter.unusedVariables false
set_option linter.unusedSimpArgs false

set_option maxHeartbeats 8000000 in
set_option maxRecDepth 100000 in
theorem operate_Mul.calls (k : Nat) (a0 : ByteArray) (a1 : ByteArray) (r1 : ByteArray) (r2 : Int) (w : World) (h : ratio_NatMul.f k a0 a1 = some (r1, r2)) :
  Calls Try.prog 77 #[.string a0, .string a1, .func (.func 78) #[] #[]] w fun e w' => e = .returned (.tuple #[.string r1, .int .i64 r2]) ∧ Below w.heap.size w w' := by
 have H := h
 unfold ratio_NatMul.f at H
 clear h
 replace H := Option.bind_eq_some_iff.mp H
 obtain ⟨⟨x, y, ok⟩, A30, H⟩ := H
 have A3 := Aside0.mk A30
 clear A30
 cases ok with
 | false =>
  have H1 : some ((⟨#[]⟩ : ByteArray), (1 : Int)) = some (r1, r2) := H
  clear H
  simp only [Option.some.injEq, Prod.mk.injEq] at H1
  obtain ⟨rfl, rfl⟩ := H1
  go_enter Try.func77, Try.ntmps77
  go_wp2_with (go_at_call 73; refine (ratio_both.calls k a0 a1 x y false _ A3.out).mono ?_; rintro e w1 ⟨v0, v1, rfl, ho0, ho1, hb1⟩; have HB1 := Aside0.mk hb1; clear hb1; clear ho0; clear ho1)
  go_ret2
  exact ⟨rfl, HB1.out⟩
 | true =>
  have H1 : ((bignat_Nat_Mul.f k x y).bind fun t => ratio_text.f k t) = some (r1, r2) := H
  clear H
  replace H1 := Option.bind_eq_some_iff.mp H1
  obtain ⟨t, A40, A50⟩ := H1
  have A4 := Aside0.mk A40
  have A5 := Aside0.mk A50
  clear A40
  clear A50
  go_enter Try.func77, Try.ntmps77
  go_wp2_with (go_at_call 73; refine (ratio_both.calls k a0 a1 x y true _ A3.out).mono ?_; rintro e w1 ⟨v0, v1, rfl, ho0, ho1, hb1⟩; have HB1 := Aside0.mk hb1; have HO0 := Aside0.mk ho0; have HO1 := Aside0.mk ho1; clear hb1; clear ho0; clear ho1; obtain ⟨p0, c0, e0⟩ := Kd.R_slice HO0.out; subst e0; obtain ⟨p1, c1, e1⟩ := Kd.R_slice HO1.out; subst e1)
  refine (bignat_Nat_Mul.calls k _ _ x _ _ y t _ (Kd.R_reads' HO0.out).2.2 (Kd.R_reads' HO0.out).2.1 (Kd.R_reads' HO1.out).2.2 (Kd.R_reads' HO1.out).2.1 A4.out).mono ?_
  rintro e w2 ⟨v2, rfl, ho2, hb2⟩
  have HB2 := Aside0.mk hb2
  have HO2 := Aside0.mk ho2
  clear hb2
  clear ho2
  obtain ⟨p2, c2, e2⟩ := Kd.V_slice HO2.out
  subst e2
  go_wp2_with fail
  refine (ratio_text.calls k _ _ t r1 r2 _ (Kd.V_reads' HO2.out).2.2 (Kd.V_reads' HO2.out).2.1 A5.out).mono ?_
  rintro e w3 ⟨rfl, hb3⟩
  have HB3 := Aside0.mk hb3
  clear hb3
  go_wp2_with fail
  go_ret2
  exact ⟨rfl, below_step (below_step HB1.out HB2.out) HB3.out⟩
set_option maxHeartbeats 8000000 in
set_option maxRecDepth 100000 in
theorem ratio_NatMul.calls (k : Nat) (a0 : ByteArray) (a1 : ByteArray) (r1 : ByteArray) (r2 : Int) (w : World) (h : ratio_NatMul.f k a0 a1 = some (r1, r2)) :
  Calls Try.prog 20 #[.string a0, .string a1] w fun e w' => e = .returned (.tuple #[.string r1, .int .i64 r2]) ∧ Below w.heap.size w w' := by
 go_enter Try.func20, Try.ntmps20
 go_wp2_with fail
 refine (operate_Mul.calls k a0 a1 r1 r2 _ h).mono ?_
 rintro e w1 ⟨rfl, hb1⟩
 go_wp2_with fail
 go_ret2
 exact ⟨rfl, hb1⟩

set_option maxHeartbeats 8000000 in
set_option maxRecDepth 100000 in
theorem operate_Add.calls (k : Nat) (a0 : ByteArray) (a1 : ByteArray) (r1 : ByteArray) (r2 : Int) (w : World) (h : ratio_NatAdd.f k a0 a1 = some (r1, r2)) :
  Calls Try.prog 77 #[.string a0, .string a1, .func (.func 79) #[] #[]] w fun e w' => e = .returned (.tuple #[.string r1, .int .i64 r2]) ∧ Below w.heap.size w w' := by
 have H := h
 unfold ratio_NatAdd.f at H
 clear h
 replace H := Option.bind_eq_some_iff.mp H
 obtain ⟨⟨x, y, ok⟩, A30, H⟩ := H
 have A3 := Aside0.mk A30
 clear A30
 cases ok with
 | false =>
  have H1 : some ((⟨#[]⟩ : ByteArray), (1 : Int)) = some (r1, r2) := H
  clear H
  simp only [Option.some.injEq, Prod.mk.injEq] at H1
  obtain ⟨rfl, rfl⟩ := H1
  go_enter Try.func77, Try.ntmps77
  go_wp2_with (go_at_call 73; refine (ratio_both.calls k a0 a1 x y false _ A3.out).mono ?_; rintro e w1 ⟨v0, v1, rfl, ho0, ho1, hb1⟩; have HB1 := Aside0.mk hb1; clear hb1; clear ho0; clear ho1)
  go_ret2
  exact ⟨rfl, HB1.out⟩
 | true =>
  have H1 : ((bignat_Nat_Add.f k x y).bind fun t => ratio_text.f k t) = some (r1, r2) := H
  clear H
  replace H1 := Option.bind_eq_some_iff.mp H1
  obtain ⟨t, A40, A50⟩ := H1
  have A4 := Aside0.mk A40
  have A5 := Aside0.mk A50
  clear A40
  clear A50
  go_enter Try.func77, Try.ntmps77
  go_wp2_with (go_at_call 73; refine (ratio_both.calls k a0 a1 x y true _ A3.out).mono ?_; rintro e w1 ⟨v0, v1, rfl, ho0, ho1, hb1⟩; have HB1 := Aside0.mk hb1; have HO0 := Aside0.mk ho0; have HO1 := Aside0.mk ho1; clear hb1; clear ho0; clear ho1; obtain ⟨p0, c0, e0⟩ := Kd.R_slice HO0.out; subst e0; obtain ⟨p1, c1, e1⟩ := Kd.R_slice HO1.out; subst e1)
  refine (bignat_Nat_Add.calls k _ _ x _ _ y t _ (Kd.R_reads' HO0.out).2.2 (Kd.R_reads' HO0.out).2.1 (Kd.R_reads' HO1.out).2.2 (Kd.R_reads' HO1.out).2.1 A4.out).mono ?_
  rintro e w2 ⟨v2, rfl, ho2, hb2⟩
  have HB2 := Aside0.mk hb2
  have HO2 := Aside0.mk ho2
  clear hb2
  clear ho2
  obtain ⟨p2, c2, e2⟩ := Kd.V_slice HO2.out
  subst e2
  go_wp2_with fail
  refine (ratio_text.calls k _ _ t r1 r2 _ (Kd.V_reads' HO2.out).2.2 (Kd.V_reads' HO2.out).2.1 A5.out).mono ?_
  rintro e w3 ⟨rfl, hb3⟩
  have HB3 := Aside0.mk hb3
  clear hb3
  go_wp2_with fail
  go_ret2
  exact ⟨rfl, below_step (below_step HB1.out HB2.out) HB3.out⟩
set_option maxHeartbeats 8000000 in
set_option maxRecDepth 100000 in
theorem ratio_NatAdd.calls (k : Nat) (a0 : ByteArray) (a1 : ByteArray) (r1 : ByteArray) (r2 : Int) (w : World) (h : ratio_NatAdd.f k a0 a1 = some (r1, r2)) :
  Calls Try.prog 21 #[.string a0, .string a1] w fun e w' => e = .returned (.tuple #[.string r1, .int .i64 r2]) ∧ Below w.heap.size w w' := by
 go_enter Try.func21, Try.ntmps21
 go_wp2_with fail
 refine (operate_Add.calls k a0 a1 r1 r2 _ h).mono ?_
 rintro e w1 ⟨rfl, hb1⟩
 go_wp2_with fail
 go_ret2
 exact ⟨rfl, hb1⟩

set_option maxHeartbeats 8000000 in
set_option maxRecDepth 100000 in
theorem operate_Gcd.calls (k : Nat) (a0 : ByteArray) (a1 : ByteArray) (r1 : ByteArray) (r2 : Int) (w : World) (h : ratio_NatGcd.f k a0 a1 = some (r1, r2)) :
  Calls Try.prog 77 #[.string a0, .string a1, .func (.func 97) #[] #[]] w fun e w' => e = .returned (.tuple #[.string r1, .int .i64 r2]) ∧ Below w.heap.size w w' := by
 have H := h
 unfold ratio_NatGcd.f at H
 clear h
 replace H := Option.bind_eq_some_iff.mp H
 obtain ⟨⟨x, y, ok⟩, A30, H⟩ := H
 have A3 := Aside0.mk A30
 clear A30
 cases ok with
 | false =>
  have H1 : some ((⟨#[]⟩ : ByteArray), (1 : Int)) = some (r1, r2) := H
  clear H
  simp only [Option.some.injEq, Prod.mk.injEq] at H1
  obtain ⟨rfl, rfl⟩ := H1
  go_enter Try.func77, Try.ntmps77
  go_wp2_with (go_at_call 73; refine (ratio_both.calls k a0 a1 x y false _ A3.out).mono ?_; rintro e w1 ⟨v0, v1, rfl, ho0, ho1, hb1⟩; have HB1 := Aside0.mk hb1; clear hb1; clear ho0; clear ho1)
  go_ret2
  exact ⟨rfl, HB1.out⟩
 | true =>
  have H1 : ((bignat_Gcd.f k x y).bind fun t => ratio_text.f k t) = some (r1, r2) := H
  clear H
  replace H1 := Option.bind_eq_some_iff.mp H1
  obtain ⟨t, A40, A50⟩ := H1
  have A4 := Aside0.mk A40
  have A5 := Aside0.mk A50
  clear A40
  clear A50
  go_enter Try.func77, Try.ntmps77
  go_wp2_with (go_at_call 73; refine (ratio_both.calls k a0 a1 x y true _ A3.out).mono ?_; rintro e w1 ⟨v0, v1, rfl, ho0, ho1, hb1⟩; have HB1 := Aside0.mk hb1; have HO0 := Aside0.mk ho0; have HO1 := Aside0.mk ho1; clear hb1; clear ho0; clear ho1; obtain ⟨p0, c0, e0⟩ := Kd.R_slice HO0.out; subst e0; obtain ⟨p1, c1, e1⟩ := Kd.R_slice HO1.out; subst e1)
  refine (bignat_Gcd.calls k (fun _ => True) _ _ x (fun _ => True) _ _ y t _ (Kd.V_mono (Kd.R_V HO0.out) (fun _ _ => trivial)) (Kd.V_mono (Kd.R_V HO1.out) (fun _ _ => trivial)) A4.out).mono ?_
  rintro e w2 ⟨v2, rfl, ho2, hb2⟩
  have HB2 := Aside0.mk hb2
  have HO2 := Aside0.mk ho2
  clear hb2
  clear ho2
  obtain ⟨p2, c2, e2⟩ := Kd.V_slice HO2.out
  subst e2
  go_wp2_with fail
  refine (ratio_text.calls k _ _ t r1 r2 _ (Kd.V_reads' HO2.out).2.2 (Kd.V_reads' HO2.out).2.1 A5.out).mono ?_
  rintro e w3 ⟨rfl, hb3⟩
  have HB3 := Aside0.mk hb3
  clear hb3
  go_wp2_with fail
  go_ret2
  exact ⟨rfl, below_step (below_step HB1.out HB2.out) HB3.out⟩
set_option maxHeartbeats 8000000 in
set_option maxRecDepth 100000 in
theorem ratio_NatGcd.calls (k : Nat) (a0 : ByteArray) (a1 : ByteArray) (r1 : ByteArray) (r2 : Int) (w : World) (h : ratio_NatGcd.f k a0 a1 = some (r1, r2)) :
  Calls Try.prog 34 #[.string a0, .string a1] w fun e w' => e = .returned (.tuple #[.string r1, .int .i64 r2]) ∧ Below w.heap.size w w' := by
 go_enter Try.func34, Try.ntmps34
 go_wp2_with fail
 refine (operate_Gcd.calls k a0 a1 r1 r2 _ h).mono ?_
 rintro e w1 ⟨rfl, hb1⟩
 go_wp2_with fail
 go_ret2
 exact ⟨rfl, hb1⟩

end Go.Proofs.Ytccgfmjcldifcaa.P
