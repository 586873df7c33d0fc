/- Walks of Go functions: what they compute; each theorem's conditions stand in it. -/
import Derived.Test.YtccgfmjcldifcaaT
import Derived.Test.YtccgfmjcldifcaaCCmp
import Derived.Test.YtccgfmjcldifcaaCMul
import Derived.Test.YtccgfmjcldifcaaCSmall
import Derived.Test.YtccgfmjcldifcaaCStr
import Derived.Test.YtccgfmjcldifcaaCValid
import Derived.Test.YtccgfmjcldifcaaDA
import Derived.Test.YtccgfmjcldifcaaDE
namespace Go.Proofs.Ytccgfmjcldifcaa.P
open Go.RowKit Go.Proofs.YtccgfmjcldifcaaW.PrintWords Go.Proofs.YtccgfmjcldifcaaW.PrintLast Go.Proofs.YtccgfmjcldifcaaW.PrintMore
attribute [local go_sem] max2_int min2_int max_two min_two max_three min_three max_four min_four
set_option linter.unusedVariables false
set_option linter.unusedSimpArgs false
set_option maxHeartbeats 8000000 in
set_option maxRecDepth 100000 in
theorem ratio_NatPower.calls (k : Nat) (a0 : ByteArray) (a1 : Int) (r1 : ByteArray) (r2 : Int) (w : World) (h : ratio_NatPower.f k a0 a1 = some (r1, r2)) :
  Calls Try.prog 123 #[.string a0, .int .i64 a1] w fun e w' => e = .returned (.tuple #[.string r1, .int .i64 r2]) ∧ Below w.heap.size w w' := by
 have HB := Aside0.mk (Below.refl w.heap.size w)
 have H : Option.bind (ratio_Valid.f k a0) _ = _ := h
 clear h
 have HC3 := Aside0.mk H
 clear H
 go_enter Try.func123, Try.ntmps123
 go_upto_region 1 with (fail)
 go_cut [15] (fun v15 wc => ∃ (kq : Nat) (x15_2 : Bool), v15 = .bool x15_2 ∧ Aside0 (ratio_NatPower.j0 kq a0 a1 x15_2 = some (r1, r2)) ∧ Aside0 (kq ≤ k) ∧ Aside0 (Below w.heap.size w wc))
 case first =>
  have H := HC3.out
  clear HC3
  replace H := Option.bind_eq_some_iff.mp H
  obtain ⟨t562, A40, H⟩ := H
  replace H : (if t562 = true then (ratio_NatPower.j0 k a0 a1 (decide (a1 < 0))) else (ratio_NatPower.j0 k a0 a1 true)) = some (r1, r2) := H
  have A4 := Aside0.mk A40
  clear A40
  by_cases c5 : t562 = true
  ·subst c5
   have H1 : (ratio_NatPower.j0 k a0 a1 (decide (a1 < 0))) = some (r1, r2) := by rw [if_pos rfl] at H; exact H
   clear H
   have H := H1
   clear H1
   have H' := Aside0.mk H
   clear H
   go_wp2_with (first | ((with_reducible refine gate_callee (f := 80) rfl ?_); refine goesL_ (some 10) rfl rfl Try.func80 (by kernel_rfl) rfl #[.string a0] rfl ga ?_; (with_reducible refine (ratio_Valid.calls k a0 true _ A4.out).mono ?_); rintro e w' ⟨rfl, ⟨nd, rfl⟩⟩; refine ⟨_, rfl, ?_⟩))
   go_meet
   case rel => exact ⟨_, (decide (a1 < 0)), sv, H', ⟨by first | omega | exact Nat.le_refl _⟩, ⟨by first | exact bl HB | exact HB.out⟩⟩
  ·replace c5 := Bool.eq_false_iff.mpr c5
   subst c5
   have H1 : (ratio_NatPower.j0 k a0 a1 true) = some (r1, r2) := by rw [if_neg (show ¬ (false = true) by decide)] at H; exact H
   clear H
   have H := H1
   clear H1
   have H' := Aside0.mk H
   clear H
   go_wp2_with (first | ((with_reducible refine gate_callee (f := 80) rfl ?_); refine goesL_ (some 10) rfl rfl Try.func80 (by kernel_rfl) rfl #[.string a0] rfl ga ?_; (with_reducible refine (ratio_Valid.calls k a0 false _ A4.out).mono ?_); rintro e w' ⟨rfl, ⟨nd, rfl⟩⟩; refine ⟨_, rfl, ?_⟩))
   go_meet
   case rel => exact ⟨_, (true), sv, H', ⟨by first | omega | exact Nat.le_refl _⟩, ⟨by first | exact bl HB | exact HB.out⟩⟩
 case rest =>
  clear HC3
  try clear c1
  try clear c5
  obtain ⟨kq, x15_2, rfl, HA, HJ2, HB⟩ := hcut
  cases kq with
  | zero => exact absurd HA.out (by simp [ratio_NatPower.j0])
  | succ kj2 =>
   have H := HA.out
   clear HA
   simp only [ratio_NatPower.j0] at H
   by_cases c6 : x15_2 = true
   ·subst c6
    have H1 : (some ((⟨#[]⟩ : ByteArray), 1)) = some (r1, r2) := by rw [if_pos rfl] at H; exact H
    clear H
    have H := H1
    clear H1
    simp only [Option.some.injEq, Prod.mk.injEq] at H
    obtain ⟨rfl, rfl⟩ := H
    go_wp2
    go_ret2
    exact ⟨er, by first | exact bl HB | exact HB.out⟩
   ·replace c6 := Bool.eq_false_iff.mpr c6
    subst c6
    have H1 : (if a1 = 0 then _ else _) = _ := (if_neg (show ¬ (false = true) by decide)).symm.trans H
    clear H
    have H := H1
    clear H1
    have HC7 := Aside0.mk H
    clear H
    go_upto_region 3 with (fail)
    go_cut [21] (fun v21 wc => ∃ (kq : Nat) (x21_6 : Bool), v21 = .bool x21_6 ∧ Aside0 (ratio_NatPower.j1 kq a0 a1 x21_6 = some (r1, r2)) ∧ Aside0 (kq ≤ kj2) ∧ Aside0 (Below w.heap.size w wc))
    case first =>
     have H := HC7.out
     clear HC7
     by_cases c8 : a1 = 0
     ·rw [if_pos c8] at H
      have c8b0 : (a1 == 0) = true := beq_iff_eq.mpr c8
      have c8b1 : (a1 != 0) = false := bne_eq_false_iff_eq.mpr c8
      clear c8
      (first | rw [c8b0] | (simp only [i64_w, i32_w]; rw [c8b0]) | skip)
      have H' := Aside0.mk H
      clear H
      go_wp2
      go_meet
      case rel => exact ⟨_, (true), sv, H', ⟨by have := HJ2.out; first | omega | exact Nat.le_refl _⟩, ⟨by first | exact bl HB | exact HB.out⟩⟩
     ·rw [if_neg c8] at H
      have c8b0 : (a1 == 0) = false := beq_eq_false_iff_ne.mpr c8
      have c8b1 : (a1 != 0) = true := bne_iff_ne.mpr c8
      (first | rw [c8b0] | (simp only [i64_w, i32_w]; rw [c8b0]) | skip)
      have H' := Aside0.mk H
      clear H
      go_wp2
      go_meet
      case rel => exact ⟨_, ((a0.toList == ([49] : List UInt8))), sv, H', ⟨by have := HJ2.out; first | omega | exact Nat.le_refl _⟩, ⟨by first | exact bl HB | exact HB.out⟩⟩
    case rest =>
     clear HC7
     try clear c1
     try clear c5
     try clear c6
     try clear c8b0
     try clear c8b1
     obtain ⟨kq, x21_6, rfl, HA, HJ6, HB⟩ := hcut
     cases kq with
     | zero => exact absurd HA.out (by simp [ratio_NatPower.j1])
     | succ kj6 =>
      have H := HA.out
      clear HA
      simp only [ratio_NatPower.j1] at H
      by_cases c9 : x21_6 = true
      ·subst c9
       have H1 : (some ((⟨#[49]⟩ : ByteArray), 0)) = some (r1, r2) := by rw [if_pos rfl] at H; exact H
       clear H
       have H := H1
       clear H1
       simp only [Option.some.injEq, Prod.mk.injEq] at H
       obtain ⟨rfl, rfl⟩ := H
       go_wp2
       go_ret2
       exact ⟨er, by first | exact bl HB | exact HB.out⟩
      ·replace c9 := Bool.eq_false_iff.mpr c9
       subst c9
       have H1 : (if a0.toList = ([48] : List UInt8) then _ else _) = _ := (if_neg (show ¬ (false = true) by decide)).symm.trans H
       clear H
       have H := H1
       clear H1
       by_cases c10 : a0.toList = ([48] : List UInt8)
       ·rw [if_pos c10] at H
        have c10b0 : (a0.toList == ([48] : List UInt8)) = true := beq_iff_eq.mpr c10
        have c10b1 : (a0.toList != ([48] : List UInt8)) = false := bne_eq_false_iff_eq.mpr c10
        clear c10
        simp only [Option.some.injEq, Prod.mk.injEq] at H
        obtain ⟨rfl, rfl⟩ := H
        go_wp2
        go_ret2
        exact ⟨er, by first | exact bl HB | exact HB.out⟩
       ·rw [if_neg c10] at H
        have c10b0 : (a0.toList == ([48] : List UInt8)) = false := beq_eq_false_iff_ne.mpr c10
        have c10b1 : (a0.toList != ([48] : List UInt8)) = true := bne_iff_ne.mpr c10
        replace H := Option.bind_eq_some_iff.mp H
        obtain ⟨t563, A110, H⟩ := H
        replace H : Option.bind (bignat_Nat_Bits.f t563) _ = _ := H
        have A11 := Aside0.mk A110
        clear A110
        replace H := Option.bind_eq_some_iff.mp H
        obtain ⟨t566, A120, H⟩ := H
        replace H : (if (wrap64 (t566 - 1)) = 0 then _ else _) = _ := H
        have A12 := Aside0.mk A120
        clear A120
        by_cases c13 : (wrap64 (t566 - 1)) = 0
        ·rw [if_pos c13] at H
         exact absurd H (by simp)
        ·rw [if_neg c13] at H
         have c13b0 : ((wrap64 (t566 - 1)) == 0) = false := beq_eq_false_iff_ne.mpr c13
         have c13b1 : ((wrap64 (t566 - 1)) != 0) = true := bne_iff_ne.mpr c13
         by_cases c14 : a1 > (wrap64 (Int.tdiv (80000 : Int) (wrap64 (t566 - 1))))
         ·rw [if_pos c14] at H
          have c14b0 : decide ((wrap64 (Int.tdiv (80000 : Int) (wrap64 (t566 - 1)))) < a1) = true := decide_eq_true c14
          clear c14
          simp only [Option.some.injEq, Prod.mk.injEq] at H
          obtain ⟨rfl, rfl⟩ := H
          go_wp2_with (first | ((with_reducible refine gate_callee (f := 113) rfl ?_); refine goesL_ (some 25) rfl rfl Try.func113 (by kernel_rfl) rfl #[.string a0] rfl ga ?_; (with_reducible refine (bignat_Parse.calls kj6 a0 t563 _ A11.out).mono ?_); rintro e w15 ⟨v564, rfl, ho0, hb⟩; refine ⟨_, rfl, ?_⟩; have HO565 := Aside0.mk (Kd.R_lower ho0 (below_size (by first | exact bl HB | exact HB.out))); replace HB := hs HB hb; (try clear hb); (try clear ho0); obtain ⟨Ao16, co16, eo16⟩ := Kd.R_slice HO565.out; subst eo16) | ((with_reducible refine gate_callee (f := 86) rfl ?_); refine goesL_ (some 28) rfl rfl Try.func86 (by kernel_rfl) rfl #[.slice Ao16 t563.length co16] rfl ga ?_; (with_reducible refine (bignat_Nat_Bits.calls _ _ t563 t566 _ ?side1 ?side2 A12.out).mono ?_); (case side1 => exact cl ((Kd.R_reads' HO565.out).2.2)); (case side2 => exact (Kd.R_reads' HO565.out).2.1); rintro e w' ⟨rfl, ⟨nd, rfl⟩⟩; refine ⟨_, rfl, ?_⟩))
          go_ret2
          exact ⟨er, by first | exact bl HB | exact HB.out⟩
         ·rw [if_neg c14] at H
          have c14b0 : decide ((wrap64 (Int.tdiv (80000 : Int) (wrap64 (t566 - 1)))) < a1) = false := decide_eq_false c14
          clear c14
          replace H := Option.bind_eq_some_iff.mp H
          obtain ⟨t567, A170, H⟩ := H
          replace H : (ratio_NatPower.l0 kj6 a1 t563 t567 1048576) = some (r1, r2) := H
          have A17 := Aside0.mk A170
          clear A170
          have H' := Aside0.mk H
          clear H
          go_wp2_with (first | ((with_reducible refine gate_callee (f := 113) rfl ?_); refine goesL_ (some 25) rfl rfl Try.func113 (by kernel_rfl) rfl #[.string a0] rfl ga ?_; (with_reducible refine (bignat_Parse.calls kj6 a0 t563 _ A11.out).mono ?_); rintro e w18 ⟨v564, rfl, ho0, hb⟩; refine ⟨_, rfl, ?_⟩; have HO565 := Aside0.mk (Kd.R_lower ho0 (below_size (by first | exact bl HB | exact HB.out))); replace HB := hs HB hb; (try clear hb); (try clear ho0); obtain ⟨Ao19, co19, eo19⟩ := Kd.R_slice HO565.out; subst eo19) | ((with_reducible refine gate_callee (f := 86) rfl ?_); refine goesL_ (some 28) rfl rfl Try.func86 (by kernel_rfl) rfl #[.slice Ao19 t563.length co19] rfl ga ?_; (with_reducible refine (bignat_Nat_Bits.calls _ _ t563 t566 _ ?side1 ?side2 A12.out).mono ?_); (case side1 => exact cl ((Kd.R_reads' HO565.out).2.2)); (case side2 => exact (Kd.R_reads' HO565.out).2.1); rintro e w' ⟨rfl, ⟨nd, rfl⟩⟩; refine ⟨_, rfl, ?_⟩) | ((with_reducible refine gate_callee (f := 106) rfl ?_); refine goesL_ (some 32) rfl rfl Try.func106 (by kernel_rfl) rfl #[.int .u64 1] rfl ga ?_; (with_reducible refine (bignat_Of.calls kj6 1 t567 _ A17.out).mono ?_); rintro e w20 ⟨v568, rfl, ho0, hb⟩; refine ⟨_, rfl, ?_⟩; have HO569 := Aside0.mk (Kd.V_lower (Kd.V_mono (ok' := fun k_ => some k_ ≠ (.slice Ao19 t563.length co19 : Value).ownBlock) ho0 (fun k_ hk_ => (Kd.fresh' (Kd.R_lt (rl HO565)) k_ hk_))) (below_size (by first | exact bl HB | exact HB.out))); replace HO565 := Aside0.mk (Kd.R_below (rl HO565) hb); replace HB := hs HB hb; (try clear hb); (try clear ho0)))
          go_loopg [7, 8] kj6 (fun kq v7 v8 w' => ∃ (x7_3 : List Int) (x8_3 : Int), v8 = .int .i64 x8_3 ∧ Aside0 (ratio_NatPower.l0 kq a1 t563 x7_3 x8_3 = some (r1, r2)) ∧ Aside0 (kq ≤ kj6) ∧ Aside0 (Kd.R (Kd.int .u32) 117 w' w.heap.size (fun _ => True) (.slice Ao19 t563.length co19) t563) ∧ Aside0 (Kd.V (Kd.int .u32) 117 w' w.heap.size (fun k_ => some k_ ≠ ((.slice Ao19 t563.length co19) : Value).ownBlock) v7 x7_3) ∧ Aside0 (Below w.heap.size w w'))
          case atStart => exact ⟨(t567), (1048576), sv, H', ⟨Nat.le_refl _⟩, ⟨by exact rl HO565⟩, ⟨by exact vl HO569⟩, ⟨by first | exact bl HB | exact HB.out⟩⟩
          case round =>
           clear H'
           try clear c1
           try clear c5
           try clear c6
           try clear c8b0
           try clear c8b1
           try clear c9
           try clear c10b0
           try clear c10b1
           try clear c13
           try clear c13b0
           try clear c13b1
           try clear c14b0
           obtain ⟨x7_3, x8_3, rfl, HA, HK3, HO_6, HO_7, HB⟩ := hrel
           cases gk with
           | zero => exact absurd HA.out (by simp [ratio_NatPower.l0])
           | succ k3 =>
            have H := HA.out
            clear HA
            simp only [ratio_NatPower.l0] at H
            by_cases c21 : x8_3 > 0
            ·rw [if_pos c21] at H
             have c21b0 : decide (0 < x8_3) = true := decide_eq_true c21
             clear c21
             replace H := Option.bind_eq_some_iff.mp H
             obtain ⟨t572, A220, H⟩ := H
             replace H : (if (Go.bits .and .i64 a1 x8_3) = 0 then _ else _) = _ := H
             have A22 := Aside0.mk A220
             clear A220
             by_cases c23 : (Go.bits .and .i64 a1 x8_3) = 0
             ·rw [if_pos c23] at H
              have c23b0 : ((Go.bits .and .i64 a1 x8_3) == 0) = true := beq_iff_eq.mpr c23
              have c23b1 : ((Go.bits .and .i64 a1 x8_3) != 0) = false := bne_eq_false_iff_eq.mpr c23
              clear c23
              have H' := Aside0.mk H
              clear H
              obtain ⟨Ao24, co24, eo24⟩ := Kd.V_slice HO_7.out
              subst eo24
              go_wp2_with (first | ((with_reducible refine gate_callee (f := 78) rfl ?_); refine goesL_ (some 39) rfl rfl Try.func78 (by kernel_rfl) rfl #[.slice Ao24 x7_3.length co24, .slice Ao24 x7_3.length co24] rfl ga ?_; (with_reducible refine (bignat_Nat_Mul.calls k3 _ _ x7_3 _ _ x7_3 t572 _ ?side1 ?side2 ?side3 ?side4 A22.out).mono ?_); (case side1 => exact cl ((Kd.V_reads' HO_7.out).2.2)); (case side2 => exact (Kd.V_reads' HO_7.out).2.1); (case side3 => exact cl ((Kd.V_reads' HO_7.out).2.2)); (case side4 => exact (Kd.V_reads' HO_7.out).2.1); rintro e w25 ⟨v573, rfl, ho0, hb⟩; refine ⟨_, rfl, ?_⟩; replace HO_7 := Aside0.mk (Kd.V_below (vl HO_7) hb); have HO574 := Aside0.mk (Kd.V_lower (Kd.V_mono (ok' := fun k_ => some k_ ≠ (.slice Ao19 t563.length co19 : Value).ownBlock) ho0 (fun k_ hk_ => (Kd.fresh' (Kd.R_lt (rl HO_6)) k_ hk_))) (below_size (by first | exact bl HB | exact HB.out))); replace HO_6 := Aside0.mk (Kd.R_below (rl HO_6) hb); replace HB := hs HB hb; (try clear hb); (try clear ho0)))
              go_roundg k3
              case measure => have := HJ2.out; have := HJ6.out; have := HK3.out; omega
              case rel => exact ⟨(t572), (x8_3 / 2), sv, H', ⟨by have := HJ2.out; have := HJ6.out; have := HK3.out; omega⟩, ⟨by exact rl HO_6⟩, ⟨by exact vl HO574⟩, ⟨by first | exact bl HB | exact HB.out⟩⟩
             ·rw [if_neg c23] at H
              have c23b0 : ((Go.bits .and .i64 a1 x8_3) == 0) = false := beq_eq_false_iff_ne.mpr c23
              have c23b1 : ((Go.bits .and .i64 a1 x8_3) != 0) = true := bne_iff_ne.mpr c23
              replace H := Option.bind_eq_some_iff.mp H
              obtain ⟨t575, A260, H⟩ := H
              replace H : (ratio_NatPower.l0 k3 a1 t563 t575 (x8_3 / 2)) = some (r1, r2) := H
              have A26 := Aside0.mk A260
              clear A260
              have H' := Aside0.mk H
              clear H
              obtain ⟨Ao27, co27, eo27⟩ := Kd.V_slice HO_7.out
              subst eo27
              go_wp2_with (first | ((with_reducible refine gate_callee (f := 78) rfl ?_); refine goesL_ (some 39) rfl rfl Try.func78 (by kernel_rfl) rfl #[.slice Ao27 x7_3.length co27, .slice Ao27 x7_3.length co27] rfl ga ?_; (with_reducible refine (bignat_Nat_Mul.calls k3 _ _ x7_3 _ _ x7_3 t572 _ ?side1 ?side2 ?side3 ?side4 A22.out).mono ?_); (case side1 => exact cl ((Kd.V_reads' HO_7.out).2.2)); (case side2 => exact (Kd.V_reads' HO_7.out).2.1); (case side3 => exact cl ((Kd.V_reads' HO_7.out).2.2)); (case side4 => exact (Kd.V_reads' HO_7.out).2.1); rintro e w28 ⟨v573, rfl, ho0, hb⟩; refine ⟨_, rfl, ?_⟩; replace HO_7 := Aside0.mk (Kd.V_below (vl HO_7) hb); have HO574 := Aside0.mk (Kd.V_lower (Kd.V_mono (ok' := fun k_ => some k_ ≠ (.slice Ao19 t563.length co19 : Value).ownBlock) ho0 (fun k_ hk_ => (Kd.fresh' (Kd.R_lt (rl HO_6)) k_ hk_))) (below_size (by first | exact bl HB | exact HB.out))); replace HO_6 := Aside0.mk (Kd.R_below (rl HO_6) hb); replace HB := hs HB hb; (try clear hb); (try clear ho0); obtain ⟨Ao29, co29, eo29⟩ := Kd.V_slice HO574.out; subst eo29) | ((with_reducible refine gate_callee (f := 78) rfl ?_); refine goesL_ (some 46) rfl rfl Try.func78 (by kernel_rfl) rfl #[.slice Ao29 t572.length co29, .slice Ao19 t563.length co19] rfl ga ?_; (with_reducible refine (bignat_Nat_Mul.calls k3 _ _ t572 _ _ t563 t575 _ ?side1 ?side2 ?side3 ?side4 A26.out).mono ?_); (case side1 => exact cl ((Kd.V_reads' HO574.out).2.2)); (case side2 => exact (Kd.V_reads' HO574.out).2.1); (case side3 => exact cl ((Kd.R_reads' HO_6.out).2.2)); (case side4 => exact (Kd.R_reads' HO_6.out).2.1); rintro e w30 ⟨v576, rfl, ho0, hb⟩; refine ⟨_, rfl, ?_⟩; replace HO_7 := Aside0.mk (Kd.V_below (vl HO_7) hb); replace HO574 := Aside0.mk (Kd.V_below (vl HO574) hb); have HO577 := Aside0.mk (Kd.V_lower (Kd.V_mono (ok' := fun k_ => some k_ ≠ (.slice Ao19 t563.length co19 : Value).ownBlock) ho0 (fun k_ hk_ => (Kd.fresh' (Kd.R_lt (rl HO_6)) k_ hk_))) (below_size (by first | exact bl HB | exact HB.out))); replace HO_6 := Aside0.mk (Kd.R_below (rl HO_6) hb); replace HB := hs HB hb; (try clear hb); (try clear ho0)))
              go_roundg k3
              case measure => have := HJ2.out; have := HJ6.out; have := HK3.out; omega
              case rel => exact ⟨(t575), (x8_3 / 2), sv, H', ⟨by have := HJ2.out; have := HJ6.out; have := HK3.out; omega⟩, ⟨by exact rl HO_6⟩, ⟨by exact vl HO577⟩, ⟨by first | exact bl HB | exact HB.out⟩⟩
            ·rw [if_neg c21] at H
             have c21b0 : decide (0 < x8_3) = false := decide_eq_false c21
             clear c21
             replace H := Option.bind_eq_some_iff.mp H
             obtain ⟨⟨t570, t571⟩, A310, H⟩ := H
             replace H : (some (t570, t571)) = some (r1, r2) := H
             have A31 := Aside0.mk A310
             clear A310
             simp only [Option.some.injEq, Prod.mk.injEq] at H
             obtain ⟨rfl, rfl⟩ := H
             obtain ⟨Ao32, co32, eo32⟩ := Kd.V_slice HO_7.out
             subst eo32
             go_wp2_with (first | ((with_reducible refine gate_callee (f := 95) rfl ?_); refine goesL_ (some 48) rfl rfl Try.func95 (by kernel_rfl) rfl #[.slice Ao32 x7_3.length co32] rfl ga ?_; (with_reducible refine (ratio_text.calls k3 _ _ x7_3 t570 t571 _ ?side1 ?side2 A31.out).mono ?_); (case side1 => exact cl ((Kd.V_reads' HO_7.out).2.2)); (case side2 => exact (Kd.V_reads' HO_7.out).2.1); rintro e w33 ⟨rfl, hb⟩; refine ⟨_, rfl, ?_⟩; replace HO_6 := Aside0.mk (Kd.R_below (rl HO_6) hb); replace HO_7 := Aside0.mk (Kd.V_below (vl HO_7) hb); replace HB := hs HB hb; (try clear hb)))
             go_ret2
             exact ⟨er, by first | exact bl HB | exact HB.out⟩
set_option maxHeartbeats 8000000 in
set_option maxRecDepth 100000 in
theorem enclose_times.calls (k : Nat) (A0 : Option Addr) (c0 : Nat) (l0 : List Int) (A1 : Option Addr) (c1 : Nat) (l1 : List Int) (a2 : Int) (r : Int) (w : World) (hr0 : Kd.C (Kd.int .u32) w A0 l0.length l0) (hc0 : l0.length ≤ c0) (hr1 : Kd.C (Kd.int .u32) w A1 l1.length l1) (hc1 : l1.length ≤ c1) (h : enclose_times.f k l0 l1 a2 = some r) :
  Calls Try.prog 87 #[.slice A0 l0.length c0, .slice A1 l1.length c1, .int .i64 a2] w fun e w' => e = .returned (.int .i64 r) ∧ Below w.heap.size w w' := by
 have HR0 := Aside0.mk hr0
 have HC0 := Aside0.mk hc0
 clear hr0 hc0
 have HR1 := Aside0.mk hr1
 have HC1 := Aside0.mk hc1
 clear hr1 hc1
 have HB := Aside0.mk (Below.refl w.heap.size w)
 have H : (if a2 < 0 then _ else _) = _ := h
 clear h
 by_cases c4 : a2 < 0
 ·rw [if_pos c4] at H
  have c4b0 : decide (a2 < 0) = true := decide_eq_true c4
  clear c4
  replace H := Option.bind_eq_some_iff.mp H
  obtain ⟨t578, A50, H⟩ := H
  replace H : ((bignat_Nat_Cmp.f k l1 t578).bind fun t581 => (some t581)) = some r := H
  have A5 := Aside0.mk A50
  clear A50
  replace H := Option.bind_eq_some_iff.mp H
  obtain ⟨t581, A60, H⟩ := H
  replace H : (some t581) = some r := H
  have A6 := Aside0.mk A60
  clear A60
  obtain rfl := Option.some.inj H
  go_enter Try.func87, Try.ntmps87
  go_wp2_with (first | ((with_reducible refine gate_callee (f := 116) rfl ?_); refine goesL_ (some 13) rfl rfl Try.func116 (by kernel_rfl) rfl #[.slice A0 l0.length c0, .int .i64 (wrap64 (-a2))] rfl ga ?_; (with_reducible refine (bignat_Nat_Shift.calls k _ _ l0 (wrap64 (-a2)) t578 _ ?side1 ?side2 A5.out).mono ?_); (case side1 => exact cl HR0.out); (case side2 => exact HC0.out); rintro e w7 ⟨v579, rfl, ho0, hb⟩; refine ⟨_, rfl, ?_⟩; have HO580 := Aside0.mk (Kd.V_lower (Kd.V_mono (ok' := fun k_ => True) ho0 (fun k_ hk_ => trivial)) (below_size (by first | exact bl HB | exact HB.out))); replace HB := hs HB hb; (try clear hb); (try clear ho0); obtain ⟨Ao8, co8, eo8⟩ := Kd.V_slice HO580.out; subst eo8) | ((with_reducible refine gate_callee (f := 94) rfl ?_); refine goesL_ (some 14) rfl rfl Try.func94 (by kernel_rfl) rfl #[.slice A1 l1.length c1, .slice Ao8 t578.length co8] rfl ga ?_; (with_reducible refine (bignat_Nat_Cmp.calls k _ _ l1 _ _ t578 t581 _ ?side1 ?side2 ?side3 ?side4 A6.out).mono ?_); (case side1 => exact cl ((Kd.C_below HR1.out HB.out))); (case side2 => exact HC1.out); (case side3 => exact cl ((Kd.V_reads' HO580.out).2.2)); (case side4 => exact (Kd.V_reads' HO580.out).2.1); rintro e w' ⟨rfl, ⟨nd, rfl⟩⟩; refine ⟨_, rfl, ?_⟩))
  go_ret
  exact ⟨er, by first | exact bl HB | exact HB.out⟩
 ·rw [if_neg c4] at H
  have c4b0 : decide (a2 < 0) = false := decide_eq_false c4
  clear c4
  replace H := Option.bind_eq_some_iff.mp H
  obtain ⟨t582, A90, H⟩ := H
  replace H : ((bignat_Nat_Cmp.f k t582 l0).bind fun t585 => (some t585)) = some r := H
  have A9 := Aside0.mk A90
  clear A90
  replace H := Option.bind_eq_some_iff.mp H
  obtain ⟨t585, A100, H⟩ := H
  replace H : (some t585) = some r := H
  have A10 := Aside0.mk A100
  clear A100
  obtain rfl := Option.some.inj H
  go_enter Try.func87, Try.ntmps87
  go_wp2_with (first | ((with_reducible refine gate_callee (f := 116) rfl ?_); refine goesL_ (some 17) rfl rfl Try.func116 (by kernel_rfl) rfl #[.slice A1 l1.length c1, .int .i64 a2] rfl ga ?_; (with_reducible refine (bignat_Nat_Shift.calls k _ _ l1 a2 t582 _ ?side1 ?side2 A9.out).mono ?_); (case side1 => exact cl HR1.out); (case side2 => exact HC1.out); rintro e w11 ⟨v583, rfl, ho0, hb⟩; refine ⟨_, rfl, ?_⟩; have HO584 := Aside0.mk (Kd.V_lower (Kd.V_mono (ok' := fun k_ => True) ho0 (fun k_ hk_ => trivial)) (below_size (by first | exact bl HB | exact HB.out))); replace HB := hs HB hb; (try clear hb); (try clear ho0); obtain ⟨Ao12, co12, eo12⟩ := Kd.V_slice HO584.out; subst eo12) | ((with_reducible refine gate_callee (f := 94) rfl ?_); refine goesL_ (some 19) rfl rfl Try.func94 (by kernel_rfl) rfl #[.slice Ao12 t582.length co12, .slice A0 l0.length c0] rfl ga ?_; (with_reducible refine (bignat_Nat_Cmp.calls k _ _ t582 _ _ l0 t585 _ ?side1 ?side2 ?side3 ?side4 A10.out).mono ?_); (case side1 => exact cl ((Kd.V_reads' HO584.out).2.2)); (case side2 => exact (Kd.V_reads' HO584.out).2.1); (case side3 => exact cl ((Kd.C_below HR0.out HB.out))); (case side4 => exact HC0.out); rintro e w' ⟨rfl, ⟨nd, rfl⟩⟩; refine ⟨_, rfl, ?_⟩))
  go_ret
  exact ⟨er, by first | exact bl HB | exact HB.out⟩
end Go.Proofs.Ytccgfmjcldifcaa.P
