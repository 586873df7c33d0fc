/- Walks of Go functions: what they compute; each theorem's conditions stand in it. -/
import Derived.Test.YtccgfmjcldifcaaT
import Derived.Test.YtccgfmjcldifcaaCCmp
import Derived.Test.YtccgfmjcldifcaaCNatDiv
import Derived.Test.YtccgfmjcldifcaaCValid
import Derived.Test.YtccgfmjcldifcaaDA
import Derived.Test.YtccgfmjcldifcaaDE
namespace Go.Proofs.Ytccgfmjcldifcaa.P
open Go.RowKit Go.Proofs.YtccgfmjcldifcaaW.PrintWords Go.Proofs.YtccgfmjcldifcaaW.PrintLast Go.Proofs.YtccgfmjcldifcaaW.PrintMore
attribute [local go_sem] max2_int min2_int max_two min_two max_three min_three max_four min_four
set_option linter.unusedVariables false
set_option linter.unusedSimpArgs false
set_option maxHeartbeats 8000000 in
set_option maxRecDepth 100000 in
theorem ratio_IsRatio.calls (k : Nat) (a0_0 : Bool) (a0_1 : ByteArray) (a0_2 : ByteArray) (r : Bool) (w : World) (h : ratio_IsRatio.f k a0_0 a0_1 a0_2 = some r) :
  Calls Try.prog 44 #[.agg #[.bool a0_0, .string a0_1, .string a0_2]] w fun e w' => e = .returned (.bool r) ∧ Below w.heap.size w w' := by
 have hu35 := Try.underlying35
 have HB := Aside0.mk (Below.refl w.heap.size w)
 have H : Option.bind (ratio_both.f k a0_1 a0_2) _ = _ := h
 clear h
 replace H := Option.bind_eq_some_iff.mp H
 obtain ⟨⟨t510, t511, t512⟩, A20, H⟩ := H
 replace H : (if t512 = true then _ else _) = _ := H
 have A2 := Aside0.mk A20
 clear A20
 have HC3 := Aside0.mk H
 clear H
 go_enter Try.func44, Try.ntmps44
 go_upto_region 2 with (first | ((with_reducible refine gate_dst (N := 1) rfl ?_); (try (refine gate_guard (by rfl) ?_; dsimp only)); refine be (N := 1) (cs := #[.bool a0_0, .string a0_1, .string a0_2]) (t := 35) ?_; intro gb509 hg w4 hbox hb; have BK509 := Aside0.mk (hbox); have GW509 := gw HB hg; have GE509 := GW509; replace HB := hs HB hb; clear hb hbox hg; obtain ⟨hcz5_0, hcz5_1, hcz5_2, hfz5_0, hfz5_1, hfz5_2⟩ := z3 BK509) | ((with_reducible refine gate_callee (f := 73) rfl ?_); refine goesL_ (some 11) rfl rfl Try.func73 (by kernel_rfl) rfl #[.string a0_1, .string a0_2] rfl ga ?_; (with_reducible refine (ratio_both.calls k a0_1 a0_2 t510 t511 t512 _ A2.out).mono ?_); rintro e w6 ⟨v513, v515, rfl, ho0, ho1, hb⟩; refine ⟨_, rfl, ?_⟩; have HO514 := Aside0.mk (Kd.R_lower ho0 (below_size bs)); have HO516 := Aside0.mk (Kd.R_lower ho1 (below_size bs)); replace BK509 := bb BK509 hb; replace HB := hs HB hb; (try clear hb); (try clear ho0); (try clear ho1)))
 (try simp only [Act.put, List.setIfInBounds_toArray, List.set_cons_zero, List.set_cons_succ])
 go_cut [30] (fun v30 wc => ∃ (kq : Nat) (x30_2 : Bool), v30 = .bool x30_2 ∧ Aside0 (ratio_IsRatio.j0 kq t510 t511 x30_2 = some r) ∧ Aside0 (kq ≤ k) ∧ Aside0 (Kd.R (Kd.int .u32) 117 wc w.heap.size (fun k_ => some k_ ≠ (v515 : Value).ownBlock) v513 t510) ∧ Aside0 (Kd.R (Kd.int .u32) 117 wc w.heap.size (fun k_ => some k_ ≠ (v513 : Value).ownBlock) v515 t511) ∧ Aside0 (wc.heap[gb509]? = some (.cells #[.bool a0_0, .string a0_1, .string a0_2] 35 (0, 0))) ∧ Aside0 (Below w.heap.size w wc))
 case first =>
  have H := HC3.out
  clear HC3
  by_cases c7 : t512 = true
  ·subst c7
   have H1 : (if (t511.length : Int) = 0 then _ else _) = _ := (if_pos rfl).symm.trans H
   clear H
   have H := H1
   clear H1
   by_cases c8 : (t511.length : Int) = 0
   ·rw [if_pos c8] at H
    have c8b0 : ((t511.length : Int) == 0) = true := beq_iff_eq.mpr c8
    have c8b1 : ((t511.length : Int) != 0) = false := bne_eq_false_iff_eq.mpr c8
    clear c8
    (first | rw [c8b0] | (simp only [i64_w, i32_w]; rw [c8b0]) | skip)
    have H' := Aside0.mk H
    clear H
    obtain ⟨Ao9, co9, eo9⟩ := Kd.R_slice HO516.out
    subst eo9
    go_wp2
    go_meet
    case rel => exact ⟨_, (true), sv, H', ⟨by first | omega | exact Nat.le_refl _⟩, ⟨by exact rl HO514⟩, ⟨by exact rl HO516⟩, ⟨bk⟩, ⟨bs⟩⟩
   ·rw [if_neg c8] at H
    have c8b0 : ((t511.length : Int) == 0) = false := beq_eq_false_iff_ne.mpr c8
    have c8b1 : ((t511.length : Int) != 0) = true := bne_iff_ne.mpr c8
    have c8b2 : ¬ (t511 = []) := fun h_ => c8 (by rw [h_]; rfl)
    (first | rw [c8b0] | (simp only [i64_w, i32_w]; rw [c8b0]) | skip)
    by_cases c10 : a0_0 = true
    ·subst c10
     have H1 : (ratio_IsRatio.j0 k t510 t511 ((t510.length : Int) == 0)) = some r := by rw [if_pos rfl] at H; exact H
     clear H
     have H := H1
     clear H1
     have H' := Aside0.mk H
     clear H
     obtain ⟨Ao11, co11, eo11⟩ := Kd.R_slice HO516.out
     subst eo11
     obtain ⟨hcz12_0, hcz12_1, hcz12_2, hfz12_0, hfz12_1, hfz12_2⟩ := z3 BK509
     obtain ⟨Ao13, co13, eo13⟩ := Kd.R_slice HO514.out
     subst eo13
     go_wp2
     go_meet
     case rel => exact ⟨_, (((t510.length : Int) == 0)), sv, H', ⟨by first | omega | exact Nat.le_refl _⟩, ⟨by exact rl HO514⟩, ⟨by exact rl HO516⟩, ⟨bk⟩, ⟨bs⟩⟩
    ·replace c10 := Bool.eq_false_iff.mpr c10
     subst c10
     have H1 : (ratio_IsRatio.j0 k t510 t511 false) = some r := by rw [if_neg (show ¬ (false = true) by decide)] at H; exact H
     clear H
     have H := H1
     clear H1
     have H' := Aside0.mk H
     clear H
     obtain ⟨Ao14, co14, eo14⟩ := Kd.R_slice HO516.out
     subst eo14
     obtain ⟨hcz15_0, hcz15_1, hcz15_2, hfz15_0, hfz15_1, hfz15_2⟩ := z3 BK509
     go_wp2
     go_meet
     case rel => exact ⟨_, (false), sv, H', ⟨by first | omega | exact Nat.le_refl _⟩, ⟨by exact rl HO514⟩, ⟨by exact rl HO516⟩, ⟨bk⟩, ⟨bs⟩⟩
  ·replace c7 := Bool.eq_false_iff.mpr c7
   subst c7
   have H1 : (ratio_IsRatio.j0 k t510 t511 true) = some r := by rw [if_neg (show ¬ (false = true) by decide)] at H; exact H
   clear H
   have H := H1
   clear H1
   have H' := Aside0.mk H
   clear H
   go_wp2
   go_meet
   case rel => exact ⟨_, (true), sv, H', ⟨by first | omega | exact Nat.le_refl _⟩, ⟨by exact rl HO514⟩, ⟨by exact rl HO516⟩, ⟨bk⟩, ⟨bs⟩⟩
 case rest =>
  clear HC3
  try clear c7
  try clear c8b0
  try clear c8b1
  try clear c8b2
  try clear c10
  try clear hcz12_0
  try clear hcz12_1
  try clear hcz12_2
  try clear hcz15_0
  try clear hcz15_1
  try clear hcz15_2
  try clear hcz5_0
  try clear hcz5_1
  try clear hcz5_2
  try clear hfz12_0
  try clear hfz12_1
  try clear hfz12_2
  try clear hfz15_0
  try clear hfz15_1
  try clear hfz15_2
  try clear hfz5_0
  try clear hfz5_1
  try clear hfz5_2
  obtain ⟨kq, x30_2, rfl, HA, HJ2, HO_3, HO_4, BK509, HB⟩ := hcut
  cases kq with
  | zero => exact absurd HA.out (by simp [ratio_IsRatio.j0])
  | succ kj2 =>
   have H := HA.out
   clear HA
   simp only [ratio_IsRatio.j0] at H
   by_cases c16 : x30_2 = true
   ·subst c16
    have H1 : (some false) = some r := by rw [if_pos rfl] at H; exact H
    clear H
    have H := H1
    clear H1
    obtain rfl := Option.some.inj H
    go_wp2
    go_ret
    exact ⟨er, bs⟩
   ·replace c16 := Bool.eq_false_iff.mpr c16
    subst c16
    have H1 : Option.bind (bignat_Gcd.f kj2 t510 t511) _ = _ := (if_neg (show ¬ (false = true) by decide)).symm.trans H
    clear H
    have H := H1
    clear H1
    replace H := Option.bind_eq_some_iff.mp H
    obtain ⟨t517, A170, H⟩ := H
    replace H : ((bignat_Of.f kj2 1).bind fun t520 => ((bignat_Nat_Cmp.f kj2 t517 t520).bind fun t523 => (some (t523 == 0)))) = some r := H
    have A17 := Aside0.mk A170
    clear A170
    replace H := Option.bind_eq_some_iff.mp H
    obtain ⟨t520, A180, H⟩ := H
    replace H : ((bignat_Nat_Cmp.f kj2 t517 t520).bind fun t523 => (some (t523 == 0))) = some r := H
    have A18 := Aside0.mk A180
    clear A180
    replace H := Option.bind_eq_some_iff.mp H
    obtain ⟨t523, A190, H⟩ := H
    replace H : (some (t523 == 0)) = some r := H
    have A19 := Aside0.mk A190
    clear A190
    obtain rfl := Option.some.inj H
    obtain ⟨Ao20, co20, eo20⟩ := Kd.R_slice HO_3.out
    subst eo20
    obtain ⟨Ao21, co21, eo21⟩ := Kd.R_slice HO_4.out
    subst eo21
    go_wp2_with (first | ((with_reducible refine gate_callee (f := 97) rfl ?_); refine goesL_ (some 33) rfl rfl Try.func97 (by kernel_rfl) rfl #[.slice Ao20 t510.length co20, .slice Ao21 t511.length co21] rfl ga ?_; (with_reducible refine (bignat_Gcd.calls kj2 (fun k_ => some k_ = (.slice Ao20 t510.length co20 : Value).ownBlock) _ _ t510 (fun k_ => some k_ = (.slice Ao21 t511.length co21 : Value).ownBlock) _ _ t511 t517 _ ?side1 ?side2 A17.out).mono ?_); (case side1 => exact Kd.R_V (Kd.R_tight rfl (Kd.R_types (HO_3.out) BK509.out (by decide)))); (case side2 => exact Kd.R_V (Kd.R_tight rfl (Kd.R_types (HO_4.out) BK509.out (by decide)))); rintro e w22 ⟨v518, rfl, ho0, hb⟩; refine ⟨_, rfl, ?_⟩; have HO519 := Aside0.mk (Kd.V_lower (Kd.V_mono (ok' := fun k_ => k_ ≠ gb509) ho0 (fun k_ hk_ => Or.elim hk_ (fun hs_ => Or.elim hs_ (fun hs_ => ((Kd.R_types (HO_3.out) BK509.out (by decide)).1 k_ hs_.symm).2) (fun hs_ => ((Kd.R_types (HO_4.out) BK509.out (by decide)).1 k_ hs_.symm).2)) (fun hn_ => (fb BK509 k_ hn_)))) (below_size bs)); replace HO_3 := Aside0.mk (Kd.R_below (rl HO_3) hb); replace HO_4 := Aside0.mk (Kd.R_below (rl HO_4) hb); replace BK509 := bb BK509 hb; replace HB := hs HB hb; (try clear hb); (try clear ho0)) | ((with_reducible refine gate_callee (f := 106) rfl ?_); refine goesL_ (some 34) rfl rfl Try.func106 (by kernel_rfl) rfl #[.int .u64 1] rfl ga ?_; (with_reducible refine (bignat_Of.calls kj2 1 t520 _ A18.out).mono ?_); rintro e w23 ⟨v521, rfl, ho0, hb⟩; refine ⟨_, rfl, ?_⟩; replace HO519 := Aside0.mk (Kd.V_below (vl HO519) hb); have HO522 := Aside0.mk (Kd.V_lower (Kd.V_mono (ok' := fun k_ => some k_ ≠ (.slice Ao20 t510.length co20 : Value).ownBlock ∧ some k_ ≠ (.slice Ao21 t511.length co21 : Value).ownBlock ∧ k_ ≠ gb509) ho0 (fun k_ hk_ => ⟨(Kd.fresh' (Kd.R_lt (rl HO_3)) k_ hk_), (Kd.fresh' (Kd.R_lt (rl HO_4)) k_ hk_), (fb BK509 k_ hk_)⟩)) (below_size bs)); replace HO_3 := Aside0.mk (Kd.R_below (rl HO_3) hb); replace HO_4 := Aside0.mk (Kd.R_below (rl HO_4) hb); replace BK509 := bb BK509 hb; replace HB := hs HB hb; (try clear hb); (try clear ho0); obtain ⟨Ao24, co24, eo24⟩ := Kd.V_slice HO519.out; subst eo24; obtain ⟨Ao25, co25, eo25⟩ := Kd.V_slice HO522.out; subst eo25) | ((with_reducible refine gate_callee (f := 94) rfl ?_); refine goesL_ (some 35) rfl rfl Try.func94 (by kernel_rfl) rfl #[.slice Ao24 t517.length co24, .slice Ao25 t520.length co25] rfl ga ?_; (with_reducible refine (bignat_Nat_Cmp.calls kj2 _ _ t517 _ _ t520 t523 _ ?side1 ?side2 ?side3 ?side4 A19.out).mono ?_); (case side1 => exact cl ((Kd.V_reads' HO519.out).2.2)); (case side2 => exact (Kd.V_reads' HO519.out).2.1); (case side3 => exact cl ((Kd.V_reads' HO522.out).2.2)); (case side4 => exact (Kd.V_reads' HO522.out).2.1); rintro e w' ⟨rfl, ⟨nd, rfl⟩⟩; refine ⟨_, rfl, ?_⟩))
    go_ret
    exact ⟨er, bs⟩
end Go.Proofs.Ytccgfmjcldifcaa.P
