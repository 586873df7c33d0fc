/- Walks of Go functions: what they compute; each theorem's conditions stand in it. -/
import Derived.Test.YtccgfmjcldifcaaT
import Derived.Test.YtccgfmjcldifcaaCRBig
import Derived.Test.YtccgfmjcldifcaaCRLow
import Derived.Test.YtccgfmjcldifcaaCRText
import Derived.Test.YtccgfmjcldifcaaCRTimes
import Derived.Test.YtccgfmjcldifcaaDB
import Derived.Test.YtccgfmjcldifcaaDF
namespace Go.Proofs.Ytccgfmjcldifcaa.P
open Go.RowKit Go.Proofs.YtccgfmjcldifcaaW.PrintWords Go.Proofs.YtccgfmjcldifcaaW.PrintLast Go.Proofs.YtccgfmjcldifcaaW.PrintMore
attribute [local go_sem] max2_int min2_int max_two min_two max_three min_three max_four min_four
set_option linter.unusedVariables false
set_option linter.unusedSimpArgs false
set_option maxHeartbeats 8000000 in
set_option maxRecDepth 100000 in
theorem corporaref37_two.calls (k : Nat) (a0 : Int) (r : List Int) (w : World) (h : corporaref37_two.f k a0 = some r) :
  Calls Try.prog 127 #[.int .i64 a0] w fun e w' => ∃ v0_ : Value, e = .returned (v0_) ∧ Kd.V (Kd.int .i64) 3 w' w.heap.size (fun k_ => (w.heap.size ≤ k_)) v0_ r ∧ Below w.heap.size w w' := by
 have HB := Aside0.mk (Below.refl w.heap.size w)
 have H : ((corporaref36_Of64.f k 1).bind fun t684 => (corporaref37_two.l0 k a0 t684)) = some r := h
 clear h
 replace H := Option.bind_eq_some_iff.mp H
 obtain ⟨t684, A20, H⟩ := H
 replace H : (corporaref37_two.l0 k a0 t684) = some r := H
 have A2 := Aside0.mk A20
 clear A20
 have H' := Aside0.mk H
 clear H
 go_enter Try.func127, Try.ntmps127
 go_wp2_with (first | ((with_reducible refine gate_callee (f := 112) rfl ?_); refine goesL_ (some 4) rfl rfl Try.func112 (by kernel_rfl) rfl #[.int .u64 1] rfl ga ?_; (with_reducible refine (corporaref36_Of64.calls k 1 t684 _ A2.out).mono ?_); rintro e w3 ⟨v685, rfl, ho0, hb⟩; refine ⟨_, rfl, ?_⟩; have HO686 := Aside0.mk (Kd.R_lower (Kd.R_newM (M := fun k_ => (w.heap.size ≤ k_)) ho0 (below_size (by first | exact bl HB | exact HB.out)) (fun k_ h_ => h_)) (below_size (by first | exact bl HB | exact HB.out))); replace HB := hs HB hb; (try clear hb); (try clear ho0)))
 go_loopg [0, 3] k (fun kq v0 v3 w' => ∃ (x0_1 : Int) (x3_1 : List Int), v0 = .int .i64 x0_1 ∧ Aside0 (corporaref37_two.l0 kq x0_1 x3_1 = some r) ∧ Aside0 (kq ≤ k) ∧ Aside0 (Kd.V (Kd.int .i64) 3 w' w.heap.size (fun k_ => (w.heap.size ≤ k_)) v3 x3_1) ∧ Aside0 (Below w.heap.size w w'))
 case atStart => exact ⟨(a0), (t684), sv, H', ⟨Nat.le_refl _⟩, ⟨Kd.R_V (by (with_reducible repeat (first | apply Kd.R_alloc | apply Kd.R_drewN | apply Kd.R_drew)); exact Kd.R_mono HO686.out (fun _ hk => hk.1))⟩, ⟨by first | exact bl HB | exact HB.out⟩⟩
 case round =>
  clear H'
  try clear c1
  obtain ⟨x0_1, x3_1, rfl, HA, HK1, HO_3, HB⟩ := hrel
  cases gk with
  | zero => exact absurd HA.out (by simp [corporaref37_two.l0])
  | succ k1 =>
   have H := HA.out
   clear HA
   simp only [corporaref37_two.l0] at H
   by_cases c4 : x0_1 ≥ 40
   ·rw [if_pos c4] at H
    have c4b0 : decide (40 ≤ x0_1) = true := decide_eq_true c4
    clear c4
    replace H := Option.bind_eq_some_iff.mp H
    obtain ⟨t687, A50, H⟩ := H
    replace H : ((corporaref36_Times.f k1 x3_1 t687).bind fun t690 => (corporaref37_two.l0 k1 (wrap64 (x0_1 - 40)) t690)) = some r := H
    have A5 := Aside0.mk A50
    clear A50
    replace H := Option.bind_eq_some_iff.mp H
    obtain ⟨t690, A60, H⟩ := H
    replace H : (corporaref37_two.l0 k1 (wrap64 (x0_1 - 40)) t690) = some r := H
    have A6 := Aside0.mk A60
    clear A60
    have H' := Aside0.mk H
    clear H
    go_wp2_with (first | ((with_reducible refine gate_callee (f := 112) rfl ?_); refine goesL_ (some 10) rfl rfl Try.func112 (by kernel_rfl) rfl #[.int .u64 1099511627776] rfl ga ?_; (with_reducible refine (corporaref36_Of64.calls k1 1099511627776 t687 _ A5.out).mono ?_); rintro e w7 ⟨v688, rfl, ho0, hb⟩; refine ⟨_, rfl, ?_⟩; replace HO_3 := Aside0.mk (Kd.V_elder' (vl HO_3) (Kd.R_base ho0) hb); have HO689 := Aside0.mk (Kd.R_lower (Kd.R_newM (M := fun k_ => (w.heap.size ≤ k_)) ho0 (below_size (by first | exact bl HB | exact HB.out)) (fun k_ h_ => h_)) (below_size (by first | exact bl HB | exact HB.out))); replace HB := hs HB hb; (try clear hb); (try clear ho0); obtain ⟨Ao8, co8, eo8⟩ := Kd.V_slice HO_3.out; subst eo8; obtain ⟨Ao9, co9, eo9⟩ := Kd.R_slice HO689.out; subst eo9) | ((with_reducible refine gate_callee (f := 89) rfl ?_); refine goesL_ (some 11) rfl rfl Try.func89 (by kernel_rfl) rfl #[.slice Ao8 x3_1.length co8, .slice Ao9 t687.length co9] rfl ga ?_; (with_reducible refine (corporaref36_Times.calls k1 _ _ x3_1 _ _ t687 t690 _ ?side1 ?side2 ?side3 ?side4 A6.out).mono ?_); (case side1 => exact cl ((Kd.V_reads' HO_3.out).2.2)); (case side2 => exact (Kd.V_reads' HO_3.out).2.1); (case side3 => exact cl ((Kd.R_reads' HO689.out).2.2)); (case side4 => exact (Kd.R_reads' HO689.out).2.1); rintro e w10 ⟨v691, rfl, ho0, hb⟩; refine ⟨_, rfl, ?_⟩; replace HO_3 := Aside0.mk (Kd.V_below (vl HO_3) hb); have HO692 := Aside0.mk (Kd.V_lower (Kd.V_mono (ok' := fun k_ => (w.heap.size ≤ k_) ∧ some k_ ≠ (.slice Ao9 t687.length co9 : Value).ownBlock) ho0 (fun k_ hk_ => ⟨(Nat.le_trans (below_size (by first | exact bl HB | exact HB.out)) hk_), (Kd.fresh' (Kd.R_lt (rl HO689)) k_ hk_)⟩)) (below_size (by first | exact bl HB | exact HB.out))); replace HO689 := Aside0.mk (Kd.R_below (rl HO689) hb); replace HB := hs HB hb; (try clear hb); (try clear ho0)))
    go_roundg k1
    case measure => have := HK1.out; omega
    case rel => exact ⟨(wrap64 (x0_1 - 40)), (t690), sv, H', ⟨by have := HK1.out; omega⟩, ⟨by (with_reducible repeat (first | apply Kd.V_alloc | apply Kd.V_drewN | apply Kd.V_drew)); exact Kd.V_mono HO692.out (fun _ hk => hk.1)⟩, ⟨by first | exact bl HB | exact HB.out⟩⟩
   ·rw [if_neg c4] at H
    have c4b0 : decide (40 ≤ x0_1) = false := decide_eq_false c4
    clear c4
    obtain ⟨ji11, hji11⟩ : ∃ j_ : Int, (IntKind.u64.wrap (x0_1)) = j_ := ⟨_, rfl⟩
    replace H : (if 0 ≤ (ji11) then ((corporaref36_Of64.f k1 (shl .u64 1 (ji11))).bind fun t693 => ((corporaref36_Times.f k1 x3_1 t693).bind fun t696 => (some t696))) else (none)) = some r := by first | (rw [hji11] at H; exact H) | (simp only [hji11] at H ⊢; exact H)
    by_cases c12 : 0 ≤ (ji11)
    ·rw [if_pos c12] at H
     have c12b0 := eq_true c12
     have c12b1 : decide (0 ≤ (ji11)) = true := decide_eq_true c12
     clear c12
     obtain ⟨ji13, hji13⟩ : ∃ j_ : Int, (shl .u64 1 (ji11)) = j_ := ⟨_, rfl⟩
     replace H : ((corporaref36_Of64.f k1 (ji13)).bind fun t693 => ((corporaref36_Times.f k1 x3_1 t693).bind fun t696 => (some t696))) = some r := by first | (rw [hji13] at H; exact H) | (simp only [hji13] at H ⊢; exact H)
     have hji13_ : (IntKind.u64.wrap (1 * 2 ^ min (ji11).toNat 64)) = ji13 := hji13
     have hji13z : (ji11) ≤ 64 → (IntKind.u64.wrap (1 * 2 ^ (ji11).toNat)) = ji13 := shl_small hji13
     have hji13u : (IntKind.u64.wrap (2 ^ min (ji11).toNat 64)) = ji13 := by have h_ := hji13_; rw [Int.one_mul] at h_; exact h_
     have hji13v : (ji11) ≤ 64 → (IntKind.u64.wrap (2 ^ (ji11).toNat)) = ji13 := fun hle_ => by have h_ := hji13z hle_; rw [Int.one_mul] at h_; exact h_
     replace H := Option.bind_eq_some_iff.mp H
     obtain ⟨t693, A140, H⟩ := H
     replace H : ((corporaref36_Times.f k1 x3_1 t693).bind fun t696 => (some t696)) = some r := H
     have A14 := Aside0.mk A140
     clear A140
     replace H := Option.bind_eq_some_iff.mp H
     obtain ⟨t696, A150, H⟩ := H
     replace H : (some t696) = some r := H
     have A15 := Aside0.mk A150
     clear A150
     obtain rfl := Option.some.inj H
     go_wp2_with (first | ((with_reducible refine gate_callee (f := 112) rfl ?_); refine goesL_ (some 16) rfl rfl Try.func112 (by kernel_rfl) rfl #[.int .u64 ji13] rfl (by (try simp only [List.map_toArray, List.map_cons, List.map_nil]); first | done | (simp only [hji13]; rfl) | rfl | (simp only [List.length_drop, List.length_take]; rfl)) ?_; (with_reducible refine (corporaref36_Of64.calls k1 ji13 t693 _ A14.out).mono ?_); rintro e w16 ⟨v694, rfl, ho0, hb⟩; refine ⟨_, rfl, ?_⟩; replace HO_3 := Aside0.mk (Kd.V_elder' (vl HO_3) (Kd.R_base ho0) hb); have HO695 := Aside0.mk (Kd.R_lower (Kd.R_newM (M := fun k_ => (w.heap.size ≤ k_)) ho0 (below_size (by first | exact bl HB | exact HB.out)) (fun k_ h_ => h_)) (below_size (by first | exact bl HB | exact HB.out))); replace HB := hs HB hb; (try clear hb); (try clear ho0); obtain ⟨Ao17, co17, eo17⟩ := Kd.V_slice HO_3.out; subst eo17; obtain ⟨Ao18, co18, eo18⟩ := Kd.R_slice HO695.out; subst eo18) | ((with_reducible refine gate_callee (f := 89) rfl ?_); refine goesL_ (some 17) rfl rfl Try.func89 (by kernel_rfl) rfl #[.slice Ao17 x3_1.length co17, .slice Ao18 t693.length co18] rfl ga ?_; (with_reducible refine (corporaref36_Times.calls k1 _ _ x3_1 _ _ t693 t696 _ ?side1 ?side2 ?side3 ?side4 A15.out).mono ?_); (case side1 => exact cl ((Kd.V_reads' HO_3.out).2.2)); (case side2 => exact (Kd.V_reads' HO_3.out).2.1); (case side3 => exact cl ((Kd.R_reads' HO695.out).2.2)); (case side4 => exact (Kd.R_reads' HO695.out).2.1); rintro e w19 ⟨v697, rfl, ho0, hb⟩; refine ⟨_, rfl, ?_⟩; replace HO_3 := Aside0.mk (Kd.V_below (vl HO_3) hb); have HO698 := Aside0.mk (Kd.V_lower (Kd.V_mono (ok' := fun k_ => (w.heap.size ≤ k_) ∧ some k_ ≠ (.slice Ao18 t693.length co18 : Value).ownBlock) ho0 (fun k_ hk_ => ⟨(Nat.le_trans (below_size (by first | exact bl HB | exact HB.out)) hk_), (Kd.fresh' (Kd.R_lt (rl HO695)) k_ hk_)⟩)) (below_size (by first | exact bl HB | exact HB.out))); replace HO695 := Aside0.mk (Kd.R_below (rl HO695) hb); replace HB := hs HB hb; (try clear hb); (try clear ho0)))
     go_ret
     exact ⟨_, by first | rfl | (simp [errW_none, errW_some] <;> rfl) | (simp only [← hji11, ← hji13]; first | rfl | (simp [errW_none, errW_some] <;> rfl)) | (simp [*, errW_none, errW_some] <;> rfl), by (with_reducible repeat (first | apply Kd.V_alloc | apply Kd.V_drewN | apply Kd.V_drew)); exact Kd.V_mono HO698.out (fun _ hk => hk.1), by first | exact bl HB | exact HB.out⟩
    ·rw [if_neg c12] at H
     exact absurd H (by simp)
set_option maxHeartbeats 8000000 in
set_option maxRecDepth 100000 in
theorem corporaref37_below.calls (k : Nat) (a0 : Int) (A1 : Option Addr) (c1 : Nat) (l1 : List Int) (A2 : Option Addr) (c2 : Nat) (l2 : List Int) (r1 : Bool) (r2 : Bool) (w : World) (hr1 : Kd.C (Kd.int .i64) w A1 l1.length l1) (hc1 : l1.length ≤ c1) (hr2 : Kd.C (Kd.int .i64) w A2 l2.length l2) (hc2 : l2.length ≤ c2) (h : corporaref37_below.f k a0 l1 l2 = some (r1, r2)) :
  Calls Try.prog 91 #[.int .i64 a0, .slice A1 l1.length c1, .slice A2 l2.length c2] w fun e w' => e = .returned (.tuple #[.bool r1, .bool r2]) ∧ Below w.heap.size w w' := by
 have HR1 := Aside0.mk hr1
 have HC1 := Aside0.mk hc1
 clear hr1 hc1
 have HR2 := Aside0.mk hr2
 have HC2 := Aside0.mk hc2
 clear hr2 hc2
 have HB := Aside0.mk (Below.refl w.heap.size w)
 have H : (if a0 ≥ 0 then _ else _) = _ := h
 clear h
 by_cases c4 : a0 ≥ 0
 ·rw [if_pos c4] at H
  have c4b0 : decide (0 ≤ a0) = true := decide_eq_true c4
  clear c4
  replace H := Option.bind_eq_some_iff.mp H
  obtain ⟨t699, A50, H⟩ := H
  replace H : Option.bind (corporaref36_Times.f k l2 t699) _ = _ := H
  have A5 := Aside0.mk A50
  clear A50
  replace H := Option.bind_eq_some_iff.mp H
  obtain ⟨t702, A60, H⟩ := H
  replace H : ((corporaref36_Less.f k t702 l1).bind fun t705 => (some (decide (t705 ≤ 0), (t705 == 0)))) = some (r1, r2) := H
  have A6 := Aside0.mk A60
  clear A60
  replace H := Option.bind_eq_some_iff.mp H
  obtain ⟨t705, A70, H⟩ := H
  replace H : (some (decide (t705 ≤ 0), (t705 == 0))) = some (r1, r2) := H
  have A7 := Aside0.mk A70
  clear A70
  simp only [Option.some.injEq, Prod.mk.injEq] at H
  obtain ⟨rfl, rfl⟩ := H
  go_enter Try.func91, Try.ntmps91
  go_wp2_with (first | ((with_reducible refine gate_callee (f := 127) rfl ?_); refine goesL_ (some 13) rfl rfl Try.func127 (by kernel_rfl) rfl #[.int .i64 a0] rfl ga ?_; (with_reducible refine (corporaref37_two.calls k a0 t699 _ A5.out).mono ?_); rintro e w8 ⟨v700, rfl, ho0, hb⟩; refine ⟨_, rfl, ?_⟩; have HO701 := Aside0.mk (Kd.V_lower (Kd.V_mono (ok' := fun k_ => True) ho0 (fun k_ hk_ => trivial)) (below_size (by first | exact bl HB | exact HB.out))); replace HB := hs HB hb; (try clear hb); (try clear ho0); obtain ⟨Ao9, co9, eo9⟩ := Kd.V_slice HO701.out; subst eo9) | ((with_reducible refine gate_callee (f := 89) rfl ?_); refine goesL_ (some 14) rfl rfl Try.func89 (by kernel_rfl) rfl #[.slice A2 l2.length c2, .slice Ao9 t699.length co9] rfl ga ?_; (with_reducible refine (corporaref36_Times.calls k _ _ l2 _ _ t699 t702 _ ?side1 ?side2 ?side3 ?side4 A6.out).mono ?_); (case side1 => exact cl ((Kd.C_below HR2.out HB.out))); (case side2 => exact HC2.out); (case side3 => exact cl ((Kd.V_reads' HO701.out).2.2)); (case side4 => exact (Kd.V_reads' HO701.out).2.1); rintro e w10 ⟨v703, rfl, ho0, hb⟩; refine ⟨_, rfl, ?_⟩; replace HO701 := Aside0.mk (Kd.V_below (vl HO701) hb); have HO704 := Aside0.mk (Kd.V_lower (Kd.V_mono (ok' := fun k_ => True) ho0 (fun k_ hk_ => trivial)) (below_size (by first | exact bl HB | exact HB.out))); replace HB := hs HB hb; (try clear hb); (try clear ho0); obtain ⟨Ao11, co11, eo11⟩ := Kd.V_slice HO704.out; subst eo11) | ((with_reducible refine gate_callee (f := 101) rfl ?_); refine goesL_ (some 22) rfl rfl Try.func101 (by kernel_rfl) rfl #[.slice Ao11 t702.length co11, .slice A1 l1.length c1] rfl ga ?_; (with_reducible refine (corporaref36_Less.calls k _ _ t702 _ _ l1 t705 _ ?side1 ?side2 ?side3 ?side4 A7.out).mono ?_); (case side1 => exact cl ((Kd.V_reads' HO704.out).2.2)); (case side2 => exact (Kd.V_reads' HO704.out).2.1); (case side3 => exact cl ((Kd.C_below HR1.out HB.out))); (case side4 => exact HC1.out); rintro e w' ⟨rfl, ⟨nd, rfl⟩⟩; refine ⟨_, rfl, ?_⟩))
  go_ret2
  exact ⟨er, by first | exact bl HB | exact HB.out⟩
 ·rw [if_neg c4] at H
  have c4b0 : decide (0 ≤ a0) = false := decide_eq_false c4
  clear c4
  replace H := Option.bind_eq_some_iff.mp H
  obtain ⟨t706, A120, H⟩ := H
  replace H : Option.bind (corporaref36_Times.f k l1 t706) _ = _ := H
  have A12 := Aside0.mk A120
  clear A120
  replace H := Option.bind_eq_some_iff.mp H
  obtain ⟨t709, A130, H⟩ := H
  replace H : ((corporaref36_Less.f k l2 t709).bind fun t712 => (some (decide (t712 ≤ 0), (t712 == 0)))) = some (r1, r2) := H
  have A13 := Aside0.mk A130
  clear A130
  replace H := Option.bind_eq_some_iff.mp H
  obtain ⟨t712, A140, H⟩ := H
  replace H : (some (decide (t712 ≤ 0), (t712 == 0))) = some (r1, r2) := H
  have A14 := Aside0.mk A140
  clear A140
  simp only [Option.some.injEq, Prod.mk.injEq] at H
  obtain ⟨rfl, rfl⟩ := H
  go_enter Try.func91, Try.ntmps91
  go_wp2_with (first | ((with_reducible refine gate_callee (f := 127) rfl ?_); refine goesL_ (some 18) rfl rfl Try.func127 (by kernel_rfl) rfl #[.int .i64 (wrap64 (-a0))] rfl ga ?_; (with_reducible refine (corporaref37_two.calls k (wrap64 (-a0)) t706 _ A12.out).mono ?_); rintro e w15 ⟨v707, rfl, ho0, hb⟩; refine ⟨_, rfl, ?_⟩; have HO708 := Aside0.mk (Kd.V_lower (Kd.V_mono (ok' := fun k_ => True) ho0 (fun k_ hk_ => trivial)) (below_size (by first | exact bl HB | exact HB.out))); replace HB := hs HB hb; (try clear hb); (try clear ho0); obtain ⟨Ao16, co16, eo16⟩ := Kd.V_slice HO708.out; subst eo16) | ((with_reducible refine gate_callee (f := 89) rfl ?_); refine goesL_ (some 19) rfl rfl Try.func89 (by kernel_rfl) rfl #[.slice A1 l1.length c1, .slice Ao16 t706.length co16] rfl ga ?_; (with_reducible refine (corporaref36_Times.calls k _ _ l1 _ _ t706 t709 _ ?side1 ?side2 ?side3 ?side4 A13.out).mono ?_); (case side1 => exact cl ((Kd.C_below HR1.out HB.out))); (case side2 => exact HC1.out); (case side3 => exact cl ((Kd.V_reads' HO708.out).2.2)); (case side4 => exact (Kd.V_reads' HO708.out).2.1); rintro e w17 ⟨v710, rfl, ho0, hb⟩; refine ⟨_, rfl, ?_⟩; replace HO708 := Aside0.mk (Kd.V_below (vl HO708) hb); have HO711 := Aside0.mk (Kd.V_lower (Kd.V_mono (ok' := fun k_ => True) ho0 (fun k_ hk_ => trivial)) (below_size (by first | exact bl HB | exact HB.out))); replace HB := hs HB hb; (try clear hb); (try clear ho0); obtain ⟨Ao18, co18, eo18⟩ := Kd.V_slice HO711.out; subst eo18) | ((with_reducible refine gate_callee (f := 101) rfl ?_); refine goesL_ (some 22) rfl rfl Try.func101 (by kernel_rfl) rfl #[.slice A2 l2.length c2, .slice Ao18 t709.length co18] rfl ga ?_; (with_reducible refine (corporaref36_Less.calls k _ _ l2 _ _ t709 t712 _ ?side1 ?side2 ?side3 ?side4 A14.out).mono ?_); (case side1 => exact cl ((Kd.C_below HR2.out HB.out))); (case side2 => exact HC2.out); (case side3 => exact cl ((Kd.V_reads' HO711.out).2.2)); (case side4 => exact (Kd.V_reads' HO711.out).2.1); rintro e w' ⟨rfl, ⟨nd, rfl⟩⟩; refine ⟨_, rfl, ?_⟩))
  go_ret2
  exact ⟨er, by first | exact bl HB | exact HB.out⟩
def corporaref37_Log.T3 : Bool × List (List Nat × List Nat) := (true, [([], []), ([0], [0]), ([1], [1]), ([], []), ([3], [3]), ([4, 2], [4]), ([2, 5, 0, 1, 2], [2]), ([5, 6, 0, 1, 2, 3, 4, 5, 6], [5])])
def corporaref37_Log.B3 : List Nat := [0, 1, 3, 0, 8, 31, 63, 127]
theorem corporaref37_Log.tab3 : rtab .any (opsOf Try.f30 3) = corporaref37_Log.T3 := by kernel_rfl
theorem corporaref37_Log.bits3 : waitsOk corporaref37_Log.T3.2 corporaref37_Log.B3 = true := by kernel_rfl
set_option maxHeartbeats 8000000 in
set_option maxRecDepth 100000 in
theorem corporaref37_Log.calls (k : Nat) (a0_0 : Bool) (a0_1 : ByteArray) (a0_2 : ByteArray) (a1 : Int) (r1 : Int) (r2 : Bool) (r3 : Int) (w : World) (h : corporaref37_Log.f k a0_0 a0_1 a0_2 a1 = some (r1, r2, r3)) :
  Calls Try.prog 30 #[.agg #[.bool a0_0, .string a0_1, .string a0_2], .int .i64 a1] w fun e w' => e = .returned (.tuple #[.int .i64 r1, .bool r2, .int .i64 r3]) ∧ Below w.heap.size w w' := by
 have hu35 := Try.underlying35
 have HB := Aside0.mk (Below.refl w.heap.size w)
 have H : Option.bind (corporaref36_IsRatio.f k a0_0 a0_1 a0_2) _ = _ := h
 clear h
 have HC3 := Aside0.mk H
 clear H
 go_enter Try.func30, Try.ntmps30
 go_upto_region 1 with (first | ((with_reducible refine gate_dst (N := 2) rfl ?_); (try (refine gate_guard (by rfl) ?_; dsimp only)); refine be (N := 2) (cs := #[.bool a0_0, .string a0_1, .string a0_2]) (t := 35) ?_; intro gb713 hg w4 hbox hb; have BK713 := Aside0.mk (hbox); have GW713 := gw HB hg; have GE713 := GW713; replace HB := hs HB hb; clear hb hbox hg))
 (try simp only [Act.put, List.setIfInBounds_toArray, List.set_cons_zero, List.set_cons_succ])
 go_cut [36] (fun v36 wc => ∃ (kq : Nat) (x36_2 : Bool), v36 = .bool x36_2 ∧ Aside0 (corporaref37_Log.j0 kq a1 x36_2 a0_0 a0_1 a0_2 = some (r1, r2, r3)) ∧ Aside0 (kq ≤ k) ∧ Aside0 (wc.heap[gb713]? = some (.cells #[.bool a0_0, .string a0_1, .string a0_2] 35 (0, 0))) ∧ Aside0 (Below w.heap.size w wc))
 case first =>
  have H := HC3.out
  clear HC3
  replace H := Option.bind_eq_some_iff.mp H
  obtain ⟨t714, A50, H⟩ := H
  replace H : (if t714 = true then _ else _) = _ := H
  have A5 := Aside0.mk A50
  clear A50
  by_cases c6 : t714 = true
  ·subst c6
   have H1 : (if a0_0 = true then _ else _) = _ := (if_pos rfl).symm.trans H
   clear H
   have H := H1
   clear H1
   by_cases c7 : a0_0 = true
   ·subst c7
    have H1 : (corporaref37_Log.j0 k a1 true true a0_1 a0_2) = some (r1, r2, r3) := by rw [if_pos rfl] at H; exact H
    clear H
    have H := H1
    clear H1
    have H' := Aside0.mk H
    clear H
    obtain ⟨hcz8_0, hcz8_1, hcz8_2, hfz8_0, hfz8_1, hfz8_2⟩ := z3 BK713
    go_wp2_with (first | ((with_reducible refine gate_callee (f := 69) rfl ?_); refine goesL_ (some 18) rfl rfl Try.func69 (by kernel_rfl) rfl #[.agg #[.bool true, .string a0_1, .string a0_2]] rfl ga ?_; (with_reducible refine (corporaref36_IsRatio.calls k true a0_1 a0_2 true _ A5.out).mono ?_); rintro e w9 ⟨rfl, hb⟩; refine ⟨_, rfl, ?_⟩; replace BK713 := bb BK713 hb; replace HB := hs HB hb; (try clear hb); obtain ⟨hcz10_0, hcz10_1, hcz10_2, hfz10_0, hfz10_1, hfz10_2⟩ := z3 BK713))
    go_meet
    case rel => exact ⟨_, (true), sv, H', ⟨by first | omega | exact Nat.le_refl _⟩, ⟨bk⟩, ⟨bs⟩⟩
   ·replace c7 := Bool.eq_false_iff.mpr c7
    subst c7
    have H1 : (if a0_1.toList = ([48] : List UInt8) then _ else _) = _ := (if_neg (show ¬ (false = true) by decide)).symm.trans H
    clear H
    have H := H1
    clear H1
    by_cases c11 : a0_1.toList = ([48] : List UInt8)
    ·rw [if_pos c11] at H
     have c11b0 : (a0_1.toList == ([48] : List UInt8)) = true := beq_iff_eq.mpr c11
     have c11b1 : (a0_1.toList != ([48] : List UInt8)) = false := bne_eq_false_iff_eq.mpr c11
     clear c11
     (first | rw [c11b0] | (simp only [i64_w, i32_w]; rw [c11b0]) | skip)
     have H' := Aside0.mk H
     clear H
     obtain ⟨hcz12_0, hcz12_1, hcz12_2, hfz12_0, hfz12_1, hfz12_2⟩ := z3 BK713
     go_wp2_with (first | ((with_reducible refine gate_callee (f := 69) rfl ?_); refine goesL_ (some 18) rfl rfl Try.func69 (by kernel_rfl) rfl #[.agg #[.bool false, .string a0_1, .string a0_2]] rfl ga ?_; (with_reducible refine (corporaref36_IsRatio.calls k false a0_1 a0_2 true _ A5.out).mono ?_); rintro e w13 ⟨rfl, hb⟩; refine ⟨_, rfl, ?_⟩; replace BK713 := bb BK713 hb; replace HB := hs HB hb; (try clear hb); obtain ⟨hcz14_0, hcz14_1, hcz14_2, hfz14_0, hfz14_1, hfz14_2⟩ := z3 BK713))
     go_meet
     case rel => exact ⟨_, (true), sv, H', ⟨by first | omega | exact Nat.le_refl _⟩, ⟨bk⟩, ⟨bs⟩⟩
    ·rw [if_neg c11] at H
     have c11b0 : (a0_1.toList == ([48] : List UInt8)) = false := beq_eq_false_iff_ne.mpr c11
     have c11b1 : (a0_1.toList != ([48] : List UInt8)) = true := bne_iff_ne.mpr c11
     (first | rw [c11b0] | (simp only [i64_w, i32_w]; rw [c11b0]) | skip)
     by_cases c15 : a1 < 0
     ·rw [if_pos c15] at H
      have c15b0 : decide (a1 < 0) = true := decide_eq_true c15
      clear c15
      have H' := Aside0.mk H
      clear H
      obtain ⟨hcz16_0, hcz16_1, hcz16_2, hfz16_0, hfz16_1, hfz16_2⟩ := z3 BK713
      go_wp2_with (first | ((with_reducible refine gate_callee (f := 69) rfl ?_); refine goesL_ (some 18) rfl rfl Try.func69 (by kernel_rfl) rfl #[.agg #[.bool false, .string a0_1, .string a0_2]] rfl ga ?_; (with_reducible refine (corporaref36_IsRatio.calls k false a0_1 a0_2 true _ A5.out).mono ?_); rintro e w17 ⟨rfl, hb⟩; refine ⟨_, rfl, ?_⟩; replace BK713 := bb BK713 hb; replace HB := hs HB hb; (try clear hb); obtain ⟨hcz18_0, hcz18_1, hcz18_2, hfz18_0, hfz18_1, hfz18_2⟩ := z3 BK713))
      go_meet
      case rel => exact ⟨_, (true), sv, H', ⟨by first | omega | exact Nat.le_refl _⟩, ⟨bk⟩, ⟨bs⟩⟩
     ·rw [if_neg c15] at H
      have c15b0 : decide (a1 < 0) = false := decide_eq_false c15
      clear c15
      have H' := Aside0.mk H
      clear H
      obtain ⟨hcz19_0, hcz19_1, hcz19_2, hfz19_0, hfz19_1, hfz19_2⟩ := z3 BK713
      go_wp2_with (first | ((with_reducible refine gate_callee (f := 69) rfl ?_); refine goesL_ (some 18) rfl rfl Try.func69 (by kernel_rfl) rfl #[.agg #[.bool false, .string a0_1, .string a0_2]] rfl ga ?_; (with_reducible refine (corporaref36_IsRatio.calls k false a0_1 a0_2 true _ A5.out).mono ?_); rintro e w20 ⟨rfl, hb⟩; refine ⟨_, rfl, ?_⟩; replace BK713 := bb BK713 hb; replace HB := hs HB hb; (try clear hb); obtain ⟨hcz21_0, hcz21_1, hcz21_2, hfz21_0, hfz21_1, hfz21_2⟩ := z3 BK713))
      go_meet
      case rel => exact ⟨_, (decide (a1 > 8)), sv, H', ⟨by first | omega | exact Nat.le_refl _⟩, ⟨bk⟩, ⟨bs⟩⟩
  ·replace c6 := Bool.eq_false_iff.mpr c6
   subst c6
   have H1 : (corporaref37_Log.j0 k a1 true a0_0 a0_1 a0_2) = some (r1, r2, r3) := by rw [if_neg (show ¬ (false = true) by decide)] at H; exact H
   clear H
   have H := H1
   clear H1
   have H' := Aside0.mk H
   clear H
   obtain ⟨hcz22_0, hcz22_1, hcz22_2, hfz22_0, hfz22_1, hfz22_2⟩ := z3 BK713
   go_wp2_with (first | ((with_reducible refine gate_callee (f := 69) rfl ?_); refine goesL_ (some 18) rfl rfl Try.func69 (by kernel_rfl) rfl #[.agg #[.bool a0_0, .string a0_1, .string a0_2]] rfl ga ?_; (with_reducible refine (corporaref36_IsRatio.calls k a0_0 a0_1 a0_2 false _ A5.out).mono ?_); rintro e w23 ⟨rfl, hb⟩; refine ⟨_, rfl, ?_⟩; replace BK713 := bb BK713 hb; replace HB := hs HB hb; (try clear hb)))
   go_meet
   case rel => exact ⟨_, (true), sv, H', ⟨by first | omega | exact Nat.le_refl _⟩, ⟨bk⟩, ⟨bs⟩⟩
 case rest =>
  clear HC3
  try clear c1
  try clear c6
  try clear c7
  try clear c11b0
  try clear c11b1
  try clear c15b0
  try clear hcz10_0
  try clear hcz10_1
  try clear hcz10_2
  try clear hcz12_0
  try clear hcz12_1
  try clear hcz12_2
  try clear hcz14_0
  try clear hcz14_1
  try clear hcz14_2
  try clear hcz16_0
  try clear hcz16_1
  try clear hcz16_2
  try clear hcz18_0
  try clear hcz18_1
  try clear hcz18_2
  try clear hcz19_0
  try clear hcz19_1
  try clear hcz19_2
  try clear hcz21_0
  try clear hcz21_1
  try clear hcz21_2
  try clear hcz22_0
  try clear hcz22_1
  try clear hcz22_2
  try clear hcz8_0
  try clear hcz8_1
  try clear hcz8_2
  try clear hfz10_0
  try clear hfz10_1
  try clear hfz10_2
  try clear hfz12_0
  try clear hfz12_1
  try clear hfz12_2
  try clear hfz14_0
  try clear hfz14_1
  try clear hfz14_2
  try clear hfz16_0
  try clear hfz16_1
  try clear hfz16_2
  try clear hfz18_0
  try clear hfz18_1
  try clear hfz18_2
  try clear hfz19_0
  try clear hfz19_1
  try clear hfz19_2
  try clear hfz21_0
  try clear hfz21_1
  try clear hfz21_2
  try clear hfz22_0
  try clear hfz22_1
  try clear hfz22_2
  try clear hfz8_0
  try clear hfz8_1
  try clear hfz8_2
  obtain ⟨kq, x36_2, rfl, HA, HJ2, BK713, HB⟩ := hcut
  cases kq with
  | zero => exact absurd HA.out (by simp [corporaref37_Log.j0])
  | succ kj2 =>
   have H := HA.out
   clear HA
   simp only [corporaref37_Log.j0] at H
   by_cases c24 : x36_2 = true
   ·subst c24
    have H1 : (some (0, false, 1)) = some (r1, r2, r3) := by rw [if_pos rfl] at H; exact H
    clear H
    have H := H1
    clear H1
    simp only [Option.some.injEq, Prod.mk.injEq] at H
    obtain ⟨rfl, rfl, rfl⟩ := H
    go_wp2
    go_ret3
    exact ⟨er, bs⟩
   ·replace c24 := Bool.eq_false_iff.mpr c24
    subst c24
    have H1 : Option.bind (corporaref36_Big.f kj2 a0_1) _ = _ := (if_neg (show ¬ (false = true) by decide)).symm.trans H
    clear H
    have H := H1
    clear H1
    replace H := Option.bind_eq_some_iff.mp H
    obtain ⟨t715, A250, H⟩ := H
    replace H : ((corporaref36_Big.f kj2 a0_2).bind fun t718 => (corporaref37_Log.l0 kj2 a1 t715 t718 0)) = some (r1, r2, r3) := H
    have A25 := Aside0.mk A250
    clear A250
    replace H := Option.bind_eq_some_iff.mp H
    obtain ⟨t718, A260, H⟩ := H
    replace H : (corporaref37_Log.l0 kj2 a1 t715 t718 0) = some (r1, r2, r3) := H
    have A26 := Aside0.mk A260
    clear A260
    have H' := Aside0.mk H
    clear H
    try go_wp2
    replace BK713 := Aside0.mk (blk_drew BK713.out)
    replace HB := Aside0.mk (below_drew1 HB.out)
    refine start_ (n := 8) (S := fun w' => w'.cell? ⟨gb713, 0, none⟩ = some (.bool a0_0) ∧ w'.cell? ⟨gb713, 1, none⟩ = some (.string a0_1) ∧ w'.cell? ⟨gb713, 2, none⟩ = some (.string a0_2)) (ds := []) #[false, false, false, false, false, false, false, false] (by kernel_rfl) rfl rfl ⟨(blk_cell BK713.out 0).trans rfl, (blk_cell BK713.out 1).trans rfl, (blk_cell BK713.out 2).trans rfl⟩ (fun hHeld => ?_); refine with_tabW corporaref37_Log.tab3 corporaref37_Log.bits3 (fun HT_ HW_ => ?_)
    generalize wc.drew = w27 at BK713 HB hHeld ⊢
    refine pu (i := 0) (N := some 37) ?_
    refine pu (i := 3) (N := some 40) ?_
    refine ta (i := 1) (N := some 38) hHeld ?_
    refine ta (i := 4) (N := some 41) hHeld ?_
    refine on (i := 2) (N := some 39) (fun K hK => ?_)
    refine goes_ Try.func88 (by kernel_rfl) rfl #[.string a0_1] (by rfl) rfl rfl ga ?_
    with_reducible refine (corporaref36_Big.calls kj2 a0_1 t715 _ A25.out).mono ?_
    rintro e w28 ⟨v716, rfl, ho0, hb⟩
    refine ⟨_, rfl, ?_⟩
    have HO717 := Aside0.mk (Kd.V_lower (Kd.V_mono (ok' := fun k_ => k_ ≠ gb713) ho0 (fun k_ hk_ => (fb BK713 k_ hk_))) (below_size bs))
    replace BK713 := bb BK713 hb
    replace HB := hs HB hb
    (try clear hb)
    (try clear hb2)
    (try clear hk)
    (try clear hi)
    (try clear ho0)
    refine hK.out _ _ ⟨(blk_cell BK713.out 0).trans rfl, (blk_cell BK713.out 1).trans rfl, (blk_cell BK713.out 2).trans rfl⟩ (fun hHeld => ?_)
    clear hK K
    refine norm_ (a' := ?_) ?_ ?_
    rotate_left
    ·show Act.put _ (some 39) _ = _
     simp only [Act.put, List.setIfInBounds_toArray, List.set_cons_zero, List.set_cons_succ, i64_w, i32_w]
     rfl
    refine on (i := 5) (N := some 42) (fun K hK => ?_)
    refine goes_ Try.func88 (by kernel_rfl) rfl #[.string a0_2] (by rfl) rfl rfl ga ?_
    with_reducible refine (corporaref36_Big.calls kj2 a0_2 t718 _ A26.out).mono ?_
    rintro e w29 ⟨v719, rfl, ho0, hb⟩
    refine ⟨_, rfl, ?_⟩
    replace HO717 := Aside0.mk (Kd.V_below (vl HO717) hb)
    have HO720 := Aside0.mk (Kd.V_lower (Kd.V_mono (ok' := fun k_ => k_ ≠ gb713) ho0 (fun k_ hk_ => (fb BK713 k_ hk_))) (below_size bs))
    replace BK713 := bb BK713 hb
    replace HB := hs HB hb
    (try clear hb)
    (try clear hb2)
    (try clear hk)
    (try clear hi)
    (try clear ho0)
    refine hK.out _ _ ⟨(blk_cell BK713.out 0).trans rfl, (blk_cell BK713.out 1).trans rfl, (blk_cell BK713.out 2).trans rfl⟩ (fun hHeld => ?_)
    clear hK K
    refine norm_ (a' := ?_) ?_ ?_
    rotate_left
    ·show Act.put _ (some 42) _ = _
     simp only [Act.put, List.setIfInBounds_toArray, List.set_cons_zero, List.set_cons_succ, i64_w, i32_w]
     rfl
    refine pu (i := 6) (N := some 7) ?_
    refine pu (i := 7) (N := some 8) ?_
    refine done_ (done_of HT_.out (by kernel_rfl)) ?_
    try go_wp2
    go_loopg [7, 8, 9] kj2 (fun kq v7 v8 v9 w' => ∃ (x7_2 : List Int) (x8_2 : List Int) (x9_2 : Int), v9 = .int .i64 x9_2 ∧ Aside0 (corporaref37_Log.l0 kq a1 x7_2 x8_2 x9_2 = some (r1, r2, r3)) ∧ Aside0 (kq ≤ kj2) ∧ Aside0 (Kd.V (Kd.int .i64) 3 w' w.heap.size (fun k_ => k_ ≠ gb713) v7 x7_2) ∧ Aside0 (Kd.V (Kd.int .i64) 3 w' w.heap.size (fun k_ => k_ ≠ gb713) v8 x8_2) ∧ Aside0 (w'.heap[gb713]? = some (.cells #[.bool a0_0, .string a0_1, .string a0_2] 35 (0, 0))) ∧ Aside0 (Below w.heap.size w w'))
    case atStart => exact ⟨(t715), (t718), (0), sv, H', ⟨Nat.le_refl _⟩, ⟨by exact vl HO717⟩, ⟨by exact vl HO720⟩, ⟨bk⟩, ⟨bs⟩⟩
    case round =>
     clear H'
     try clear c1
     try clear c2
     try clear c6
     try clear c7
     try clear c11b0
     try clear c11b1
     try clear c15b0
     try clear c24
     try clear hcz10_0
     try clear hcz10_1
     try clear hcz10_2
     try clear hcz12_0
     try clear hcz12_1
     try clear hcz12_2
     try clear hcz14_0
     try clear hcz14_1
     try clear hcz14_2
     try clear hcz16_0
     try clear hcz16_1
     try clear hcz16_2
     try clear hcz18_0
     try clear hcz18_1
     try clear hcz18_2
     try clear hcz19_0
     try clear hcz19_1
     try clear hcz19_2
     try clear hcz21_0
     try clear hcz21_1
     try clear hcz21_2
     try clear hcz22_0
     try clear hcz22_1
     try clear hcz22_2
     try clear hcz8_0
     try clear hcz8_1
     try clear hcz8_2
     try clear hfz10_0
     try clear hfz10_1
     try clear hfz10_2
     try clear hfz12_0
     try clear hfz12_1
     try clear hfz12_2
     try clear hfz14_0
     try clear hfz14_1
     try clear hfz14_2
     try clear hfz16_0
     try clear hfz16_1
     try clear hfz16_2
     try clear hfz18_0
     try clear hfz18_1
     try clear hfz18_2
     try clear hfz19_0
     try clear hfz19_1
     try clear hfz19_2
     try clear hfz21_0
     try clear hfz21_1
     try clear hfz21_2
     try clear hfz22_0
     try clear hfz22_1
     try clear hfz22_2
     try clear hfz8_0
     try clear hfz8_1
     try clear hfz8_2
     obtain ⟨x7_2, x8_2, x9_2, rfl, HA, HK2, HO_7, HO_8, BK713, HB⟩ := hrel
     cases gk with
     | zero => exact absurd HA.out (by simp [corporaref37_Log.l0])
     | succ k2 =>
      have H := HA.out
      clear HA
      simp only [corporaref37_Log.l0] at H
      by_cases c30 : x9_2 < a1
      ·rw [if_pos c30] at H
       have c30b0 : decide (x9_2 < a1) = true := decide_eq_true c30
       clear c30
       replace H := Option.bind_eq_some_iff.mp H
       obtain ⟨t721, A310, H⟩ := H
       replace H : Option.bind (corporaref36_Times.f k2 x8_2 x8_2) _ = _ := H
       have A31 := Aside0.mk A310
       clear A310
       replace H := Option.bind_eq_some_iff.mp H
       obtain ⟨t724, A320, H⟩ := H
       replace H : (if (t721.length : Int) > 5002 then _ else _) = _ := H
       have A32 := Aside0.mk A320
       clear A320
       by_cases c33 : (t721.length : Int) > 5002
       ·rw [if_pos c33] at H
        have c33b0 : decide (5002 < (t721.length : Int)) = true := decide_eq_true c33
        have c33b1 : decide (5002 < t721.length) = true := decide_eq_true (by omega)
        clear c33
        simp only [Option.some.injEq, Prod.mk.injEq] at H
        obtain ⟨rfl, rfl, rfl⟩ := H
        obtain ⟨Ao34, co34, eo34⟩ := Kd.V_slice HO_7.out
        subst eo34
        go_wp2_with (first | ((with_reducible refine gate_callee (f := 89) rfl ?_); refine goesL_ (some 50) rfl rfl Try.func89 (by kernel_rfl) rfl #[.slice Ao34 x7_2.length co34, .slice Ao34 x7_2.length co34] rfl ga ?_; (with_reducible refine (corporaref36_Times.calls k2 _ _ x7_2 _ _ x7_2 t721 _ ?side1 ?side2 ?side3 ?side4 A31.out).mono ?_); (case side1 => exact cl ((Kd.V_reads' HO_7.out).2.2)); (case side2 => exact (Kd.V_reads' HO_7.out).2.1); (case side3 => exact cl ((Kd.V_reads' HO_7.out).2.2)); (case side4 => exact (Kd.V_reads' HO_7.out).2.1); rintro e w35 ⟨v722, rfl, ho0, hb⟩; refine ⟨_, rfl, ?_⟩; replace HO_7 := Aside0.mk (Kd.V_below (vl HO_7) hb); replace HO_8 := Aside0.mk (Kd.V_below (vl HO_8) hb); have HO723 := Aside0.mk (Kd.V_lower (Kd.V_mono (ok' := fun k_ => k_ ≠ gb713) ho0 (fun k_ hk_ => (fb BK713 k_ hk_))) (below_size bs)); replace BK713 := bb BK713 hb; replace HB := hs HB hb; (try clear hb); (try clear ho0); obtain ⟨Ao36, co36, eo36⟩ := Kd.V_slice HO_8.out; subst eo36) | ((with_reducible refine gate_callee (f := 89) rfl ?_); refine goesL_ (some 53) rfl rfl Try.func89 (by kernel_rfl) rfl #[.slice Ao36 x8_2.length co36, .slice Ao36 x8_2.length co36] rfl ga ?_; (with_reducible refine (corporaref36_Times.calls k2 _ _ x8_2 _ _ x8_2 t724 _ ?side1 ?side2 ?side3 ?side4 A32.out).mono ?_); (case side1 => exact cl ((Kd.V_reads' HO_8.out).2.2)); (case side2 => exact (Kd.V_reads' HO_8.out).2.1); (case side3 => exact cl ((Kd.V_reads' HO_8.out).2.2)); (case side4 => exact (Kd.V_reads' HO_8.out).2.1); rintro e w37 ⟨v725, rfl, ho0, hb⟩; refine ⟨_, rfl, ?_⟩; replace HO_7 := Aside0.mk (Kd.V_below (vl HO_7) hb); replace HO_8 := Aside0.mk (Kd.V_below (vl HO_8) hb); replace HO723 := Aside0.mk (Kd.V_below (vl HO723) hb); have HO726 := Aside0.mk (Kd.V_lower (Kd.V_mono (ok' := fun k_ => k_ ≠ gb713) ho0 (fun k_ hk_ => (fb BK713 k_ hk_))) (below_size bs)); replace BK713 := bb BK713 hb; replace HB := hs HB hb; (try clear hb); (try clear ho0); obtain ⟨Ao38, co38, eo38⟩ := Kd.V_slice HO723.out; subst eo38))
        go_ret3
        exact ⟨er, bs⟩
       ·rw [if_neg c33] at H
        have c33b0 : decide (5002 < (t721.length : Int)) = false := decide_eq_false c33
        have c33b1 : decide (5002 < t721.length) = false := decide_eq_false (by omega)
        clear c33
        by_cases c39 : (t724.length : Int) > 5002
        ·rw [if_pos c39] at H
         have c39b0 : decide (5002 < (t724.length : Int)) = true := decide_eq_true c39
         have c39b1 : decide (5002 < t724.length) = true := decide_eq_true (by omega)
         clear c39
         simp only [Option.some.injEq, Prod.mk.injEq] at H
         obtain ⟨rfl, rfl, rfl⟩ := H
         obtain ⟨Ao40, co40, eo40⟩ := Kd.V_slice HO_7.out
         subst eo40
         go_wp2_with (first | ((with_reducible refine gate_callee (f := 89) rfl ?_); refine goesL_ (some 50) rfl rfl Try.func89 (by kernel_rfl) rfl #[.slice Ao40 x7_2.length co40, .slice Ao40 x7_2.length co40] rfl ga ?_; (with_reducible refine (corporaref36_Times.calls k2 _ _ x7_2 _ _ x7_2 t721 _ ?side1 ?side2 ?side3 ?side4 A31.out).mono ?_); (case side1 => exact cl ((Kd.V_reads' HO_7.out).2.2)); (case side2 => exact (Kd.V_reads' HO_7.out).2.1); (case side3 => exact cl ((Kd.V_reads' HO_7.out).2.2)); (case side4 => exact (Kd.V_reads' HO_7.out).2.1); rintro e w41 ⟨v722, rfl, ho0, hb⟩; refine ⟨_, rfl, ?_⟩; replace HO_7 := Aside0.mk (Kd.V_below (vl HO_7) hb); replace HO_8 := Aside0.mk (Kd.V_below (vl HO_8) hb); have HO723 := Aside0.mk (Kd.V_lower (Kd.V_mono (ok' := fun k_ => k_ ≠ gb713) ho0 (fun k_ hk_ => (fb BK713 k_ hk_))) (below_size bs)); replace BK713 := bb BK713 hb; replace HB := hs HB hb; (try clear hb); (try clear ho0); obtain ⟨Ao42, co42, eo42⟩ := Kd.V_slice HO_8.out; subst eo42) | ((with_reducible refine gate_callee (f := 89) rfl ?_); refine goesL_ (some 53) rfl rfl Try.func89 (by kernel_rfl) rfl #[.slice Ao42 x8_2.length co42, .slice Ao42 x8_2.length co42] rfl ga ?_; (with_reducible refine (corporaref36_Times.calls k2 _ _ x8_2 _ _ x8_2 t724 _ ?side1 ?side2 ?side3 ?side4 A32.out).mono ?_); (case side1 => exact cl ((Kd.V_reads' HO_8.out).2.2)); (case side2 => exact (Kd.V_reads' HO_8.out).2.1); (case side3 => exact cl ((Kd.V_reads' HO_8.out).2.2)); (case side4 => exact (Kd.V_reads' HO_8.out).2.1); rintro e w43 ⟨v725, rfl, ho0, hb⟩; refine ⟨_, rfl, ?_⟩; replace HO_7 := Aside0.mk (Kd.V_below (vl HO_7) hb); replace HO_8 := Aside0.mk (Kd.V_below (vl HO_8) hb); replace HO723 := Aside0.mk (Kd.V_below (vl HO723) hb); have HO726 := Aside0.mk (Kd.V_lower (Kd.V_mono (ok' := fun k_ => k_ ≠ gb713) ho0 (fun k_ hk_ => (fb BK713 k_ hk_))) (below_size bs)); replace BK713 := bb BK713 hb; replace HB := hs HB hb; (try clear hb); (try clear ho0); obtain ⟨Ao44, co44, eo44⟩ := Kd.V_slice HO723.out; subst eo44; obtain ⟨Ao45, co45, eo45⟩ := Kd.V_slice HO726.out; subst eo45))
         go_ret3
         exact ⟨er, bs⟩
        ·rw [if_neg c39] at H
         have c39b0 : decide (5002 < (t724.length : Int)) = false := decide_eq_false c39
         have c39b1 : decide (5002 < t724.length) = false := decide_eq_false (by omega)
         clear c39
         have H' := Aside0.mk H
         clear H
         obtain ⟨Ao46, co46, eo46⟩ := Kd.V_slice HO_7.out
         subst eo46
         go_wp2_with (first | ((with_reducible refine gate_callee (f := 89) rfl ?_); refine goesL_ (some 50) rfl rfl Try.func89 (by kernel_rfl) rfl #[.slice Ao46 x7_2.length co46, .slice Ao46 x7_2.length co46] rfl ga ?_; (with_reducible refine (corporaref36_Times.calls k2 _ _ x7_2 _ _ x7_2 t721 _ ?side1 ?side2 ?side3 ?side4 A31.out).mono ?_); (case side1 => exact cl ((Kd.V_reads' HO_7.out).2.2)); (case side2 => exact (Kd.V_reads' HO_7.out).2.1); (case side3 => exact cl ((Kd.V_reads' HO_7.out).2.2)); (case side4 => exact (Kd.V_reads' HO_7.out).2.1); rintro e w47 ⟨v722, rfl, ho0, hb⟩; refine ⟨_, rfl, ?_⟩; replace HO_7 := Aside0.mk (Kd.V_below (vl HO_7) hb); replace HO_8 := Aside0.mk (Kd.V_below (vl HO_8) hb); have HO723 := Aside0.mk (Kd.V_lower (Kd.V_mono (ok' := fun k_ => k_ ≠ gb713) ho0 (fun k_ hk_ => (fb BK713 k_ hk_))) (below_size bs)); replace BK713 := bb BK713 hb; replace HB := hs HB hb; (try clear hb); (try clear ho0); obtain ⟨Ao48, co48, eo48⟩ := Kd.V_slice HO_8.out; subst eo48) | ((with_reducible refine gate_callee (f := 89) rfl ?_); refine goesL_ (some 53) rfl rfl Try.func89 (by kernel_rfl) rfl #[.slice Ao48 x8_2.length co48, .slice Ao48 x8_2.length co48] rfl ga ?_; (with_reducible refine (corporaref36_Times.calls k2 _ _ x8_2 _ _ x8_2 t724 _ ?side1 ?side2 ?side3 ?side4 A32.out).mono ?_); (case side1 => exact cl ((Kd.V_reads' HO_8.out).2.2)); (case side2 => exact (Kd.V_reads' HO_8.out).2.1); (case side3 => exact cl ((Kd.V_reads' HO_8.out).2.2)); (case side4 => exact (Kd.V_reads' HO_8.out).2.1); rintro e w49 ⟨v725, rfl, ho0, hb⟩; refine ⟨_, rfl, ?_⟩; replace HO_7 := Aside0.mk (Kd.V_below (vl HO_7) hb); replace HO_8 := Aside0.mk (Kd.V_below (vl HO_8) hb); replace HO723 := Aside0.mk (Kd.V_below (vl HO723) hb); have HO726 := Aside0.mk (Kd.V_lower (Kd.V_mono (ok' := fun k_ => k_ ≠ gb713) ho0 (fun k_ hk_ => (fb BK713 k_ hk_))) (below_size bs)); replace BK713 := bb BK713 hb; replace HB := hs HB hb; (try clear hb); (try clear ho0); obtain ⟨Ao50, co50, eo50⟩ := Kd.V_slice HO723.out; subst eo50; obtain ⟨Ao51, co51, eo51⟩ := Kd.V_slice HO726.out; subst eo51))
         go_roundg k2
         case measure => have := HJ2.out; have := HK2.out; omega
         case rel => exact ⟨(t721), (t724), (wrap64 (x9_2 + 1)), sv, H', ⟨by have := HJ2.out; have := HK2.out; omega⟩, ⟨by exact vl HO723⟩, ⟨by exact vl HO726⟩, ⟨bk⟩, ⟨bs⟩⟩
      ·rw [if_neg c30] at H
       have c30b0 : decide (x9_2 < a1) = false := decide_eq_false c30
       clear c30
       have HC52 := Aside0.mk H
       clear H
       go_upto_region 10 with (fail)
       go_cut [71] (fun v71 wc => ∃ (kq : Nat) (x71_51 : Bool), v71 = .bool x71_51 ∧ Aside0 (corporaref37_Log.j2 kq x7_2 x8_2 x71_51 = some (r1, r2, r3)) ∧ Aside0 (kq ≤ k2) ∧ Aside0 (Kd.V (Kd.int .i64) 3 wc w.heap.size (fun k_ => k_ ≠ gb713) u7 x7_2) ∧ Aside0 (Kd.V (Kd.int .i64) 3 wc w.heap.size (fun k_ => k_ ≠ gb713) u8 x8_2) ∧ Aside0 (wc.heap[gb713]? = some (.cells #[.bool a0_0, .string a0_1, .string a0_2] 35 (0, 0))) ∧ Aside0 (Below w.heap.size w wc))
       case first =>
        have H := HC52.out
        clear HC52
        replace H := Option.bind_eq_some_iff.mp H
        obtain ⟨t727, A530, H⟩ := H
        replace H : (if (t727.size : Int) > 20000 then _ else _) = _ := H
        have A53 := Aside0.mk A530
        clear A530
        by_cases c54 : (t727.size : Int) > 20000
        ·rw [if_pos c54] at H
         have c54b0 : decide (20000 < (t727.size : Int)) = true := decide_eq_true c54
         have c54b1 : decide (20000 < t727.size) = true := decide_eq_true (by omega)
         clear c54
         (first | rw [c54b0] | (simp only [i64_w, i32_w]; rw [c54b0]) | skip)
         have H' := Aside0.mk H
         clear H
         obtain ⟨Ao55, co55, eo55⟩ := Kd.V_slice HO_7.out
         subst eo55
         go_wp2_with (first | ((with_reducible refine gate_callee (f := 90) rfl ?_); refine goesL_ (some 63) rfl rfl Try.func90 (by kernel_rfl) rfl #[.slice Ao55 x7_2.length co55] rfl ga ?_; (with_reducible refine (corporaref36_Text.calls k2 _ _ x7_2 t727 _ ?side1 ?side2 A53.out).mono ?_); (case side1 => exact cl ((Kd.V_reads' HO_7.out).2.2)); (case side2 => exact (Kd.V_reads' HO_7.out).2.1); rintro e w56 ⟨rfl, hb⟩; refine ⟨_, rfl, ?_⟩; replace HO_7 := Aside0.mk (Kd.V_below (vl HO_7) hb); replace HO_8 := Aside0.mk (Kd.V_below (vl HO_8) hb); replace BK713 := bb BK713 hb; replace HB := hs HB hb; (try clear hb)))
         go_meet
         case rel => exact ⟨_, (true), sv, H', ⟨by have := HJ2.out; have := HK2.out; first | omega | exact Nat.le_refl _⟩, ⟨by exact vl HO_7⟩, ⟨by exact vl HO_8⟩, ⟨bk⟩, ⟨bs⟩⟩
        ·rw [if_neg c54] at H
         have c54b0 : decide (20000 < (t727.size : Int)) = false := decide_eq_false c54
         have c54b1 : decide (20000 < t727.size) = false := decide_eq_false (by omega)
         clear c54
         (first | rw [c54b0] | (simp only [i64_w, i32_w]; rw [c54b0]) | skip)
         replace H := Option.bind_eq_some_iff.mp H
         obtain ⟨t728, A570, H⟩ := H
         replace H : (corporaref37_Log.j2 k2 x7_2 x8_2 (decide ((t728.size : Int) > 20000))) = some (r1, r2, r3) := H
         have A57 := Aside0.mk A570
         clear A570
         have H' := Aside0.mk H
         clear H
         obtain ⟨Ao58, co58, eo58⟩ := Kd.V_slice HO_7.out
         subst eo58
         go_wp2_with (first | ((with_reducible refine gate_callee (f := 90) rfl ?_); refine goesL_ (some 63) rfl rfl Try.func90 (by kernel_rfl) rfl #[.slice Ao58 x7_2.length co58] rfl ga ?_; (with_reducible refine (corporaref36_Text.calls k2 _ _ x7_2 t727 _ ?side1 ?side2 A53.out).mono ?_); (case side1 => exact cl ((Kd.V_reads' HO_7.out).2.2)); (case side2 => exact (Kd.V_reads' HO_7.out).2.1); rintro e w59 ⟨rfl, hb⟩; refine ⟨_, rfl, ?_⟩; replace HO_7 := Aside0.mk (Kd.V_below (vl HO_7) hb); replace HO_8 := Aside0.mk (Kd.V_below (vl HO_8) hb); replace BK713 := bb BK713 hb; replace HB := hs HB hb; (try clear hb); obtain ⟨Ao60, co60, eo60⟩ := Kd.V_slice HO_8.out; subst eo60) | (go_at_call 90; (with_reducible refine (corporaref36_Text.calls k2 _ _ x8_2 t728 _ ?side1 ?side2 A57.out).mono ?_); (case side1 => exact cl ((Kd.V_reads' HO_8.out).2.2)); (case side2 => exact (Kd.V_reads' HO_8.out).2.1); rintro e w61 ⟨rfl, hb⟩; replace HO_7 := Aside0.mk (Kd.V_below (vl HO_7) hb); replace HO_8 := Aside0.mk (Kd.V_below (vl HO_8) hb); replace BK713 := bb BK713 hb; replace HB := hs HB hb; (try clear hb)))
         go_meet
         case rel => exact ⟨_, (decide ((t728.size : Int) > 20000)), sv, H', ⟨by have := HJ2.out; have := HK2.out; first | omega | exact Nat.le_refl _⟩, ⟨by exact vl HO_7⟩, ⟨by exact vl HO_8⟩, ⟨bk⟩, ⟨bs⟩⟩
       case rest =>
        clear HC52
        try clear c1
        try clear c2
        try clear c6
        try clear c7
        try clear c11b0
        try clear c11b1
        try clear c15b0
        try clear c24
        try clear c30b0
        try clear c33b0
        try clear c33b1
        try clear c39b0
        try clear c39b1
        try clear c54b0
        try clear c54b1
        try clear hcz10_0
        try clear hcz10_1
        try clear hcz10_2
        try clear hcz12_0
        try clear hcz12_1
        try clear hcz12_2
        try clear hcz14_0
        try clear hcz14_1
        try clear hcz14_2
        try clear hcz16_0
        try clear hcz16_1
        try clear hcz16_2
        try clear hcz18_0
        try clear hcz18_1
        try clear hcz18_2
        try clear hcz19_0
        try clear hcz19_1
        try clear hcz19_2
        try clear hcz21_0
        try clear hcz21_1
        try clear hcz21_2
        try clear hcz22_0
        try clear hcz22_1
        try clear hcz22_2
        try clear hcz8_0
        try clear hcz8_1
        try clear hcz8_2
        try clear hfz10_0
        try clear hfz10_1
        try clear hfz10_2
        try clear hfz12_0
        try clear hfz12_1
        try clear hfz12_2
        try clear hfz14_0
        try clear hfz14_1
        try clear hfz14_2
        try clear hfz16_0
        try clear hfz16_1
        try clear hfz16_2
        try clear hfz18_0
        try clear hfz18_1
        try clear hfz18_2
        try clear hfz19_0
        try clear hfz19_1
        try clear hfz19_2
        try clear hfz21_0
        try clear hfz21_1
        try clear hfz21_2
        try clear hfz22_0
        try clear hfz22_1
        try clear hfz22_2
        try clear hfz8_0
        try clear hfz8_1
        try clear hfz8_2
        obtain ⟨kq, x71_51, rfl, HA, HJ51, HO_7, HO_8, BK713, HB⟩ := hcut
        cases kq with
        | zero => exact absurd HA.out (by simp [corporaref37_Log.j2])
        | succ kj51 =>
         have H := HA.out
         clear HA
         simp only [corporaref37_Log.j2] at H
         by_cases c62 : x71_51 = true
         ·subst c62
          have H1 : (some (0, false, 2)) = some (r1, r2, r3) := by rw [if_pos rfl] at H; exact H
          clear H
          have H := H1
          clear H1
          simp only [Option.some.injEq, Prod.mk.injEq] at H
          obtain ⟨rfl, rfl, rfl⟩ := H
          go_wp2
          go_ret3
          exact ⟨er, bs⟩
         ·replace c62 := Bool.eq_false_iff.mpr c62
          subst c62
          have H1 : (corporaref37_Log.l1 kj51 x7_2 x8_2 (wrap64 ((wrap64 ((-14) * (x8_2.length : Int))) - 14)) (wrap64 ((wrap64 (14 * (x7_2.length : Int))) + 14))) = some (r1, r2, r3) := by rw [if_neg (show ¬ (false = true) by decide)] at H; exact H
          clear H
          have H := H1
          clear H1
          have H' := Aside0.mk H
          clear H
          obtain ⟨Ao63, co63, eo63⟩ := Kd.V_slice HO_8.out
          subst eo63
          obtain ⟨Ao64, co64, eo64⟩ := Kd.V_slice HO_7.out
          subst eo64
          go_wp2
          go_loopg [10, 11] kj51 (fun kq v10 v11 w' => ∃ (x10_4 : Int) (x11_4 : Int), v10 = .int .i64 x10_4 ∧ v11 = .int .i64 x11_4 ∧ Aside0 (corporaref37_Log.l1 kq x7_2 x8_2 x10_4 x11_4 = some (r1, r2, r3)) ∧ Aside0 (kq ≤ kj51) ∧ Aside0 (Kd.V (Kd.int .i64) 3 w' w.heap.size (fun k_ => k_ ≠ gb713) (.slice Ao64 x7_2.length co64) x7_2) ∧ Aside0 (Kd.V (Kd.int .i64) 3 w' w.heap.size (fun k_ => k_ ≠ gb713) (.slice Ao63 x8_2.length co63) x8_2) ∧ Aside0 (w'.heap[gb713]? = some (.cells #[.bool a0_0, .string a0_1, .string a0_2] 35 (0, 0))) ∧ Aside0 (Below w.heap.size w w'))
          case atStart => exact ⟨(wrap64 ((wrap64 ((-14) * (x8_2.length : Int))) - 14)), (wrap64 ((wrap64 (14 * (x7_2.length : Int))) + 14)), sv, sv, H', ⟨Nat.le_refl _⟩, ⟨by exact vl HO_7⟩, ⟨by exact vl HO_8⟩, ⟨bk⟩, ⟨bs⟩⟩
          case round =>
           clear H'
           try clear c1
           try clear c2
           try clear c6
           try clear c7
           try clear c11b0
           try clear c11b1
           try clear c15b0
           try clear c24
           try clear c30b0
           try clear c33b0
           try clear c33b1
           try clear c39b0
           try clear c39b1
           try clear c54b0
           try clear c54b1
           try clear c62
           try clear hcz10_0
           try clear hcz10_1
           try clear hcz10_2
           try clear hcz12_0
           try clear hcz12_1
           try clear hcz12_2
           try clear hcz14_0
           try clear hcz14_1
           try clear hcz14_2
           try clear hcz16_0
           try clear hcz16_1
           try clear hcz16_2
           try clear hcz18_0
           try clear hcz18_1
           try clear hcz18_2
           try clear hcz19_0
           try clear hcz19_1
           try clear hcz19_2
           try clear hcz21_0
           try clear hcz21_1
           try clear hcz21_2
           try clear hcz22_0
           try clear hcz22_1
           try clear hcz22_2
           try clear hcz8_0
           try clear hcz8_1
           try clear hcz8_2
           try clear hfz10_0
           try clear hfz10_1
           try clear hfz10_2
           try clear hfz12_0
           try clear hfz12_1
           try clear hfz12_2
           try clear hfz14_0
           try clear hfz14_1
           try clear hfz14_2
           try clear hfz16_0
           try clear hfz16_1
           try clear hfz16_2
           try clear hfz18_0
           try clear hfz18_1
           try clear hfz18_2
           try clear hfz19_0
           try clear hfz19_1
           try clear hfz19_2
           try clear hfz21_0
           try clear hfz21_1
           try clear hfz21_2
           try clear hfz22_0
           try clear hfz22_1
           try clear hfz22_2
           try clear hfz8_0
           try clear hfz8_1
           try clear hfz8_2
           obtain ⟨x10_4, x11_4, rfl, rfl, HA, HK4, HO_7, HO_8, BK713, HB⟩ := hrel
           cases gk with
           | zero => exact absurd HA.out (by simp [corporaref37_Log.l1])
           | succ k4 =>
            have H := HA.out
            clear HA
            simp only [corporaref37_Log.l1] at H
            by_cases c65 : (wrap64 (x11_4 - x10_4)) > 1
            ·rw [if_pos c65] at H
             have c65b0 : decide (1 < (wrap64 (x11_4 - x10_4))) = true := decide_eq_true c65
             clear c65
             replace H := Option.bind_eq_some_iff.mp H
             obtain ⟨⟨t729, t730⟩, A660, H⟩ := H
             replace H : (if t729 = true then _ else _) = _ := H
             have A66 := Aside0.mk A660
             clear A660
             by_cases c67 : t729 = true
             ·subst c67
              have H1 : (corporaref37_Log.l1 k4 x7_2 x8_2 ((wrap64 (x10_4 + x11_4)) / 2) x11_4) = some (r1, r2, r3) := by rw [if_pos rfl] at H; exact H
              clear H
              have H := H1
              clear H1
              have H' := Aside0.mk H
              clear H
              go_wp2_with (first | ((with_reducible refine gate_callee (f := 91) rfl ?_); refine goesL_ (some 92) rfl rfl Try.func91 (by kernel_rfl) rfl #[.int .i64 ((wrap64 (x10_4 + x11_4)) / 2), .slice Ao64 x7_2.length co64, .slice Ao63 x8_2.length co63] rfl ga ?_; (with_reducible refine (corporaref37_below.calls k4 ((wrap64 (x10_4 + x11_4)) / 2) _ _ x7_2 _ _ x8_2 true t730 _ ?side1 ?side2 ?side3 ?side4 A66.out).mono ?_); (case side1 => exact cl ((Kd.V_reads' HO_7.out).2.2)); (case side2 => exact (Kd.V_reads' HO_7.out).2.1); (case side3 => exact cl ((Kd.V_reads' HO_8.out).2.2)); (case side4 => exact (Kd.V_reads' HO_8.out).2.1); rintro e w68 ⟨rfl, hb⟩; refine ⟨_, rfl, ?_⟩; replace HO_7 := Aside0.mk (Kd.V_below (vl HO_7) hb); replace HO_8 := Aside0.mk (Kd.V_below (vl HO_8) hb); replace BK713 := bb BK713 hb; replace HB := hs HB hb; (try clear hb)))
              go_roundg k4
              case measure => have := HJ2.out; have := HK2.out; have := HJ51.out; have := HK4.out; omega
              case rel => exact ⟨((wrap64 (x10_4 + x11_4)) / 2), (x11_4), sv, sv, H', ⟨by have := HJ2.out; have := HK2.out; have := HJ51.out; have := HK4.out; omega⟩, ⟨by exact vl HO_7⟩, ⟨by exact vl HO_8⟩, ⟨bk⟩, ⟨bs⟩⟩
             ·replace c67 := Bool.eq_false_iff.mpr c67
              subst c67
              have H1 : (corporaref37_Log.l1 k4 x7_2 x8_2 x10_4 ((wrap64 (x10_4 + x11_4)) / 2)) = some (r1, r2, r3) := by rw [if_neg (show ¬ (false = true) by decide)] at H; exact H
              clear H
              have H := H1
              clear H1
              have H' := Aside0.mk H
              clear H
              go_wp2_with (first | ((with_reducible refine gate_callee (f := 91) rfl ?_); refine goesL_ (some 92) rfl rfl Try.func91 (by kernel_rfl) rfl #[.int .i64 ((wrap64 (x10_4 + x11_4)) / 2), .slice Ao64 x7_2.length co64, .slice Ao63 x8_2.length co63] rfl ga ?_; (with_reducible refine (corporaref37_below.calls k4 ((wrap64 (x10_4 + x11_4)) / 2) _ _ x7_2 _ _ x8_2 false t730 _ ?side1 ?side2 ?side3 ?side4 A66.out).mono ?_); (case side1 => exact cl ((Kd.V_reads' HO_7.out).2.2)); (case side2 => exact (Kd.V_reads' HO_7.out).2.1); (case side3 => exact cl ((Kd.V_reads' HO_8.out).2.2)); (case side4 => exact (Kd.V_reads' HO_8.out).2.1); rintro e w69 ⟨rfl, hb⟩; refine ⟨_, rfl, ?_⟩; replace HO_7 := Aside0.mk (Kd.V_below (vl HO_7) hb); replace HO_8 := Aside0.mk (Kd.V_below (vl HO_8) hb); replace BK713 := bb BK713 hb; replace HB := hs HB hb; (try clear hb)))
              go_roundg k4
              case measure => have := HJ2.out; have := HK2.out; have := HJ51.out; have := HK4.out; omega
              case rel => exact ⟨(x10_4), ((wrap64 (x10_4 + x11_4)) / 2), sv, sv, H', ⟨by have := HJ2.out; have := HK2.out; have := HJ51.out; have := HK4.out; omega⟩, ⟨by exact vl HO_7⟩, ⟨by exact vl HO_8⟩, ⟨bk⟩, ⟨bs⟩⟩
            ·rw [if_neg c65] at H
             have c65b0 : decide (1 < (wrap64 (x11_4 - x10_4))) = false := decide_eq_false c65
             clear c65
             replace H := Option.bind_eq_some_iff.mp H
             obtain ⟨⟨t731, t732⟩, A700, H⟩ := H
             replace H : (some (x10_4, t732, 0)) = some (r1, r2, r3) := H
             have A70 := Aside0.mk A700
             clear A700
             simp only [Option.some.injEq, Prod.mk.injEq] at H
             obtain ⟨rfl, rfl, rfl⟩ := H
             go_wp2_with (first | ((with_reducible refine gate_callee (f := 91) rfl ?_); refine goesL_ (some 102) rfl rfl Try.func91 (by kernel_rfl) rfl #[.int .i64 x10_4, .slice Ao64 x7_2.length co64, .slice Ao63 x8_2.length co63] rfl ga ?_; (with_reducible refine (corporaref37_below.calls k4 x10_4 _ _ x7_2 _ _ x8_2 t731 t732 _ ?side1 ?side2 ?side3 ?side4 A70.out).mono ?_); (case side1 => exact cl ((Kd.V_reads' HO_7.out).2.2)); (case side2 => exact (Kd.V_reads' HO_7.out).2.1); (case side3 => exact cl ((Kd.V_reads' HO_8.out).2.2)); (case side4 => exact (Kd.V_reads' HO_8.out).2.1); rintro e w71 ⟨rfl, hb⟩; refine ⟨_, rfl, ?_⟩; replace HO_7 := Aside0.mk (Kd.V_below (vl HO_7) hb); replace HO_8 := Aside0.mk (Kd.V_below (vl HO_8) hb); replace BK713 := bb BK713 hb; replace HB := hs HB hb; (try clear hb)))
             go_ret3
             exact ⟨er, bs⟩
end Go.Proofs.Ytccgfmjcldifcaa.P
