/- Walks of Go functions: what they compute; each theorem's conditions stand in it. -/
import Derived.Test.YtccgfmjcldifcaaT
import Derived.Test.YtccgfmjcldifcaaCRBig
import Derived.Test.YtccgfmjcldifcaaCRTimes
import Derived.Test.YtccgfmjcldifcaaDB
namespace Go.Proofs.Ytccgfmjcldifcaa.P
open Go.RowKit Go.Proofs.YtccgfmjcldifcaaW.PrintWords Go.Proofs.YtccgfmjcldifcaaW.PrintLast Go.Proofs.YtccgfmjcldifcaaW.PrintMore
attribute [local go_sem] max2_int min2_int max_two min_two max_three min_three max_four min_four
set_option linter.unusedVariables false
set_option linter.unusedSimpArgs false
set_option maxHeartbeats 8000000 in
set_option maxRecDepth 100000 in
theorem corporaref36_Divide.calls (k : Nat) (A0 : Option Addr) (c0 : Nat) (l0 : List Int) (A1 : Option Addr) (c1 : Nat) (l1 : List Int) (r1 : List Int) (r2 : List Int) (w : World) (hr0 : Kd.C (Kd.int .i64) w A0 l0.length l0) (hc0 : l0.length ≤ c0) (hr1 : Kd.C (Kd.int .i64) w A1 l1.length l1) (hc1 : l1.length ≤ c1) (h : corporaref36_Divide.f k l0 l1 = some (r1, r2)) :
  Calls Try.prog 103 #[.slice A0 l0.length c0, .slice A1 l1.length c1] w fun e w' => ∃ v0_ v1_ : Value, e = .returned (.tuple #[v0_, v1_]) ∧ Kd.V (Kd.int .i64) 3 w' w.heap.size (fun k_ => (w.heap.size ≤ k_)) v0_ r1 ∧ Kd.V (Kd.int .i64) 3 w' w.heap.size (fun k_ => (w.heap.size ≤ k_)) v1_ r2 ∧ Below w.heap.size w w' := by
 have HR0 := Aside0.mk hr0
 have HC0 := Aside0.mk hc0
 clear hr0 hc0
 have HR1 := Aside0.mk hr1
 have HC1 := Aside0.mk hc1
 clear hr1 hc1
 have HB := Aside0.mk (Below.refl w.heap.size w)
 have H : (if 0 ≤ (l0.length : Int) then _ else _) = _ := h
 clear h
 by_cases c3 : 0 ≤ (l0.length : Int)
 ·rw [if_pos c3] at H
  have c3b0 := eq_true c3
  have c3b1 : decide (0 ≤ (l0.length : Int)) = true := decide_eq_true c3
  clear c3
  by_cases c4 : ((l0.length : Int) : Int).toNat ≤ 35184372088832
  ·rw [if_pos c4] at H
   have c4b0 := eq_true c4
   have c4b1 : decide (((l0.length : Int) : Int).toNat ≤ 35184372088832) = true := decide_eq_true c4
   clear c4
   obtain ⟨y408, hy408⟩ : ∃ y_ : List Int, y_ = (List.replicate ((l0.length : Int) : Int).toNat 0) := ⟨_, rfl⟩
   replace H : (corporaref36_Divide.l0 k l0 l1 y408 ([] : List Int) (wrap64 ((l0.length : Int) - 1))) = some (r1, r2) := by first | (rw [hy408]; with_reducible exact H) | (have H2_ := (Option.bind_some _ _).symm.trans H; rw [hy408]; with_reducible exact H2_) | (have H2_ := (Option.bind_some _ _).symm.trans H; with_reducible exact H2_) | with_reducible exact H | (rw [hy408]; exact H) | exact H
   have Ny408 := Aside0.mk hy408
   clear hy408
   have H' := Aside0.mk H
   clear H
   go_enter Try.func103, Try.ntmps103
   go_wp2_with (first | ((with_reducible refine gate_dst (N := 14) rfl ?_); refine Kd.R_make (Kd.int .i64) _ 3 rfl (N := 14) rfl 22 _ _ rfl (l0.length : Int) rfl rfl Try.underlying22 (.int .i64 0) 8 info3 rfl (by decide) (by omega) 0 (ok := fun _ => True) (okp := fun _ => True) rfl (fun _ hk => hk) trivial (dt) (Nat.le_trans (Nat.mul_le_mul_right _ (dt : (l0.length : Int).toNat ≤ 35184372088832)) (by omega)) (Below.refl _ _) (Nat.le_refl _) ?_; intro v409 w5 ho6 hb hg_ hnew_; clear hg_ hnew_; (first | rw [← Ny408.out] at ho6 | (simp only [Int.reduceToNat] at ho6; rw [← Ny408.out] at ho6)); have HO410 := Aside0.mk (Kd.R_lower (Kd.R_newM (M := fun k_ => (w.heap.size ≤ k_)) ho6 (below_size (by first | exact bl HB | exact HB.out)) (fun k_ h_ => h_)) (below_size (by first | exact bl HB | exact HB.out))); replace HB := hs HB hb; clear hb ho6))
   go_loopg [7, 8] k (fun kq v7 v8 w' => ∃ (x6_1 : List Int) (x7_1 : List Int) (x8_1 : Int), v8 = .int .i64 x8_1 ∧ Aside0 (corporaref36_Divide.l0 kq l0 l1 x6_1 x7_1 x8_1 = some (r1, r2)) ∧ Aside0 (kq ≤ k) ∧ Aside0 (Kd.R (Kd.int .i64) 3 w' w.heap.size (fun k_ => (w.heap.size ≤ k_)) v409 x6_1) ∧ Aside0 (Kd.V (Kd.int .i64) 3 w' w.heap.size (fun k_ => (w.heap.size ≤ k_) ∧ some k_ ≠ (v409 : Value).ownBlock) v7 x7_1) ∧ Aside0 (Below w.heap.size w w'))
   case atStart => exact ⟨(y408), (([] : List Int)), (wrap64 ((l0.length : Int) - 1)), sv, H', ⟨Nat.le_refl _⟩, ⟨by (with_reducible repeat (first | apply Kd.R_alloc | apply Kd.R_drewN | apply Kd.R_drew)); exact Kd.R_mono HO410.out (fun _ hk => hk.1)⟩, ⟨Kd.V_nil _ _ _ _ _⟩, ⟨by first | exact bl HB | exact HB.out⟩⟩
   case round =>
    clear H'
    try clear c1
    try clear c3b0
    try clear c3b1
    try clear c4b0
    try clear c4b1
    obtain ⟨x6_1, x7_1, x8_1, rfl, HA, HK1, HO_6, HO_7, HB⟩ := hrel
    cases gk with
    | zero => exact absurd HA.out (by simp [corporaref36_Divide.l0])
    | succ k1 =>
     have H := HA.out
     clear HA
     simp only [corporaref36_Divide.l0] at H
     by_cases c7 : x8_1 ≥ 0
     ·rw [if_pos c7] at H
      have c7b0 : decide (0 ≤ x8_1) = true := decide_eq_true c7
      clear c7
      by_cases c8 : 0 ≤ x8_1
      ·rw [if_pos c8] at H
       have c8b0 : decide (0 ≤ x8_1) = true := decide_eq_true c8
       clear c8
       by_cases c9 : x8_1 < (l0.length : Int)
       ·rw [if_pos c9] at H
        have c9b0 : decide (x8_1 < (l0.length : Int)) = true := decide_eq_true c9
        clear c9
        obtain ⟨y415, hy415⟩ : ∃ y_ : List Int, y_ = (([rd l0 x8_1] : List Int)) := ⟨_, rfl⟩
        replace H : (if y415.length + x7_1.length < 17592186044416 then ((corporaref36_trim.f k1 (y415 ++ x7_1)).bind fun t421 => (corporaref36_Divide.l1 k1 l0 l1 x6_1 t421 x8_1 0 10000)) else (none)) = some (r1, r2) := by first | (rw [hy415]; with_reducible exact H) | (have H2_ := (Option.bind_some _ _).symm.trans H; rw [hy415]; with_reducible exact H2_) | (have H2_ := (Option.bind_some _ _).symm.trans H; with_reducible exact H2_) | with_reducible exact H | (rw [hy415]; exact H) | exact H
        have Ny415 := Aside0.mk hy415
        clear hy415
        by_cases c10 : y415.length + x7_1.length < 17592186044416
        ·rw [if_pos c10] at H
         have LMc10 := Aside0.mk c10
         clear c10
         obtain ⟨y418, hy418⟩ : ∃ y_ : List Int, y_ = (y415 ++ x7_1) := ⟨_, rfl⟩
         replace H : ((corporaref36_trim.f k1 y418).bind fun t421 => (corporaref36_Divide.l1 k1 l0 l1 x6_1 t421 x8_1 0 10000)) = some (r1, r2) := by first | (rw [hy418]; with_reducible exact H) | (have H2_ := (Option.bind_some _ _).symm.trans H; rw [hy418]; with_reducible exact H2_) | (have H2_ := (Option.bind_some _ _).symm.trans H; with_reducible exact H2_) | with_reducible exact H | (rw [hy418]; exact H) | exact H
         have Ny418 := Aside0.mk hy418
         clear hy418
         replace H := Option.bind_eq_some_iff.mp H
         obtain ⟨t421, A110, H⟩ := H
         replace H : (corporaref36_Divide.l1 k1 l0 l1 x6_1 t421 x8_1 0 10000) = some (r1, r2) := H
         have A11 := Aside0.mk A110
         clear A110
         have H' := Aside0.mk H
         clear H
         have p414 : 0 ≤ (x8_1 : Int) := dt
         have q414 : x8_1 < (l0.length : Int) := dt
         obtain ⟨ad414, e414, hx414_0⟩ := Kd.at_int HR0.out x8_1 p414 q414
         cases e414
         replace hx414_0 := (HB.out.cell (World.block_lt_of_cell? w _ hx414_0)).trans hx414_0
         replace p414 := eq_true p414
         replace q414 := eq_true q414
         go_wp2_with (first | ((with_reducible refine gate_dst (N := 26) rfl ?_); refine Kd.R_lit (Kd.int .i64) _ 3 ?hg (N := 26) ?hd (xs := ([rd l0 x8_1] : List Int)) (inner := [.int .i64 (rd l0 x8_1)]) (ok := fun _ => True) (okp := fun _ => True) ?hr ?hp (fun _ hk => hk) trivial (Below.refl _ _) (Nat.le_refl _) (by simp) ?_; (case hd => rfl); (case hg => rfl); (case hr => first | (go_simp; done) | (go_simp; rfl)); (case hp => exact (Reps.one (show Kd.M (Kd.int .i64) _ _ _ (rd l0 x8_1) [.int .i64 (rd l0 x8_1)] from rfl) (Reps.none _ _))); intro v416 w12 ho13 hb hg_ hnew_; clear hg_ hnew_; (first | rw [← Ny415.out] at ho13 | (simp only [Int.reduceToNat] at ho13; rw [← Ny415.out] at ho13)); replace HO_7 := Aside0.mk (Kd.V_elder' (vl HO_7) (Kd.R_base ho13) hb); have HO417 := Aside0.mk (Kd.R_lower (Kd.R_new' (Kd.R_newM (M := fun k_ => (w.heap.size ≤ k_)) ho13 (below_size (by first | exact bl HB | exact HB.out)) (fun k_ h_ => h_)) (Kd.R_lt (rl HO_6))) (below_size (by first | exact bl HB | exact HB.out))); replace HO_6 := Aside0.mk (Kd.R_elder' (rl HO_6) (Kd.R_base ho13) hb); replace HB := hs HB hb; clear hb ho13; obtain ⟨Ao15, co15, eo15⟩ := Kd.V_slice HO_7.out; subst eo15) | ((with_reducible refine gate_builtin (b := .append) (xs := #[.tmp 26, .tmp 27]) rfl ?_); at_builtin; refine Kd.R_append_rows (Kd.int .i64) (w0 := w) w.heap.size rfl (.tmp 26) (.tmp 27) 22 3 (.int .i64 0) 8 rfl Try.underlying22 info3 rfl (by decide) (by omega) v416 y415 x7_1 _ _ _ (fun k_ => (w.heap.size ≤ k_) ∧ some k_ ≠ (v409 : Value).ownBlock) (fun _ => False) rfl rfl ?aO ?aR (fun _ _ h => h) (fun _ h => h.elim) ?aF ?aB ?aS ?aL ?_; (case aR => exact cl ((Kd.V_reads' HO_7.out).2.2)); (case aB => exact (by first | exact bl HB | exact HB.out)); (case aF => exact (fun k_ hk => ⟨(Nat.le_trans (below_size (by first | exact bl HB | exact HB.out)) hk), Kd.fresh' (Kd.R_lt (rl HO_6)) k_ hk⟩)); (case aO => exact (by (with_reducible repeat (first | apply Kd.R_alloc | apply Kd.R_drewN | apply Kd.R_drew)); exact Kd.R_mono HO417.out (fun _ hk => ⟨hk.1.1, hk.2⟩))); (case aS => exact (below_size (by first | exact bl HB | exact HB.out))); (case aL => have := LMc10.out; omega); intro v419 w14 ho hb hg hat; rw [← Ny418.out] at ho; have n0_ := Aside0.mk (Kd.R_after (ok := (fun k_ => (w.heap.size ≤ k_))) (rl HO_6) hg hat); have n1_ := Aside0.mk (Kd.V_afterv (ok := (fun k_ => (w.heap.size ≤ k_) ∧ some k_ ≠ (v409 : Value).ownBlock)) (vl HO_7) hg hat); have n2_ := Aside0.mk (hb); have n3_ := Aside0.mk (ho); clear HO_6; clear HO_7; clear HB; clear HO417; have HO_6 := n0_; have HO_7 := n1_; have HB := n2_; have HO420 := n3_; clear n0_ n1_ n2_ n3_; clear ho hb hg hat; obtain ⟨Ao16, co16, eo16⟩ := Kd.R_slice HO420.out; subst eo16) | ((with_reducible refine gate_callee (f := 125) rfl ?_); refine goesL_ (some 29) rfl rfl Try.func125 (by kernel_rfl) rfl #[.slice Ao16 y418.length co16] rfl ga ?_; (with_reducible refine (corporaref36_trim.calls k1 (fun k_ => some k_ = (.slice Ao16 y418.length co16 : Value).ownBlock) _ _ y418 t421 _ ?side1 A11.out).mono ?_); (case side1 => exact Kd.R_V (Kd.R_tight rfl (HO420.out))); rintro e w17 ⟨v422, rfl, ho0, hb⟩; refine ⟨_, rfl, ?_⟩; replace HO_7 := Aside0.mk (Kd.V_below (vl HO_7) hb); have HO423 := Aside0.mk (Kd.V_lower (Kd.V_mono (ok' := fun k_ => (w.heap.size ≤ k_) ∧ some k_ ≠ (v409 : Value).ownBlock) ho0 (fun k_ hk_ => ⟨Or.elim hk_ (fun hs_ => ((HO420.out).1 k_ hs_.symm).1) (fun hn_ => (Nat.le_trans (below_size (by first | exact bl HB | exact HB.out)) hn_)), Or.elim hk_ (fun hs_ => ((HO420.out).1 k_ hs_.symm).2) (fun hn_ => (Kd.fresh' (Kd.R_lt (rl HO_6)) k_ hn_))⟩)) (below_size (by first | exact bl HB | exact HB.out))); replace HO_6 := Aside0.mk (Kd.R_below (rl HO_6) hb); replace HO420 := Aside0.mk (Kd.R_below (rl HO420) hb); replace HB := hs HB hb; (try clear hb); (try clear ho0)))
         go_loopg [9, 10] k1 (fun kq v9 v10 w' => ∃ (x9_2 : Int) (x10_2 : Int), v9 = .int .i64 x9_2 ∧ v10 = .int .i64 x10_2 ∧ Aside0 (corporaref36_Divide.l1 kq l0 l1 x6_1 t421 x8_1 x9_2 x10_2 = some (r1, r2)) ∧ Aside0 (kq ≤ k1) ∧ Aside0 (Kd.R (Kd.int .i64) 3 w' w.heap.size (fun k_ => (w.heap.size ≤ k_)) v409 x6_1) ∧ Aside0 (Kd.V (Kd.int .i64) 3 w' w.heap.size (fun k_ => (w.heap.size ≤ k_) ∧ some k_ ≠ (v409 : Value).ownBlock) v422 t421) ∧ Aside0 (Below w.heap.size w w'))
         case atStart => exact ⟨(0), (10000), sv, sv, H', ⟨Nat.le_refl _⟩, ⟨by (with_reducible repeat (first | apply Kd.R_alloc | apply Kd.R_drewN | apply Kd.R_drew)); exact Kd.R_mono HO_6.out (fun _ hk => hk.1)⟩, ⟨by exact vl HO423⟩, ⟨by first | exact bl HB | exact HB.out⟩⟩
         case round =>
          clear H'
          try clear c1
          try clear c3b0
          try clear c3b1
          try clear c4b0
          try clear c4b1
          try clear c7b0
          try clear c8b0
          try clear c9b0
          try clear hx414_0
          try clear p414
          try clear q414
          obtain ⟨x9_2, x10_2, rfl, rfl, HA, HK2, HO_6, HO_7, HB⟩ := hrel
          cases gk with
          | zero => exact absurd HA.out (by simp [corporaref36_Divide.l1])
          | succ k2 =>
           have H := HA.out
           clear HA
           simp only [corporaref36_Divide.l1] at H
           by_cases c18 : (wrap64 (x10_2 - x9_2)) > 1
           ·rw [if_pos c18] at H
            have c18b0 : decide (1 < (wrap64 (x10_2 - x9_2))) = true := decide_eq_true c18
            clear c18
            replace H := Option.bind_eq_some_iff.mp H
            obtain ⟨t434, A190, H⟩ := H
            replace H : Option.bind (corporaref36_Times.f k2 l1 t434) _ = _ := H
            have A19 := Aside0.mk A190
            clear A190
            replace H := Option.bind_eq_some_iff.mp H
            obtain ⟨t437, A200, H⟩ := H
            replace H : Option.bind (corporaref36_Less.f k2 t437 t421) _ = _ := H
            have A20 := Aside0.mk A200
            clear A200
            replace H := Option.bind_eq_some_iff.mp H
            obtain ⟨t440, A210, H⟩ := H
            replace H : (if t440 ≤ 0 then _ else _) = _ := H
            have A21 := Aside0.mk A210
            clear A210
            by_cases c22 : t440 ≤ 0
            ·rw [if_pos c22] at H
             have c22b0 : decide (t440 ≤ 0) = true := decide_eq_true c22
             clear c22
             have H' := Aside0.mk H
             clear H
             go_wp2_with (first | ((with_reducible refine gate_callee (f := 112) rfl ?_); refine goesL_ (some 41) rfl rfl Try.func112 (by kernel_rfl) rfl #[.int .u64 (IntKind.u64.wrap (wrap64 (Int.tdiv (wrap64 (x9_2 + x10_2)) 2)))] rfl ga ?_; (with_reducible refine (corporaref36_Of64.calls k2 (IntKind.u64.wrap (wrap64 (Int.tdiv (wrap64 (x9_2 + x10_2)) 2))) t434 _ A19.out).mono ?_); rintro e w23 ⟨v435, rfl, ho0, hb⟩; refine ⟨_, rfl, ?_⟩; replace HO_7 := Aside0.mk (Kd.V_elder' (vl HO_7) (Kd.R_base ho0) hb); have HO436 := Aside0.mk (Kd.R_lower (Kd.R_new' (Kd.R_newM (M := fun k_ => (w.heap.size ≤ k_)) ho0 (below_size (by first | exact bl HB | exact HB.out)) (fun k_ h_ => h_)) (Kd.R_lt (rl HO_6))) (below_size (by first | exact bl HB | exact HB.out))); replace HO_6 := Aside0.mk (Kd.R_elder' (rl HO_6) (Kd.R_base ho0) hb); replace HB := hs HB hb; (try clear hb); (try clear ho0); obtain ⟨Ao24, co24, eo24⟩ := Kd.R_slice HO436.out; subst eo24) | ((with_reducible refine gate_callee (f := 89) rfl ?_); refine goesL_ (some 42) rfl rfl Try.func89 (by kernel_rfl) rfl #[.slice A1 l1.length c1, .slice Ao24 t434.length co24] rfl ga ?_; (with_reducible refine (corporaref36_Times.calls k2 _ _ l1 _ _ t434 t437 _ ?side1 ?side2 ?side3 ?side4 A20.out).mono ?_); (case side1 => exact cl ((Kd.C_below HR1.out HB.out))); (case side2 => exact HC1.out); (case side3 => exact cl ((Kd.R_reads' HO436.out).2.2)); (case side4 => exact (Kd.R_reads' HO436.out).2.1); rintro e w25 ⟨v438, rfl, ho0, hb⟩; refine ⟨_, rfl, ?_⟩; replace HO_7 := Aside0.mk (Kd.V_below (vl HO_7) hb); have HO439 := Aside0.mk (Kd.V_lower (Kd.V_mono (ok' := fun k_ => (w.heap.size ≤ k_) ∧ some k_ ≠ (v409 : Value).ownBlock ∧ some k_ ≠ (.slice Ao24 t434.length co24 : Value).ownBlock) ho0 (fun k_ hk_ => ⟨(Nat.le_trans (below_size (by first | exact bl HB | exact HB.out)) hk_), (Kd.fresh' (Kd.R_lt (rl HO_6)) k_ hk_), (Kd.fresh' (Kd.R_lt (rl HO436)) k_ hk_)⟩)) (below_size (by first | exact bl HB | exact HB.out))); replace HO_6 := Aside0.mk (Kd.R_below (rl HO_6) hb); replace HO436 := Aside0.mk (Kd.R_below (rl HO436) hb); replace HB := hs HB hb; (try clear hb); (try clear ho0); obtain ⟨Ao26, co26, eo26⟩ := Kd.V_slice HO439.out; subst eo26; obtain ⟨Ao27, co27, eo27⟩ := Kd.V_slice HO_7.out; subst eo27) | ((with_reducible refine gate_callee (f := 101) rfl ?_); refine goesL_ (some 44) rfl rfl Try.func101 (by kernel_rfl) rfl #[.slice Ao26 t437.length co26, .slice Ao27 t421.length co27] rfl ga ?_; (with_reducible refine (corporaref36_Less.calls k2 _ _ t437 _ _ t421 t440 _ ?side1 ?side2 ?side3 ?side4 A21.out).mono ?_); (case side1 => exact cl ((Kd.V_reads' HO439.out).2.2)); (case side2 => exact (Kd.V_reads' HO439.out).2.1); (case side3 => exact cl ((Kd.V_reads' HO_7.out).2.2)); (case side4 => exact (Kd.V_reads' HO_7.out).2.1); rintro e w' ⟨rfl, ⟨nd, rfl⟩⟩; refine ⟨_, rfl, ?_⟩))
             go_roundg k2
             case measure => have := HK1.out; have := HK2.out; omega
             case rel => exact ⟨(wrap64 (Int.tdiv (wrap64 (x9_2 + x10_2)) 2)), (x10_2), sv, sv, H', ⟨by have := HK1.out; have := HK2.out; omega⟩, ⟨by (with_reducible repeat (first | apply Kd.R_alloc | apply Kd.R_drewN | apply Kd.R_drew)); exact Kd.R_mono HO_6.out (fun _ hk => hk.1)⟩, ⟨by (with_reducible repeat (first | apply Kd.V_alloc | apply Kd.V_drewN | apply Kd.V_drew)); exact Kd.V_mono HO_7.out (fun _ hk => ⟨hk.1.1, hk.1.2⟩)⟩, ⟨by first | exact bl HB | exact HB.out⟩⟩
            ·rw [if_neg c22] at H
             have c22b0 : decide (t440 ≤ 0) = false := decide_eq_false c22
             clear c22
             have H' := Aside0.mk H
             clear H
             go_wp2_with (first | ((with_reducible refine gate_callee (f := 112) rfl ?_); refine goesL_ (some 41) rfl rfl Try.func112 (by kernel_rfl) rfl #[.int .u64 (IntKind.u64.wrap (wrap64 (Int.tdiv (wrap64 (x9_2 + x10_2)) 2)))] rfl ga ?_; (with_reducible refine (corporaref36_Of64.calls k2 (IntKind.u64.wrap (wrap64 (Int.tdiv (wrap64 (x9_2 + x10_2)) 2))) t434 _ A19.out).mono ?_); rintro e w28 ⟨v435, rfl, ho0, hb⟩; refine ⟨_, rfl, ?_⟩; replace HO_7 := Aside0.mk (Kd.V_elder' (vl HO_7) (Kd.R_base ho0) hb); have HO436 := Aside0.mk (Kd.R_lower (Kd.R_new' (Kd.R_newM (M := fun k_ => (w.heap.size ≤ k_)) ho0 (below_size (by first | exact bl HB | exact HB.out)) (fun k_ h_ => h_)) (Kd.R_lt (rl HO_6))) (below_size (by first | exact bl HB | exact HB.out))); replace HO_6 := Aside0.mk (Kd.R_elder' (rl HO_6) (Kd.R_base ho0) hb); replace HB := hs HB hb; (try clear hb); (try clear ho0); obtain ⟨Ao29, co29, eo29⟩ := Kd.R_slice HO436.out; subst eo29) | ((with_reducible refine gate_callee (f := 89) rfl ?_); refine goesL_ (some 42) rfl rfl Try.func89 (by kernel_rfl) rfl #[.slice A1 l1.length c1, .slice Ao29 t434.length co29] rfl ga ?_; (with_reducible refine (corporaref36_Times.calls k2 _ _ l1 _ _ t434 t437 _ ?side1 ?side2 ?side3 ?side4 A20.out).mono ?_); (case side1 => exact cl ((Kd.C_below HR1.out HB.out))); (case side2 => exact HC1.out); (case side3 => exact cl ((Kd.R_reads' HO436.out).2.2)); (case side4 => exact (Kd.R_reads' HO436.out).2.1); rintro e w30 ⟨v438, rfl, ho0, hb⟩; refine ⟨_, rfl, ?_⟩; replace HO_7 := Aside0.mk (Kd.V_below (vl HO_7) hb); have HO439 := Aside0.mk (Kd.V_lower (Kd.V_mono (ok' := fun k_ => (w.heap.size ≤ k_) ∧ some k_ ≠ (v409 : Value).ownBlock ∧ some k_ ≠ (.slice Ao29 t434.length co29 : Value).ownBlock) ho0 (fun k_ hk_ => ⟨(Nat.le_trans (below_size (by first | exact bl HB | exact HB.out)) hk_), (Kd.fresh' (Kd.R_lt (rl HO_6)) k_ hk_), (Kd.fresh' (Kd.R_lt (rl HO436)) k_ hk_)⟩)) (below_size (by first | exact bl HB | exact HB.out))); replace HO_6 := Aside0.mk (Kd.R_below (rl HO_6) hb); replace HO436 := Aside0.mk (Kd.R_below (rl HO436) hb); replace HB := hs HB hb; (try clear hb); (try clear ho0); obtain ⟨Ao31, co31, eo31⟩ := Kd.V_slice HO439.out; subst eo31; obtain ⟨Ao32, co32, eo32⟩ := Kd.V_slice HO_7.out; subst eo32) | ((with_reducible refine gate_callee (f := 101) rfl ?_); refine goesL_ (some 44) rfl rfl Try.func101 (by kernel_rfl) rfl #[.slice Ao31 t437.length co31, .slice Ao32 t421.length co32] rfl ga ?_; (with_reducible refine (corporaref36_Less.calls k2 _ _ t437 _ _ t421 t440 _ ?side1 ?side2 ?side3 ?side4 A21.out).mono ?_); (case side1 => exact cl ((Kd.V_reads' HO439.out).2.2)); (case side2 => exact (Kd.V_reads' HO439.out).2.1); (case side3 => exact cl ((Kd.V_reads' HO_7.out).2.2)); (case side4 => exact (Kd.V_reads' HO_7.out).2.1); rintro e w' ⟨rfl, ⟨nd, rfl⟩⟩; refine ⟨_, rfl, ?_⟩))
             go_roundg k2
             case measure => have := HK1.out; have := HK2.out; omega
             case rel => exact ⟨(x9_2), (wrap64 (Int.tdiv (wrap64 (x9_2 + x10_2)) 2)), sv, sv, H', ⟨by have := HK1.out; have := HK2.out; omega⟩, ⟨by (with_reducible repeat (first | apply Kd.R_alloc | apply Kd.R_drewN | apply Kd.R_drew)); exact Kd.R_mono HO_6.out (fun _ hk => hk.1)⟩, ⟨by (with_reducible repeat (first | apply Kd.V_alloc | apply Kd.V_drewN | apply Kd.V_drew)); exact Kd.V_mono HO_7.out (fun _ hk => ⟨hk.1.1, hk.1.2⟩)⟩, ⟨by first | exact bl HB | exact HB.out⟩⟩
           ·rw [if_neg c18] at H
            have c18b0 : decide (1 < (wrap64 (x10_2 - x9_2))) = false := decide_eq_false c18
            clear c18
            by_cases c33 : 0 ≤ x8_1
            ·rw [if_pos c33] at H
             have c33b0 : decide (0 ≤ x8_1) = true := decide_eq_true c33
             clear c33
             by_cases c34 : x8_1 < (x6_1.length : Int)
             ·rw [if_pos c34] at H
              have c34b0 : decide (x8_1 < (x6_1.length : Int)) = true := decide_eq_true c34
              clear c34
              obtain ⟨y424, hy424⟩ : ∃ y_ : List Int, y_ = (x6_1.set (x8_1 : Int).toNat x9_2) := ⟨_, rfl⟩
              replace H : ((corporaref36_Of64.f k2 (IntKind.u64.wrap (x9_2))).bind fun t425 => ((corporaref36_Times.f k2 l1 t425).bind fun t428 => ((corporaref36_Minus.f k2 t421 t428).bind fun t431 => (corporaref36_Divide.l0 k2 l0 l1 y424 t431 (wrap64 (x8_1 - 1)))))) = some (r1, r2) := by first | (rw [hy424]; with_reducible exact H) | (have H2_ := (Option.bind_some _ _).symm.trans H; rw [hy424]; with_reducible exact H2_) | (have H2_ := (Option.bind_some _ _).symm.trans H; with_reducible exact H2_) | with_reducible exact H | (rw [hy424]; exact H) | exact H
              have Ny424 := Aside0.mk hy424
              clear hy424
              replace H := Option.bind_eq_some_iff.mp H
              obtain ⟨t425, A360, H⟩ := H
              replace H : Option.bind (corporaref36_Times.f k2 l1 t425) _ = _ := H
              have A36 := Aside0.mk A360
              clear A360
              replace H := Option.bind_eq_some_iff.mp H
              obtain ⟨t428, A370, H⟩ := H
              replace H : Option.bind (corporaref36_Minus.f k2 t421 t428) _ = _ := H
              have A37 := Aside0.mk A370
              clear A370
              replace H := Option.bind_eq_some_iff.mp H
              obtain ⟨t431, A380, H⟩ := H
              replace H : (corporaref36_Divide.l0 k2 l0 l1 y424 t431 (wrap64 (x8_1 - 1))) = some (r1, r2) := H
              have A38 := Aside0.mk A380
              clear A380
              have H' := Aside0.mk H
              clear H
              have p35 : 0 ≤ (x8_1 : Int) := dt
              have q35 : (x8_1 : Int) < ((x6_1.length : Int) : Int) := dt
              obtain ⟨go35, co35, eo35, gb35, gl35, cl35, HG35⟩ := Kd.R_form HO_6.out (by omega)
              (first | cases eo35 | (injection eo35 with ea_ en_ ec_; (first | subst ea_ | (injection ea_ with ea_; subst ea_)); subst ec_; clear en_))
              have GB35 := Aside0.mk gb35
              have GG35 := Aside0.mk HG35
              clear gb35 gl35 HG35
              obtain ⟨hx35_0, hf35_0⟩ := Kd.R_celln 0 HO_6.out (x8_1 : Int) p35 q35
              replace p35 := eq_true p35
              replace q35 := eq_true q35
              have HP39 := Kd.R_putg HO_6.out (x8_1 : Int) x9_2
              go_wp2_with (first | ((with_reducible refine gate_store (t := 3) (p := 51) rfl ?_); refine store_event (t := 3) (p := 51) (v := ?vo_w40) (w1 := (wr.setCell ⟨go35, (x8_1 : Int).toNat, none⟩ (.int .i64 x9_2))) ?hg ?ho ?hn ?hr ?_; (case ho => rfl); (case hg => rfl); (case hn => rfl); (case hr => first | (go_simp; done) | (go_simp; rfl)); intro w40 hw; have hg : wr.grownBy w40 (some go35) := (by rw [hw]; exact HP39.2); have hp_ : Kd.R (Kd.int .i64) 3 w40 w.heap.size (fun k_ => (w.heap.size ≤ k_)) (.slice (some ⟨go35, 0, none⟩) x6_1.length co35) y424 := (by rw [hw, Ny424.out]; exact HP39.1); clear HP39; replace HO_6 := Aside0.mk (hp_); replace HO_7 := Aside0.mk (Kd.V_afterv (v := (.slice (some ⟨go35, 0, none⟩) x6_1.length co35)) (v1 := (.slice (some ⟨go35, 0, none⟩) x6_1.length co35)) (ok := (fun k_ => (w.heap.size ≤ k_))) (vl HO_7) hg (.inl rfl)); replace HB := Aside0.mk ((by rw [hw]; exact below_set (HB.out) GB35.out : Below w.heap.size w w40)); clear hg hw hp_) | ((with_reducible refine gate_callee (f := 112) rfl ?_); refine goesL_ (some 56) rfl rfl Try.func112 (by kernel_rfl) rfl #[.int .u64 (IntKind.u64.wrap (x9_2))] rfl ga ?_; (with_reducible refine (corporaref36_Of64.calls k2 (IntKind.u64.wrap (x9_2)) t425 _ A36.out).mono ?_); rintro e w41 ⟨v426, rfl, ho0, hb⟩; refine ⟨_, rfl, ?_⟩; replace HO_7 := Aside0.mk (Kd.V_elder' (vl HO_7) (Kd.R_base ho0) hb); have HO427 := Aside0.mk (Kd.R_lower (Kd.R_new' (Kd.R_newM (M := fun k_ => (w.heap.size ≤ k_)) ho0 (below_size (by first | exact bl HB | exact HB.out)) (fun k_ h_ => h_)) (Kd.R_lt (rl HO_6))) (below_size (by first | exact bl HB | exact HB.out))); replace HO_6 := Aside0.mk (Kd.R_elder' (rl HO_6) (Kd.R_base ho0) hb); replace HB := hs HB hb; (try clear hb); (try clear ho0); obtain ⟨Ao42, co42, eo42⟩ := Kd.R_slice HO427.out; subst eo42) | ((with_reducible refine gate_callee (f := 89) rfl ?_); refine goesL_ (some 57) rfl rfl Try.func89 (by kernel_rfl) rfl #[.slice A1 l1.length c1, .slice Ao42 t425.length co42] rfl ga ?_; (with_reducible refine (corporaref36_Times.calls k2 _ _ l1 _ _ t425 t428 _ ?side1 ?side2 ?side3 ?side4 A37.out).mono ?_); (case side1 => exact cl ((Kd.C_below HR1.out HB.out))); (case side2 => exact HC1.out); (case side3 => exact cl ((Kd.R_reads' HO427.out).2.2)); (case side4 => exact (Kd.R_reads' HO427.out).2.1); rintro e w43 ⟨v429, rfl, ho0, hb⟩; refine ⟨_, rfl, ?_⟩; replace HO_7 := Aside0.mk (Kd.V_below (vl HO_7) hb); have HO430 := Aside0.mk (Kd.V_lower (Kd.V_mono (ok' := fun k_ => (w.heap.size ≤ k_) ∧ some k_ ≠ (.slice (some ⟨go35, 0, none⟩) x6_1.length co35 : Value).ownBlock ∧ some k_ ≠ (.slice Ao42 t425.length co42 : Value).ownBlock) ho0 (fun k_ hk_ => ⟨(Nat.le_trans (below_size (by first | exact bl HB | exact HB.out)) hk_), (Kd.fresh' (Kd.R_lt (rl HO_6)) k_ hk_), (Kd.fresh' (Kd.R_lt (rl HO427)) k_ hk_)⟩)) (below_size (by first | exact bl HB | exact HB.out))); replace HO_6 := Aside0.mk (Kd.R_below (rl HO_6) hb); replace HO427 := Aside0.mk (Kd.R_below (rl HO427) hb); replace HB := hs HB hb; (try clear hb); (try clear ho0); obtain ⟨Ao44, co44, eo44⟩ := Kd.V_slice HO_7.out; subst eo44; obtain ⟨Ao45, co45, eo45⟩ := Kd.V_slice HO430.out; subst eo45) | ((with_reducible refine gate_callee (f := 102) rfl ?_); refine goesL_ (some 58) rfl rfl Try.func102 (by kernel_rfl) rfl #[.slice Ao44 t421.length co44, .slice Ao45 t428.length co45] rfl ga ?_; (with_reducible refine (corporaref36_Minus.calls k2 _ _ t421 _ _ t428 t431 _ ?side1 ?side2 ?side3 ?side4 A38.out).mono ?_); (case side1 => exact cl ((Kd.V_reads' HO_7.out).2.2)); (case side2 => exact (Kd.V_reads' HO_7.out).2.1); (case side3 => exact cl ((Kd.V_reads' HO430.out).2.2)); (case side4 => exact (Kd.V_reads' HO430.out).2.1); rintro e w46 ⟨v432, rfl, ho0, hb⟩; refine ⟨_, rfl, ?_⟩; replace HO_7 := Aside0.mk (Kd.V_below (vl HO_7) hb); replace HO430 := Aside0.mk (Kd.V_below (vl HO430) hb); have HO433 := Aside0.mk (Kd.V_lower (Kd.V_mono (ok' := fun k_ => (w.heap.size ≤ k_) ∧ some k_ ≠ (.slice (some ⟨go35, 0, none⟩) x6_1.length co35 : Value).ownBlock ∧ some k_ ≠ (.slice Ao42 t425.length co42 : Value).ownBlock) ho0 (fun k_ hk_ => ⟨(Nat.le_trans (below_size (by first | exact bl HB | exact HB.out)) hk_), (Kd.fresh' (Kd.R_lt (rl HO_6)) k_ hk_), (Kd.fresh' (Kd.R_lt (rl HO427)) k_ hk_)⟩)) (below_size (by first | exact bl HB | exact HB.out))); replace HO_6 := Aside0.mk (Kd.R_below (rl HO_6) hb); replace HO427 := Aside0.mk (Kd.R_below (rl HO427) hb); replace HB := hs HB hb; (try clear hb); (try clear ho0)))
              go_roundg k2
              case measure => have := HK1.out; have := HK2.out; omega
              case rel => exact ⟨(y424), (t431), (wrap64 (x8_1 - 1)), sv, H', ⟨by have := HK1.out; have := HK2.out; omega⟩, ⟨by (with_reducible repeat (first | apply Kd.R_alloc | apply Kd.R_drewN | apply Kd.R_drew)); exact Kd.R_mono HO_6.out (fun _ hk => hk.1)⟩, ⟨by (with_reducible repeat (first | apply Kd.V_alloc | apply Kd.V_drewN | apply Kd.V_drew)); exact Kd.V_mono HO433.out (fun _ hk => ⟨hk.1, hk.2.1⟩)⟩, ⟨by first | exact bl HB | exact HB.out⟩⟩
             ·rw [if_neg c34] at H
              exact absurd H (by simp)
            ·rw [if_neg c33] at H
             exact absurd H (by simp)
        ·rw [if_neg c10] at H
         exact absurd H (by simp)
       ·rw [if_neg c9] at H
        exact absurd H (by simp)
      ·rw [if_neg c8] at H
       exact absurd H (by simp)
     ·rw [if_neg c7] at H
      have c7b0 : decide (0 ≤ x8_1) = false := decide_eq_false c7
      clear c7
      replace H := Option.bind_eq_some_iff.mp H
      obtain ⟨t411, A470, H⟩ := H
      replace H : (some (t411, x7_1)) = some (r1, r2) := H
      have A47 := Aside0.mk A470
      clear A470
      simp only [Option.some.injEq, Prod.mk.injEq] at H
      obtain ⟨rfl, rfl⟩ := H
      obtain ⟨Ao48, co48, eo48⟩ := Kd.R_slice HO_6.out
      subst eo48
      go_wp2_with (first | ((with_reducible refine gate_callee (f := 125) rfl ?_); refine goesL_ (some 60) rfl rfl Try.func125 (by kernel_rfl) rfl #[.slice Ao48 x6_1.length co48] rfl ga ?_; (with_reducible refine (corporaref36_trim.calls k1 (fun k_ => some k_ = (.slice Ao48 x6_1.length co48 : Value).ownBlock) _ _ x6_1 t411 _ ?side1 A47.out).mono ?_); (case side1 => exact Kd.R_V (Kd.R_tight rfl (HO_6.out))); rintro e w49 ⟨v412, rfl, ho0, hb⟩; refine ⟨_, rfl, ?_⟩; replace HO_7 := Aside0.mk (Kd.V_below (vl HO_7) hb); have HO413 := Aside0.mk (Kd.V_lower (Kd.V_mono (ok' := fun k_ => (w.heap.size ≤ k_)) ho0 (fun k_ hk_ => Or.elim hk_ (fun hs_ => ((HO_6.out).1 k_ hs_.symm)) (fun hn_ => (Nat.le_trans (below_size (by first | exact bl HB | exact HB.out)) hn_)))) (below_size (by first | exact bl HB | exact HB.out))); replace HO_6 := Aside0.mk (Kd.R_below (rl HO_6) hb); replace HB := hs HB hb; (try clear hb); (try clear ho0)))
      go_ret2
      exact ⟨_, _, er, by (with_reducible repeat (first | apply Kd.V_alloc | apply Kd.V_drewN | apply Kd.V_drew)); exact HO413.out, by (with_reducible repeat (first | apply Kd.V_alloc | apply Kd.V_drewN | apply Kd.V_drew)); exact Kd.V_mono HO_7.out (fun _ hk => hk.1), by first | exact bl HB | exact HB.out⟩
  ·rw [if_neg c4] at H
   exact absurd H (by simp)
 ·rw [if_neg c3] at H
  exact absurd H (by simp)
set_option maxHeartbeats 8000000 in
set_option maxRecDepth 100000 in
theorem corporaref36_Gcd.calls (k : Nat) (P0_ : Nat → Prop) (A0 : Option Addr) (c0 : Nat) (l0 : List Int) (P1_ : Nat → Prop) (A1 : Option Addr) (c1 : Nat) (l1 : List Int) (r : List Int) (w : World) (hs0 : Kd.V (Kd.int .i64) 3 w w.heap.size (fun k_ => P0_ k_) (.slice A0 l0.length c0) l0) (hs1 : Kd.V (Kd.int .i64) 3 w w.heap.size (fun k_ => P1_ k_) (.slice A1 l1.length c1) l1) (h : corporaref36_Gcd.f k l0 l1 = some r) :
  Calls Try.prog 104 #[.slice A0 l0.length c0, .slice A1 l1.length c1] w fun e w' => ∃ v0_ : Value, e = .returned (v0_) ∧ Kd.V (Kd.int .i64) 3 w' w.heap.size (fun k_ => ((P0_ k_ ∨ P1_ k_) ∨ w.heap.size ≤ k_)) v0_ r ∧ Below w.heap.size w w' := by
 have HO0 := Aside0.mk (show Kd.V (Kd.int .i64) 3 w w.heap.size (fun k_ => ((P0_ k_ ∨ P1_ k_) ∨ w.heap.size ≤ k_)) (.slice A0 l0.length c0) l0 from Kd.V_mono hs0 (fun k_ hk => .inl (.inl hk)))
 have HO1 := Aside0.mk (show Kd.V (Kd.int .i64) 3 w w.heap.size (fun k_ => ((P0_ k_ ∨ P1_ k_) ∨ w.heap.size ≤ k_)) (.slice A1 l1.length c1) l1 from Kd.V_mono hs1 (fun k_ hk => .inl (.inr hk)))
 have HB := Aside0.mk (Below.refl w.heap.size w)
 have H : (corporaref36_Gcd.l0 k l0 l1) = some r := h
 clear h
 have H' := Aside0.mk H
 clear H
 go_enter Try.func104, Try.ntmps104
 go_wp2
 go_loopg [0, 1] k (fun kq v0 v1 w' => ∃ (x0_1 : List Int) (x1_1 : List Int), Aside0 (corporaref36_Gcd.l0 kq x0_1 x1_1 = some r) ∧ Aside0 (kq ≤ k) ∧ Aside0 (Kd.V (Kd.int .i64) 3 w' w.heap.size (fun k_ => ((P0_ k_ ∨ P1_ k_) ∨ w.heap.size ≤ k_)) v0 x0_1) ∧ Aside0 (Kd.V (Kd.int .i64) 3 w' w.heap.size (fun k_ => ((P0_ k_ ∨ P1_ k_) ∨ w.heap.size ≤ k_)) v1 x1_1) ∧ Aside0 (Below w.heap.size w w'))
 case atStart => exact ⟨(l0), (l1), H', ⟨Nat.le_refl _⟩, ⟨by exact vl HO0⟩, ⟨by exact vl HO1⟩, ⟨by first | exact bl HB | exact HB.out⟩⟩
 case round =>
  clear H'
  try clear c1
  obtain ⟨x0_1, x1_1, HA, HK1, HO_0, HO_1, HB⟩ := hrel
  cases gk with
  | zero => exact absurd HA.out (by simp [corporaref36_Gcd.l0])
  | succ k1 =>
   have H := HA.out
   clear HA
   simp only [corporaref36_Gcd.l0] at H
   by_cases c3 : (x1_1.length : Int) > 0
   ·rw [if_pos c3] at H
    have c3b0 : decide (0 < (x1_1.length : Int)) = true := decide_eq_true c3
    have c3b1 : decide (0 < x1_1.length) = true := decide_eq_true (by omega)
    clear c3
    replace H := Option.bind_eq_some_iff.mp H
    obtain ⟨⟨t441, t444⟩, A40, H⟩ := H
    replace H : (corporaref36_Gcd.l0 k1 x1_1 t444) = some r := H
    have A4 := Aside0.mk A40
    clear A40
    have H' := Aside0.mk H
    clear H
    obtain ⟨Ao5, co5, eo5⟩ := Kd.V_slice HO_1.out
    subst eo5
    obtain ⟨Ao6, co6, eo6⟩ := Kd.V_slice HO_0.out
    subst eo6
    go_wp2_with (first | ((with_reducible refine gate_callee (f := 103) rfl ?_); refine goesL_ (some 13) rfl rfl Try.func103 (by kernel_rfl) rfl #[.slice Ao6 x0_1.length co6, .slice Ao5 x1_1.length co5] rfl ga ?_; (with_reducible refine (corporaref36_Divide.calls k1 _ _ x0_1 _ _ x1_1 t441 t444 _ ?side1 ?side2 ?side3 ?side4 A4.out).mono ?_); (case side1 => exact cl ((Kd.V_reads' HO_0.out).2.2)); (case side2 => exact (Kd.V_reads' HO_0.out).2.1); (case side3 => exact cl ((Kd.V_reads' HO_1.out).2.2)); (case side4 => exact (Kd.V_reads' HO_1.out).2.1); rintro e w7 ⟨v442, v445, rfl, ho0, ho1, hb⟩; refine ⟨_, rfl, ?_⟩; replace HO_0 := Aside0.mk (Kd.V_below (vl HO_0) hb); replace HO_1 := Aside0.mk (Kd.V_below (vl HO_1) hb); have HO443 := Aside0.mk (Kd.V_lower (Kd.V_mono (ok' := fun k_ => ((P0_ k_ ∨ P1_ k_) ∨ w.heap.size ≤ k_)) ho0 (fun k_ hk_ => (.inr (Nat.le_trans (below_size (by first | exact bl HB | exact HB.out)) hk_)))) (below_size (by first | exact bl HB | exact HB.out))); have HO446 := Aside0.mk (Kd.V_lower (Kd.V_mono (ok' := fun k_ => ((P0_ k_ ∨ P1_ k_) ∨ w.heap.size ≤ k_)) ho1 (fun k_ hk_ => (.inr (Nat.le_trans (below_size (by first | exact bl HB | exact HB.out)) hk_)))) (below_size (by first | exact bl HB | exact HB.out))); replace HB := hs HB hb; (try clear hb); (try clear ho0); (try clear ho1)))
    go_roundg k1
    case measure => have := HK1.out; omega
    case rel => exact ⟨(x1_1), (t444), H', ⟨by have := HK1.out; omega⟩, ⟨by exact vl HO_1⟩, ⟨by exact vl HO446⟩, ⟨by first | exact bl HB | exact HB.out⟩⟩
   ·rw [if_neg c3] at H
    have c3b0 : decide (0 < (x1_1.length : Int)) = false := decide_eq_false c3
    have c3b1 : decide (0 < x1_1.length) = false := decide_eq_false (by omega)
    clear c3
    obtain rfl := Option.some.inj H
    obtain ⟨Ao8, co8, eo8⟩ := Kd.V_slice HO_1.out
    subst eo8
    go_wp2
    go_ret
    exact ⟨_, er, by (with_reducible repeat (first | apply Kd.V_alloc | apply Kd.V_drewN | apply Kd.V_drew)); exact HO_0.out, by first | exact bl HB | exact HB.out⟩
end Go.Proofs.Ytccgfmjcldifcaa.P
