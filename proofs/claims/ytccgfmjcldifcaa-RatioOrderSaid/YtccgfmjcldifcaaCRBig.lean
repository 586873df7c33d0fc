/- Walks of Go functions: what they compute; each theorem's conditions stand in it. -/
import Derived.Test.YtccgfmjcldifcaaT
import Derived.Test.YtccgfmjcldifcaaDB
namespace Go.Proofs.Ytccgfmjcldifcaa.P
open Go.RowKit Go.Proofs.YtccgfmjcldifcaaW.PrintWords Go.Proofs.YtccgfmjcldifcaaW.PrintLast Go.Proofs.YtccgfmjcldifcaaW.PrintMore
attribute [local go_sem] max2_int min2_int max_two min_two max_three min_three max_four min_four
set_option linter.unusedVariables false
set_option linter.unusedSimpArgs false
set_option maxHeartbeats 8000000 in
set_option maxRecDepth 100000 in
theorem corporaref36_trim.calls (k : Nat) (P0_ : Nat → Prop) (A0 : Option Addr) (c0 : Nat) (l0 : List Int) (r : List Int) (w : World) (hs0 : Kd.V (Kd.int .i64) 3 w w.heap.size (fun k_ => P0_ k_) (.slice A0 l0.length c0) l0) (h : corporaref36_trim.f k l0 = some r) :
  Calls Try.prog 125 #[.slice A0 l0.length c0] w fun e w' => ∃ v0_ : Value, e = .returned (v0_) ∧ Kd.V (Kd.int .i64) 3 w' w.heap.size (fun k_ => (P0_ k_ ∨ w.heap.size ≤ k_)) v0_ r ∧ Below w.heap.size w w' := by
 have HO0 := Aside0.mk (show Kd.V (Kd.int .i64) 3 w w.heap.size (fun k_ => (P0_ k_ ∨ w.heap.size ≤ k_)) (.slice A0 l0.length c0) l0 from Kd.V_mono hs0 (fun k_ hk => .inl hk))
 have HB := Aside0.mk (Below.refl w.heap.size w)
 have H : (corporaref36_trim.l0 k l0) = some r := h
 clear h
 have H' := Aside0.mk H
 clear H
 go_enter Try.func125, Try.ntmps125
 go_wp2
 go_loopg [0] k (fun kq v0 w' => ∃ (x0_1 : List Int), Aside0 (corporaref36_trim.l0 kq x0_1 = some r) ∧ Aside0 (kq ≤ k) ∧ Aside0 (Kd.V (Kd.int .i64) 3 w' w.heap.size (fun k_ => (P0_ k_ ∨ w.heap.size ≤ k_)) v0 x0_1) ∧ Aside0 (Below w.heap.size w w'))
 case atStart => exact ⟨(l0), H', ⟨Nat.le_refl _⟩, ⟨by exact vl HO0⟩, ⟨by first | exact bl HB | exact HB.out⟩⟩
 case round =>
  clear H'
  try clear c1
  obtain ⟨x0_1, HA, HK1, HO_0, HB⟩ := hrel
  cases gk with
  | zero => exact absurd HA.out (by simp [corporaref36_trim.l0])
  | succ k1 =>
   have H := HA.out
   clear HA
   simp only [corporaref36_trim.l0] at H
   by_cases c2 : (x0_1.length : Int) > 0
   ·rw [if_pos c2] at H
    have c2b0 : decide (0 < (x0_1.length : Int)) = true := decide_eq_true c2
    have c2b1 : decide (0 < x0_1.length) = true := decide_eq_true (by omega)
    clear c2
    obtain ⟨ji3, hji3⟩ : ∃ j_ : Int, (wrap64 ((x0_1.length : Int) - 1)) = j_ := ⟨_, rfl⟩
    replace H : (if 0 ≤ (ji3) then (if (ji3) < (x0_1.length : Int) then (if (rd x0_1 (ji3)) = 0 then (if (ji3) ≤ (x0_1.length : Int) then (corporaref36_trim.l0 k1 (x0_1.take ((ji3) : Int).toNat)) else (none)) else (some x0_1)) else (none)) else (none)) = some r := by first | (rw [hji3] at H; exact H) | (simp only [hji3] at H ⊢; exact H)
    have hji3w : (IntKind.i64.wrap ((x0_1.length : Int) - 1)) = ji3 := (i64_w _).trans hji3
    by_cases c4 : 0 ≤ (ji3)
    ·rw [if_pos c4] at H
     have c4b0 : decide (0 ≤ (ji3)) = true := decide_eq_true c4
     clear c4
     by_cases c5 : (ji3) < (x0_1.length : Int)
     ·rw [if_pos c5] at H
      have c5b0 : decide ((ji3) < (x0_1.length : Int)) = true := decide_eq_true c5
      clear c5
      by_cases c6 : (rd x0_1 (ji3)) = 0
      ·rw [if_pos c6] at H
       have c6b0 : ((rd x0_1 (ji3)) == 0) = true := beq_iff_eq.mpr c6
       have c6b1 : ((rd x0_1 (ji3)) != 0) = false := bne_eq_false_iff_eq.mpr c6
       clear c6
       have c7b0 := eq_true (dt : 0 ≤ (ji3))
       by_cases c8 : (ji3) ≤ (x0_1.length : Int)
       ·rw [if_pos c8] at H
        have c8b0 := eq_true c8
        have c8b1 : decide ((ji3) ≤ (x0_1.length : Int)) = true := decide_eq_true c8
        clear c8
        obtain ⟨y349, hy349⟩ : ∃ y_ : List Int, y_ = (x0_1.take ((ji3) : Int).toNat) := ⟨_, rfl⟩
        replace H : (corporaref36_trim.l0 k1 y349) = some r := by first | (rw [hy349]; with_reducible exact H) | (have H2_ := (Option.bind_some _ _).symm.trans H; rw [hy349]; with_reducible exact H2_) | (have H2_ := (Option.bind_some _ _).symm.trans H; with_reducible exact H2_) | with_reducible exact H | (rw [hy349]; exact H) | exact H
        have Ny349 := Aside0.mk hy349
        clear hy349
        have H' := Aside0.mk H
        clear H
        obtain ⟨Ao9, co9, eo9⟩ := Kd.V_slice HO_0.out
        subst eo9
        have p348 : 0 ≤ ((ji3) : Int) := dt
        have q348 : (ji3) < (x0_1.length : Int) := dt
        obtain ⟨ad348, e348, hx348_0⟩ := Kd.at_int (Kd.V_reads' HO_0.out).2.2 (ji3) p348 q348
        cases e348
        replace p348 := eq_true p348
        replace q348 := eq_true q348
        have q10 : ((ji3) : Int) ≤ ((x0_1.length : Int) : Int) := dt
        obtain ⟨i010, hi010, _, hsz10, _⟩ := info_parts info3
        have hroom10 : x0_1.length ≤ co9 := (Kd.V_reads' HO_0.out).2.1
        have hC10 : Kd.F (Kd.int .i64) _ _ (some ad348) x0_1.length x0_1 := (Kd.V_at (base := w.heap.size) HO_0.out).2.2
        have hcut10 := cut_to (P := Try.prog) 22 3 .i64 Try.underlying22 hi010 (some ad348) x0_1.length co9 (ji3) (dt) q10 hroom10
        have hr10 := Kd.F_take (m := ((ji3) : Int).toNat) hC10 (by omega)
        have hy10 : y349.length = ((ji3) : Int).toNat := (by rw [Ny349.out, List.length_take]; omega)
        rw [← Ny349.out] at hr10
        rw [← hy10] at hcut10
        have HO353 := Aside0.mk (show Kd.V (Kd.int .i64) 3 _ w.heap.size _ (.slice (some ad348) y349.length co9) y349 from Kd.V_mk (by omega) hr10)
        have HC353 := Aside0.mk (show y349.length ≤ co9 from by omega)
        clear hr10 hC10 hroom10 hi010 hsz10
        have KY10 := Aside0.mk hy10
        clear hy10
        replace q10 := eq_true q10
        go_wp2
        go_roundg k1
        case measure => have := HK1.out; omega
        case rel => exact ⟨(y349), (by first | exact H' | (simp only [hji3]; exact H')), ⟨by have := HK1.out; omega⟩, ⟨by exact vl HO353⟩, ⟨by first | exact bl HB | exact HB.out⟩⟩
       ·rw [if_neg c8] at H
        exact absurd H (by simp)
      ·rw [if_neg c6] at H
       have c6b0 : ((rd x0_1 (ji3)) == 0) = false := beq_eq_false_iff_ne.mpr c6
       have c6b1 : ((rd x0_1 (ji3)) != 0) = true := bne_iff_ne.mpr c6
       obtain rfl := Option.some.inj H
       obtain ⟨Ao11, co11, eo11⟩ := Kd.V_slice HO_0.out
       subst eo11
       have p348 : 0 ≤ ((ji3) : Int) := dt
       have q348 : (ji3) < (x0_1.length : Int) := dt
       obtain ⟨ad348, e348, hx348_0⟩ := Kd.at_int (Kd.V_reads' HO_0.out).2.2 (ji3) p348 q348
       cases e348
       replace p348 := eq_true p348
       replace q348 := eq_true q348
       go_wp2
       go_ret
       exact ⟨_, by first | rfl | (simp [errW_none, errW_some] <;> rfl) | (simp only [← hji3]; first | rfl | (simp [errW_none, errW_some] <;> rfl)) | (simp [*, errW_none, errW_some] <;> rfl), by (with_reducible repeat (first | apply Kd.V_alloc | apply Kd.V_drewN | apply Kd.V_drew)); exact HO_0.out, by first | exact bl HB | exact HB.out⟩
     ·rw [if_neg c5] at H
      exact absurd H (by simp)
    ·rw [if_neg c4] at H
     exact absurd H (by simp)
   ·rw [if_neg c2] at H
    have c2b0 : decide (0 < (x0_1.length : Int)) = false := decide_eq_false c2
    have c2b1 : decide (0 < x0_1.length) = false := decide_eq_false (by omega)
    clear c2
    obtain rfl := Option.some.inj H
    obtain ⟨Ao12, co12, eo12⟩ := Kd.V_slice HO_0.out
    subst eo12
    go_wp2
    go_ret
    exact ⟨_, er, by (with_reducible repeat (first | apply Kd.V_alloc | apply Kd.V_drewN | apply Kd.V_drew)); exact HO_0.out, by first | exact bl HB | exact HB.out⟩
set_option maxHeartbeats 8000000 in
set_option maxRecDepth 100000 in
theorem corporaref36_Big.calls (k : Nat) (a0 : ByteArray) (r : List Int) (w : World) (h : corporaref36_Big.f k a0 = some r) :
  Calls Try.prog 88 #[.string a0] w fun e w' => ∃ v0_ : Value, e = .returned (v0_) ∧ Kd.V (Kd.int .i64) 3 w' w.heap.size (fun k_ => (w.heap.size ≤ k_)) v0_ r ∧ Below w.heap.size w w' := by
 have HB := Aside0.mk (Below.refl w.heap.size w)
 have H : (corporaref36_Big.l0 k a0 ([] : List Int) (a0.size : Int)) = some r := h
 clear h
 have H' := Aside0.mk H
 clear H
 go_enter Try.func88, Try.ntmps88
 go_wp2
 go_loopg [3, 4] k (fun kq v3 v4 w' => ∃ (x3_1 : List Int) (x4_1 : Int), v4 = .int .i64 x4_1 ∧ Aside0 (corporaref36_Big.l0 kq a0 x3_1 x4_1 = some r) ∧ Aside0 (kq ≤ k) ∧ Aside0 (Kd.R (Kd.int .i64) 3 w' w.heap.size (fun k_ => (w.heap.size ≤ k_)) v3 x3_1) ∧ Aside0 (Below w.heap.size w w'))
 case atStart => exact ⟨(([] : List Int)), ((a0.size : Int)), sv, H', ⟨Nat.le_refl _⟩, ⟨by first | exact Kd.R_nil _ _ _ _ _ | exact Kd.N_nil _ _ _ _ _ | exact Kd.V_nil _ _ _ _ _ | exact Kd.Q_nil _ _ _ _ _ | exact Kd.S_nil _ _ _ _ _⟩, ⟨by first | exact bl HB | exact HB.out⟩⟩
 case round =>
  clear H'
  obtain ⟨x3_1, x4_1, rfl, HA, HK1, HO_3, HB⟩ := hrel
  cases gk with
  | zero => exact absurd HA.out (by simp [corporaref36_Big.l0])
  | succ k1 =>
   have H := HA.out
   clear HA
   simp only [corporaref36_Big.l0] at H
   by_cases c2 : x4_1 > 0
   ·rw [if_pos c2] at H
    have c2b0 : decide (0 < x4_1) = true := decide_eq_true c2
    clear c2
    obtain ⟨ji3, hji3⟩ : ∃ j_ : Int, (mx 0 (wrap64 (x4_1 - 4))) = j_ := ⟨_, rfl⟩
    replace H : (corporaref36_Big.l1 k1 a0 x3_1 x4_1 0 ji3) = some r := by first | (rw [hji3] at H; exact H) | (simp only [hji3] at H ⊢; exact H)
    have hji3_ : (if 0 < (wrap64 (x4_1 - 4)) then (wrap64 (x4_1 - 4)) else 0) = ji3 := hji3
    have H' := Aside0.mk H
    clear H
    go_wp2
    go_loopg [5, 6] k1 (fun kq v5 v6 w' => ∃ (x5_2 : Int) (x6_2 : Int), v5 = .int .i64 x5_2 ∧ v6 = .int .i64 x6_2 ∧ Aside0 (corporaref36_Big.l1 kq a0 x3_1 x4_1 x5_2 x6_2 = some r) ∧ Aside0 (kq ≤ k1) ∧ Aside0 (Kd.R (Kd.int .i64) 3 w' w.heap.size (fun k_ => (w.heap.size ≤ k_)) u3 x3_1) ∧ Aside0 (Below w.heap.size w w'))
    case atStart => exact ⟨(0), (ji3), sv, (by first | rfl | (simp; done) | (simp only [← hji3] <;> (first | rfl | simp)) | (simp [*]; done)), H', ⟨Nat.le_refl _⟩, ⟨by exact rl HO_3⟩, ⟨by first | exact bl HB | exact HB.out⟩⟩
    case round =>
     clear H'
     try clear c2b0
     obtain ⟨x5_2, x6_2, rfl, rfl, HA, HK2, HO_3, HB⟩ := hrel
     cases gk with
     | zero => exact absurd HA.out (by simp [corporaref36_Big.l1])
     | succ k2 =>
      have H := HA.out
      clear HA
      simp only [corporaref36_Big.l1] at H
      by_cases c4 : x6_2 < x4_1
      ·rw [if_pos c4] at H
       have c4b0 : decide (x6_2 < x4_1) = true := decide_eq_true c4
       clear c4
       by_cases c5 : 0 ≤ x6_2
       ·rw [if_pos c5] at H
        have c5b0 : decide (0 ≤ x6_2) = true := decide_eq_true c5
        clear c5
        by_cases c6 : x6_2 < (a0.size : Int)
        ·rw [if_pos c6] at H
         have c6b0 : decide (x6_2 < (a0.size : Int)) = true := decide_eq_true c6
         clear c6
         have H' := Aside0.mk H
         clear H
         have p7 : 0 ≤ (x6_2 : Int) := dt
         have q7 : x6_2 < (a0.size : Int) := dt
         have hx7 := bt_at a0 x6_2
         replace p7 := eq_true p7
         replace q7 := eq_true q7
         go_wp2
         go_roundg k2
         case measure => have := HK1.out; have := HK2.out; omega
         case rel => exact ⟨(wrap64 ((wrap64 (10 * x5_2)) + (((bt a0 x6_2) - 48) % 256))), (wrap64 (x6_2 + 1)), sv, sv, (by first | exact H' | (simp only [hji3]; exact H')), ⟨by have := HK1.out; have := HK2.out; omega⟩, ⟨by exact rl HO_3⟩, ⟨by first | exact bl HB | exact HB.out⟩⟩
        ·rw [if_neg c6] at H
         exact absurd H (by simp)
       ·rw [if_neg c5] at H
        exact absurd H (by simp)
      ·rw [if_neg c4] at H
       have c4b0 : decide (x6_2 < x4_1) = false := decide_eq_false c4
       clear c4
       by_cases c8 : x3_1.length < 17592186044416
       ·rw [if_pos c8] at H
        have LMc8 := Aside0.mk c8
        clear c8
        obtain ⟨y357, hy357⟩ : ∃ y_ : List Int, y_ = (x3_1 ++ [x5_2]) := ⟨_, rfl⟩
        replace H : (corporaref36_Big.l0 k2 a0 y357 (wrap64 (x4_1 - 4))) = some r := by first | (rw [hy357]; with_reducible exact H) | (have H2_ := (Option.bind_some _ _).symm.trans H; rw [hy357]; with_reducible exact H2_) | (have H2_ := (Option.bind_some _ _).symm.trans H; with_reducible exact H2_) | with_reducible exact H | (rw [hy357]; exact H) | exact H
        have Ny357 := Aside0.mk hy357
        clear hy357
        have H' := Aside0.mk H
        clear H
        go_wp2_with (first | ((with_reducible refine gate_builtin (b := .append) (xs := #[.tmp 29, .tmp 31]) rfl ?_); at_builtin; refine Kd.R_append (Kd.int .i64) (w0 := w) w.heap.size rfl (.tmp 29) (.tmp 31) 22 3 (.int .i64 0) 8 rfl Try.underlying22 info3 rfl (by decide) (by omega) u3 x3_1 x5_2 [.int .i64 x5_2] (fun k_ => (w.heap.size ≤ k_)) (fun _ => False) rfl rfl ?aP (fun _ hk => hk.elim) ?aF ?aO ?aB ?aS ?aL ?_; (case aP => exact rfl); (case aB => exact (by first | exact bl HB | exact HB.out)); (case aF => exact (fun k_ hk => (Nat.le_trans (below_size (by first | exact bl HB | exact HB.out)) hk))); (case aO => exact (rl HO_3)); (case aS => exact (below_size (by first | exact bl HB | exact HB.out))); (case aL => have := LMc8.out; omega); intro v358 w9 ho hb hg hat; rw [← Ny357.out] at ho; have n0_ := Aside0.mk (hb); have n1_ := Aside0.mk (ho); clear HB; clear HO_3; have HB := n0_; have HO359 := n1_; clear n0_ n1_; clear ho hb hg hat))
        go_roundg k2
        case measure => have := HK1.out; have := HK2.out; omega
        case rel => exact ⟨(y357), (wrap64 (x4_1 - 4)), sv, (by first | exact H' | (simp only [hji3]; exact H')), ⟨by have := HK1.out; have := HK2.out; omega⟩, ⟨by exact rl HO359⟩, ⟨by first | exact bl HB | exact HB.out⟩⟩
       ·rw [if_neg c8] at H
        exact absurd H (by simp)
   ·rw [if_neg c2] at H
    have c2b0 : decide (0 < x4_1) = false := decide_eq_false c2
    clear c2
    replace H := Option.bind_eq_some_iff.mp H
    obtain ⟨t354, A100, H⟩ := H
    replace H : (some t354) = some r := H
    have A10 := Aside0.mk A100
    clear A100
    obtain rfl := Option.some.inj H
    obtain ⟨Ao11, co11, eo11⟩ := Kd.R_slice HO_3.out
    subst eo11
    go_wp2_with (first | ((with_reducible refine gate_callee (f := 125) rfl ?_); refine goesL_ (some 34) rfl rfl Try.func125 (by kernel_rfl) rfl #[.slice Ao11 x3_1.length co11] rfl ga ?_; (with_reducible refine (corporaref36_trim.calls k1 (fun k_ => some k_ = (.slice Ao11 x3_1.length co11 : Value).ownBlock) _ _ x3_1 t354 _ ?side1 A10.out).mono ?_); (case side1 => exact Kd.R_V (Kd.R_tight rfl (HO_3.out))); rintro e w12 ⟨v355, rfl, ho0, hb⟩; refine ⟨_, rfl, ?_⟩; have HO356 := Aside0.mk (Kd.V_lower (Kd.V_mono (ok' := fun k_ => (w.heap.size ≤ k_)) ho0 (fun k_ hk_ => Or.elim hk_ (fun hs_ => ((HO_3.out).1 k_ hs_.symm)) (fun hn_ => (Nat.le_trans (below_size (by first | exact bl HB | exact HB.out)) hn_)))) (below_size (by first | exact bl HB | exact HB.out))); replace HO_3 := Aside0.mk (Kd.R_below (rl HO_3) hb); replace HB := hs HB hb; (try clear hb); (try clear ho0)))
    go_ret
    exact ⟨_, er, by (with_reducible repeat (first | apply Kd.V_alloc | apply Kd.V_drewN | apply Kd.V_drew)); exact HO356.out, by first | exact bl HB | exact HB.out⟩
set_option maxHeartbeats 8000000 in
set_option maxRecDepth 100000 in
theorem corporaref36_Valid.calls (k : Nat) (a0 : ByteArray) (r : Bool) (w : World) (h : corporaref36_Valid.f k a0 = some r) :
  Calls Try.prog 98 #[.string a0] w fun e w' => e = .returned (.bool r) ∧ Drawn0 w w' := by
 have H : (if (a0.size : Int) < 1 then _ else _) = _ := h
 clear h
 have HC2 := Aside0.mk H
 clear H
 go_enter Try.func98, Try.ntmps98
 go_upto_region 1 with (fail)
 go_cut [21] (fun v21 wc => ∃ (kq : Nat) (x21_1 : Bool), v21 = .bool x21_1 ∧ Aside0 (corporaref36_Valid.j0 kq a0 x21_1 = some r) ∧ Aside0 (kq ≤ k) ∧ Drawn0 w wc)
 case first =>
  have H := HC2.out
  clear HC2
  by_cases c3 : (a0.size : Int) < 1
  ·rw [if_pos c3] at H
   have c3b0 : decide ((a0.size : Int) < 1) = true := decide_eq_true c3
   have c3b1 : decide (a0.size < 1) = true := decide_eq_true (by omega)
   clear c3
   (first | rw [c3b0] | (simp only [i64_w, i32_w]; rw [c3b0]) | skip)
   have H' := Aside0.mk H
   clear H
   go_wp2
   go_meet
   case rel => exact ⟨_, (true), sv, H', ⟨by first | omega | exact Nat.le_refl _⟩, by repeat (first | exact Drawn0.refl _ | apply Drawn0.step)⟩
  ·rw [if_neg c3] at H
   have c3b0 : decide ((a0.size : Int) < 1) = false := decide_eq_false c3
   have c3b1 : decide (a0.size < 1) = false := decide_eq_false (by omega)
   clear c3
   (first | rw [c3b0] | (simp only [i64_w, i32_w]; rw [c3b0]) | skip)
   by_cases c4 : (a0.size : Int) > 20000
   ·rw [if_pos c4] at H
    have c4b0 : decide (20000 < (a0.size : Int)) = true := decide_eq_true c4
    have c4b1 : decide (20000 < a0.size) = true := decide_eq_true (by omega)
    clear c4
    have H' := Aside0.mk H
    clear H
    go_wp2
    go_meet
    case rel => exact ⟨_, (true), sv, H', ⟨by first | omega | exact Nat.le_refl _⟩, by repeat (first | exact Drawn0.refl _ | apply Drawn0.step)⟩
   ·rw [if_neg c4] at H
    have c4b0 : decide (20000 < (a0.size : Int)) = false := decide_eq_false c4
    have c4b1 : decide (20000 < a0.size) = false := decide_eq_false (by omega)
    clear c4
    by_cases c5 : 0 < (a0.size : Int)
    ·rw [if_pos c5] at H
     have c5b0 : decide (0 < (a0.size : Int)) = true := decide_eq_true c5
     have c5b1 : decide (0 < a0.size) = true := decide_eq_true (by omega)
     clear c5
     by_cases c7 : (bt a0 0) = 48
     ·rw [if_pos c7] at H
      have c7b0 : ((bt a0 0) == 48) = true := beq_iff_eq.mpr c7
      have c7b1 : ((bt a0 0) != 48) = false := bne_eq_false_iff_eq.mpr c7
      clear c7
      have H' := Aside0.mk H
      clear H
      have p6 : 0 ≤ (0 : Int) := (by omega)
      have q6 : 0 < a0.size := (by have : (0 : Int) < (a0.size : Int) := dt; omega)
      have hx6 : ∀ h : 0 < a0.size, ((a0[0]'h).toNat : Int) = bt a0 0 := bt_at a0 0
      clear p6
      have qi6 : (0 < (a0.size : Int)) = True := eq_true (dt)
      replace q6 := eq_true q6
      go_wp2
      go_meet
      case rel => exact ⟨_, (decide ((a0.size : Int) > 1)), sv, H', ⟨by first | omega | exact Nat.le_refl _⟩, by repeat (first | exact Drawn0.refl _ | apply Drawn0.step)⟩
     ·rw [if_neg c7] at H
      have c7b0 : ((bt a0 0) == 48) = false := beq_eq_false_iff_ne.mpr c7
      have c7b1 : ((bt a0 0) != 48) = true := bne_iff_ne.mpr c7
      have H' := Aside0.mk H
      clear H
      have p6 : 0 ≤ (0 : Int) := (by omega)
      have q6 : 0 < a0.size := (by have : (0 : Int) < (a0.size : Int) := dt; omega)
      have hx6 : ∀ h : 0 < a0.size, ((a0[0]'h).toNat : Int) = bt a0 0 := bt_at a0 0
      clear p6
      have qi6 : (0 < (a0.size : Int)) = True := eq_true (dt)
      replace q6 := eq_true q6
      go_wp2
      go_meet
      case rel => exact ⟨_, (false), sv, H', ⟨by first | omega | exact Nat.le_refl _⟩, by repeat (first | exact Drawn0.refl _ | apply Drawn0.step)⟩
    ·rw [if_neg c5] at H
     exact absurd H (by simp)
 case rest =>
  clear HC2
  try clear c3b0
  try clear c3b1
  try clear c4b0
  try clear c4b1
  try clear c5b0
  try clear c5b1
  try clear p6
  try clear q6
  try clear hx6
  try clear qi6
  try clear c7b0
  try clear c7b1
  try clear p6
  try clear q6
  obtain ⟨kq, x21_1, rfl, HA, HJ1, ⟨mc1, rfl⟩⟩ := hcut
  cases kq with
  | zero => exact absurd HA.out (by simp [corporaref36_Valid.j0])
  | succ kj1 =>
   have H := HA.out
   clear HA
   simp only [corporaref36_Valid.j0] at H
   by_cases c8 : x21_1 = true
   ·subst c8
    have H1 : (some false) = some r := by rw [if_pos rfl] at H; exact H
    clear H
    have H := H1
    clear H1
    obtain rfl := Option.some.inj H
    go_wp2
    go_ret
    exact ⟨by first | rfl | (simp; done) | (simp [*]; done), by repeat (first | exact Drawn0.refl _ | apply Drawn0.step)⟩
   ·replace c8 := Bool.eq_false_iff.mpr c8
    subst c8
    have H1 : (corporaref36_Valid.l0 kj1 a0 0) = some r := by rw [if_neg (show ¬ (false = true) by decide)] at H; exact H
    clear H
    have H := H1
    clear H1
    have H' := Aside0.mk H
    clear H
    go_wp2
    go_loopg [3] kj1 (fun kq v3 w' => ∃ (x3_2 : Int), v3 = .int .i64 x3_2 ∧ Aside0 (corporaref36_Valid.l0 kq a0 x3_2 = some r) ∧ Aside0 (kq ≤ kj1) ∧ Drawn0 w w')
    case atStart => exact ⟨(0), sv, H', ⟨Nat.le_refl _⟩, by repeat (first | exact Drawn0.refl _ | apply Drawn0.step)⟩
    case round =>
     clear H'
     try clear c1
     try clear c3b0
     try clear c3b1
     try clear c4b0
     try clear c4b1
     try clear c5b0
     try clear c5b1
     try clear p6
     try clear q6
     try clear hx6
     try clear qi6
     try clear c7b0
     try clear c7b1
     try clear p6
     try clear q6
     obtain ⟨x3_2, rfl, HA, HK2, ⟨m2, rfl⟩⟩ := hrel
     cases gk with
     | zero => exact absurd HA.out (by simp [corporaref36_Valid.l0])
     | succ k2 =>
      have H := HA.out
      clear HA
      simp only [corporaref36_Valid.l0] at H
      by_cases c9 : x3_2 < (a0.size : Int)
      ·rw [if_pos c9] at H
       have c9b0 : decide (x3_2 < (a0.size : Int)) = true := decide_eq_true c9
       clear c9
       by_cases c10 : 0 ≤ x3_2
       ·rw [if_pos c10] at H
        have c10b0 : decide (0 ≤ x3_2) = true := decide_eq_true c10
        clear c10
        by_cases c12 : (bt a0 x3_2) < 48
        ·rw [if_pos c12] at H
         have c12b0 : decide ((bt a0 x3_2) < 48) = true := decide_eq_true c12
         clear c12
         obtain rfl := Option.some.inj H
         have p11 : 0 ≤ (x3_2 : Int) := dt
         have q11 : x3_2 < (a0.size : Int) := dt
         have hx11 := bt_at a0 x3_2
         replace p11 := eq_true p11
         replace q11 := eq_true q11
         go_wp2
         go_ret
         exact ⟨by first | rfl | (simp; done) | (simp [*]; done), by repeat (first | exact Drawn0.refl _ | apply Drawn0.step)⟩
        ·rw [if_neg c12] at H
         have c12b0 : decide ((bt a0 x3_2) < 48) = false := decide_eq_false c12
         clear c12
         by_cases c14 : (bt a0 x3_2) > 57
         ·rw [if_pos c14] at H
          have c14b0 : decide (57 < (bt a0 x3_2)) = true := decide_eq_true c14
          clear c14
          obtain rfl := Option.some.inj H
          have p11 : 0 ≤ (x3_2 : Int) := dt
          have q11 : x3_2 < (a0.size : Int) := dt
          have hx11 := bt_at a0 x3_2
          replace p11 := eq_true p11
          replace q11 := eq_true q11
          have p13 : 0 ≤ (x3_2 : Int) := dt
          have q13 : x3_2 < (a0.size : Int) := dt
          have hx13 := bt_at a0 x3_2
          replace p13 := eq_true p13
          replace q13 := eq_true q13
          go_wp2
          go_ret
          exact ⟨by first | rfl | (simp; done) | (simp [*]; done), by repeat (first | exact Drawn0.refl _ | apply Drawn0.step)⟩
         ·rw [if_neg c14] at H
          have c14b0 : decide (57 < (bt a0 x3_2)) = false := decide_eq_false c14
          clear c14
          have H' := Aside0.mk H
          clear H
          have p11 : 0 ≤ (x3_2 : Int) := dt
          have q11 : x3_2 < (a0.size : Int) := dt
          have hx11 := bt_at a0 x3_2
          replace p11 := eq_true p11
          replace q11 := eq_true q11
          have p13 : 0 ≤ (x3_2 : Int) := dt
          have q13 : x3_2 < (a0.size : Int) := dt
          have hx13 := bt_at a0 x3_2
          replace p13 := eq_true p13
          replace q13 := eq_true q13
          go_wp2
          go_roundg k2
          case measure => have := HJ1.out; have := HK2.out; omega
          case rel => exact ⟨(wrap64 (x3_2 + 1)), sv, H', ⟨by have := HJ1.out; have := HK2.out; omega⟩, by repeat (first | exact Drawn0.refl _ | apply Drawn0.step)⟩
       ·rw [if_neg c10] at H
        exact absurd H (by simp)
      ·rw [if_neg c9] at H
       have c9b0 : decide (x3_2 < (a0.size : Int)) = false := decide_eq_false c9
       clear c9
       obtain rfl := Option.some.inj H
       go_wp2
       go_ret
       exact ⟨by first | rfl | (simp; done) | (simp [*]; done), by repeat (first | exact Drawn0.refl _ | apply Drawn0.step)⟩
set_option maxHeartbeats 8000000 in
set_option maxRecDepth 100000 in
theorem corporaref36_Less.calls (k : Nat) (A0 : Option Addr) (c0 : Nat) (l0 : List Int) (A1 : Option Addr) (c1 : Nat) (l1 : List Int) (r : Int) (w : World) (hr0 : Kd.C (Kd.int .i64) w A0 l0.length l0) (hc0 : l0.length ≤ c0) (hr1 : Kd.C (Kd.int .i64) w A1 l1.length l1) (hc1 : l1.length ≤ c1) (h : corporaref36_Less.f k l0 l1 = some r) :
  Calls Try.prog 101 #[.slice A0 l0.length c0, .slice A1 l1.length c1] w fun e w' => e = .returned (.int .i64 r) ∧ Drawn0 w w' := by
 have HR0 := Aside0.mk hr0
 have HC0 := Aside0.mk hc0
 clear hr0 hc0
 have HR1 := Aside0.mk hr1
 have HC1 := Aside0.mk hc1
 clear hr1 hc1
 have H : (if (l0.length : Int) = (l1.length : Int) then _ else _) = _ := h
 clear h
 by_cases c3 : (l0.length : Int) = (l1.length : Int)
 ·rw [if_pos c3] at H
  have c3b0 : ((l0.length : Int) == (l1.length : Int)) = true := beq_iff_eq.mpr c3
  have c3b1 : ((l0.length : Int) != (l1.length : Int)) = false := bne_eq_false_iff_eq.mpr c3
  have c3b2 : (l0.length == l1.length) = true := by first | simpa using c3 | (simp at c3 ⊢; omega)
  clear c3
  have H' := Aside0.mk H
  clear H
  go_enter Try.func101, Try.ntmps101
  go_wp2
  repeat (go_quiet (fail); try go_wp2)
  go_loopg [5] k (fun kq v5 w' => ∃ (x5_1 : Int), v5 = .int .i64 x5_1 ∧ Aside0 (corporaref36_Less.l0 kq l0 l1 x5_1 = some r) ∧ Aside0 (kq ≤ k) ∧ Drawn0 w w')
  case atStart => exact ⟨(wrap64 ((l0.length : Int) - 1)), sv, H', ⟨Nat.le_refl _⟩, by repeat (first | exact Drawn0.refl _ | apply Drawn0.step)⟩
  case round =>
   clear H'
   try clear c1
   try clear c3b0
   try clear c3b1
   try clear c3b2
   obtain ⟨x5_1, rfl, HA, HK1, ⟨m1, rfl⟩⟩ := hrel
   cases gk with
   | zero => exact absurd HA.out (by simp [corporaref36_Less.l0])
   | succ k1 =>
    have H := HA.out
    clear HA
    simp only [corporaref36_Less.l0] at H
    by_cases c4 : x5_1 ≥ 0
    ·rw [if_pos c4] at H
     have c4b0 : decide (0 ≤ x5_1) = true := decide_eq_true c4
     clear c4
     by_cases c5 : 0 ≤ x5_1
     ·rw [if_pos c5] at H
      have c5b0 : decide (0 ≤ x5_1) = true := decide_eq_true c5
      clear c5
      by_cases c6 : x5_1 < (l0.length : Int)
      ·rw [if_pos c6] at H
       have c6b0 : decide (x5_1 < (l0.length : Int)) = true := decide_eq_true c6
       clear c6
       by_cases c7 : x5_1 < (l1.length : Int)
       ·rw [if_pos c7] at H
        have c7b0 : decide (x5_1 < (l1.length : Int)) = true := decide_eq_true c7
        clear c7
        by_cases c8 : (rd l0 x5_1) = (rd l1 x5_1)
        ·rw [if_pos c8] at H
         have c8b0 : ((rd l0 x5_1) == (rd l1 x5_1)) = true := beq_iff_eq.mpr c8
         have c8b1 : ((rd l0 x5_1) != (rd l1 x5_1)) = false := bne_eq_false_iff_eq.mpr c8
         clear c8
         have H' := Aside0.mk H
         clear H
         have p384 : 0 ≤ (x5_1 : Int) := dt
         have q384 : x5_1 < (l0.length : Int) := dt
         obtain ⟨ad384, e384, hx384_0⟩ := Kd.at_int HR0.out x5_1 p384 q384
         cases e384
         replace p384 := eq_true p384
         replace q384 := eq_true q384
         have p385 : 0 ≤ (x5_1 : Int) := dt
         have q385 : x5_1 < (l1.length : Int) := dt
         obtain ⟨ad385, e385, hx385_0⟩ := Kd.at_int HR1.out x5_1 p385 q385
         cases e385
         replace p385 := eq_true p385
         replace q385 := eq_true q385
         go_wp2
         repeat (go_quiet (fail); try go_wp2)
         go_roundg k1
         case measure => have := HK1.out; omega
         case rel => exact ⟨(wrap64 (x5_1 - 1)), sv, H', ⟨by have := HK1.out; omega⟩, by repeat (first | exact Drawn0.refl _ | apply Drawn0.step)⟩
        ·rw [if_neg c8] at H
         have c8b0 : ((rd l0 x5_1) == (rd l1 x5_1)) = false := beq_eq_false_iff_ne.mpr c8
         have c8b1 : ((rd l0 x5_1) != (rd l1 x5_1)) = true := bne_iff_ne.mpr c8
         by_cases c9 : (rd l0 x5_1) < (rd l1 x5_1)
         ·rw [if_pos c9] at H
          have c9b0 : decide ((rd l0 x5_1) < (rd l1 x5_1)) = true := decide_eq_true c9
          clear c9
          obtain rfl := Option.some.inj H
          have p384 : 0 ≤ (x5_1 : Int) := dt
          have q384 : x5_1 < (l0.length : Int) := dt
          obtain ⟨ad384, e384, hx384_0⟩ := Kd.at_int HR0.out x5_1 p384 q384
          cases e384
          replace p384 := eq_true p384
          replace q384 := eq_true q384
          have p385 : 0 ≤ (x5_1 : Int) := dt
          have q385 : x5_1 < (l1.length : Int) := dt
          obtain ⟨ad385, e385, hx385_0⟩ := Kd.at_int HR1.out x5_1 p385 q385
          cases e385
          replace p385 := eq_true p385
          replace q385 := eq_true q385
          have p386 : 0 ≤ (x5_1 : Int) := dt
          have q386 : x5_1 < (l0.length : Int) := dt
          obtain ⟨ad386, e386, hx386_0⟩ := Kd.at_int HR0.out x5_1 p386 q386
          obtain rfl : ad384 = ad386 := (by injection e386)
          replace p386 := eq_true p386
          replace q386 := eq_true q386
          have p387 : 0 ≤ (x5_1 : Int) := dt
          have q387 : x5_1 < (l1.length : Int) := dt
          obtain ⟨ad387, e387, hx387_0⟩ := Kd.at_int HR1.out x5_1 p387 q387
          obtain rfl : ad385 = ad387 := (by injection e387)
          replace p387 := eq_true p387
          replace q387 := eq_true q387
          go_wp2
          repeat (go_quiet (fail); try go_wp2)
          go_ret
          exact ⟨by first | rfl | (simp; done) | (simp [*]; done), by repeat (first | exact Drawn0.refl _ | apply Drawn0.step)⟩
         ·rw [if_neg c9] at H
          have c9b0 : decide ((rd l0 x5_1) < (rd l1 x5_1)) = false := decide_eq_false c9
          clear c9
          obtain rfl := Option.some.inj H
          have p384 : 0 ≤ (x5_1 : Int) := dt
          have q384 : x5_1 < (l0.length : Int) := dt
          obtain ⟨ad384, e384, hx384_0⟩ := Kd.at_int HR0.out x5_1 p384 q384
          cases e384
          replace p384 := eq_true p384
          replace q384 := eq_true q384
          have p385 : 0 ≤ (x5_1 : Int) := dt
          have q385 : x5_1 < (l1.length : Int) := dt
          obtain ⟨ad385, e385, hx385_0⟩ := Kd.at_int HR1.out x5_1 p385 q385
          cases e385
          replace p385 := eq_true p385
          replace q385 := eq_true q385
          have p386 : 0 ≤ (x5_1 : Int) := dt
          have q386 : x5_1 < (l0.length : Int) := dt
          obtain ⟨ad386, e386, hx386_0⟩ := Kd.at_int HR0.out x5_1 p386 q386
          obtain rfl : ad384 = ad386 := (by injection e386)
          replace p386 := eq_true p386
          replace q386 := eq_true q386
          have p387 : 0 ≤ (x5_1 : Int) := dt
          have q387 : x5_1 < (l1.length : Int) := dt
          obtain ⟨ad387, e387, hx387_0⟩ := Kd.at_int HR1.out x5_1 p387 q387
          obtain rfl : ad385 = ad387 := (by injection e387)
          replace p387 := eq_true p387
          replace q387 := eq_true q387
          go_wp2
          repeat (go_quiet (fail); try go_wp2)
          go_ret
          exact ⟨by first | rfl | (simp; done) | (simp [*]; done), by repeat (first | exact Drawn0.refl _ | apply Drawn0.step)⟩
       ·rw [if_neg c7] at H
        exact absurd H (by simp)
      ·rw [if_neg c6] at H
       exact absurd H (by simp)
     ·rw [if_neg c5] at H
      exact absurd H (by simp)
    ·rw [if_neg c4] at H
     have c4b0 : decide (0 ≤ x5_1) = false := decide_eq_false c4
     clear c4
     obtain rfl := Option.some.inj H
     go_wp2
     repeat (go_quiet (fail); try go_wp2)
     go_ret
     exact ⟨by first | rfl | (simp; done) | (simp [*]; done), by repeat (first | exact Drawn0.refl _ | apply Drawn0.step)⟩
 ·rw [if_neg c3] at H
  have c3b0 : ((l0.length : Int) == (l1.length : Int)) = false := beq_eq_false_iff_ne.mpr c3
  have c3b1 : ((l0.length : Int) != (l1.length : Int)) = true := bne_iff_ne.mpr c3
  have c3b2 : (l0.length == l1.length) = false := by first | simpa using c3 | (simp at c3 ⊢; omega)
  by_cases c10 : (l0.length : Int) < (l1.length : Int)
  ·rw [if_pos c10] at H
   have c10b0 : decide ((l0.length : Int) < (l1.length : Int)) = true := decide_eq_true c10
   have c10b1 : decide (l0.length < l1.length) = true := decide_eq_true (Int.ofNat_lt.mp c10)
   clear c10
   obtain rfl := Option.some.inj H
   go_enter Try.func101, Try.ntmps101
   go_wp2
   repeat (go_quiet (fail); try go_wp2)
   go_ret
   exact ⟨by first | rfl | (simp; done) | (simp [*]; done), by repeat (first | exact Drawn0.refl _ | apply Drawn0.step)⟩
  ·rw [if_neg c10] at H
   have c10b0 : decide ((l0.length : Int) < (l1.length : Int)) = false := decide_eq_false c10
   have c10b1 : decide (l0.length < l1.length) = false := decide_eq_false (fun h => c10 (Int.ofNat_lt.mpr h))
   clear c10
   obtain rfl := Option.some.inj H
   go_enter Try.func101, Try.ntmps101
   go_wp2
   repeat (go_quiet (fail); try go_wp2)
   go_ret
   exact ⟨by first | rfl | (simp; done) | (simp [*]; done), by repeat (first | exact Drawn0.refl _ | apply Drawn0.step)⟩
set_option maxHeartbeats 8000000 in
set_option maxRecDepth 100000 in
theorem corporaref36_Of64.calls (k : Nat) (a0 : Int) (r : List Int) (w : World) (h : corporaref36_Of64.f k a0 = some r) :
  Calls Try.prog 112 #[.int .u64 a0] w fun e w' => ∃ v0_ : Value, e = .returned (v0_) ∧ Kd.R (Kd.int .i64) 3 w' w.heap.size (fun _ => True) v0_ r ∧ Below w.heap.size w w' := by
 have HB := Aside0.mk (Below.refl w.heap.size w)
 have H : (corporaref36_Of64.l0 k a0 ([] : List Int)) = some r := h
 clear h
 have H' := Aside0.mk H
 clear H
 go_enter Try.func112, Try.ntmps112
 go_wp2
 go_loopg [0, 3] k (fun kq v0 v3 w' => ∃ (x0_1 : Int) (x3_1 : List Int), v0 = .int .u64 x0_1 ∧ Aside0 (corporaref36_Of64.l0 kq x0_1 x3_1 = some r) ∧ Aside0 (kq ≤ k) ∧ Aside0 (Kd.R (Kd.int .i64) 3 w' w.heap.size (fun _ => True) v3 x3_1) ∧ Aside0 (Below w.heap.size w w'))
 case atStart => exact ⟨(a0), (([] : List Int)), sv, H', ⟨Nat.le_refl _⟩, ⟨by first | exact Kd.R_nil _ _ _ _ _ | exact Kd.N_nil _ _ _ _ _ | exact Kd.V_nil _ _ _ _ _ | exact Kd.Q_nil _ _ _ _ _ | exact Kd.S_nil _ _ _ _ _⟩, ⟨by first | exact bl HB | exact HB.out⟩⟩
 case round =>
  clear H'
  try clear c1
  obtain ⟨x0_1, x3_1, rfl, HA, HK1, HO_3, HB⟩ := hrel
  cases gk with
  | zero => exact absurd HA.out (by simp [corporaref36_Of64.l0])
  | succ k1 =>
   have H := HA.out
   clear HA
   simp only [corporaref36_Of64.l0] at H
   by_cases c2 : x0_1 > 0
   ·rw [if_pos c2] at H
    have c2b0 : decide (0 < x0_1) = true := decide_eq_true c2
    clear c2
    by_cases c3 : x3_1.length < 17592186044416
    ·rw [if_pos c3] at H
     have LMc3 := Aside0.mk c3
     clear c3
     obtain ⟨y405, hy405⟩ : ∃ y_ : List Int, y_ = (x3_1 ++ [wrap64 (Int.tmod x0_1 10000)]) := ⟨_, rfl⟩
     replace H : (corporaref36_Of64.l0 k1 (IntKind.u64.wrap (Int.tdiv x0_1 10000)) y405) = some r := by first | (rw [hy405]; with_reducible exact H) | (have H2_ := (Option.bind_some _ _).symm.trans H; rw [hy405]; with_reducible exact H2_) | (have H2_ := (Option.bind_some _ _).symm.trans H; with_reducible exact H2_) | with_reducible exact H | (rw [hy405]; exact H) | exact H
     have Ny405 := Aside0.mk hy405
     clear hy405
     have H' := Aside0.mk H
     clear H
     go_wp2_with (first | ((with_reducible refine gate_builtin (b := .append) (xs := #[.tmp 6, .tmp 10]) rfl ?_); at_builtin; refine Kd.R_append (Kd.int .i64) (w0 := w) w.heap.size rfl (.tmp 6) (.tmp 10) 22 3 (.int .i64 0) 8 rfl Try.underlying22 info3 rfl (by decide) (by omega) u3 x3_1 (wrap64 (Int.tmod x0_1 10000)) [.int .i64 (wrap64 (Int.tmod x0_1 10000))] (fun _ => True) (fun _ => False) rfl rfl ?aP (fun _ hk => hk.elim) ?aF ?aO ?aB ?aS ?aL ?_; (case aP => exact rfl); (case aB => exact (by first | exact bl HB | exact HB.out)); (case aF => exact (fun _ _ => trivial)); (case aO => exact (rl HO_3)); (case aS => exact (below_size (by first | exact bl HB | exact HB.out))); (case aL => have := LMc3.out; omega); intro v406 w4 ho hb hg hat; rw [← Ny405.out] at ho; have n0_ := Aside0.mk (hb); have n1_ := Aside0.mk (ho); clear HB; clear HO_3; have HB := n0_; have HO407 := n1_; clear n0_ n1_; clear ho hb hg hat))
     go_roundg k1
     case measure => have := HK1.out; omega
     case rel => exact ⟨(IntKind.u64.wrap (Int.tdiv x0_1 10000)), (y405), sv, H', ⟨by have := HK1.out; omega⟩, ⟨by exact rl HO407⟩, ⟨by first | exact bl HB | exact HB.out⟩⟩
    ·rw [if_neg c3] at H
     exact absurd H (by simp)
   ·rw [if_neg c2] at H
    have c2b0 : decide (0 < x0_1) = false := decide_eq_false c2
    clear c2
    obtain rfl := Option.some.inj H
    go_wp2
    go_ret
    exact ⟨_, er, by (with_reducible repeat (first | apply Kd.R_alloc | apply Kd.R_drewN | apply Kd.R_drew)); exact HO_3.out, by first | exact bl HB | exact HB.out⟩
end Go.Proofs.Ytccgfmjcldifcaa.P
