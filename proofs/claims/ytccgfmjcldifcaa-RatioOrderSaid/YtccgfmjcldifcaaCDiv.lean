/- Walks of Go functions: what they compute; each theorem's conditions stand in it. -/
import Derived.Test.YtccgfmjcldifcaaT
import Derived.Test.YtccgfmjcldifcaaCCmp
import Derived.Test.YtccgfmjcldifcaaCLess
import Derived.Test.YtccgfmjcldifcaaCSmall
import Derived.Test.YtccgfmjcldifcaaDA
namespace Go.Proofs.Ytccgfmjcldifcaa.P
open Go.RowKit Go.Proofs.YtccgfmjcldifcaaW.PrintWords Go.Proofs.YtccgfmjcldifcaaW.PrintLast Go.Proofs.YtccgfmjcldifcaaW.PrintMore
attribute [local go_sem] max2_int min2_int max_two min_two max_three min_three max_four min_four
set_option linter.unusedVariables false
set_option linter.unusedSimpArgs false
theorem info_size : (Try.prog.info? 117).map (·.size) = some 1 := by kernel_rfl
set_option maxHeartbeats 8000000 in
set_option maxRecDepth 100000 in
theorem bignat_Nat_Div.calls (k : Nat) (P0_ : Nat → Prop) (A0 : Option Addr) (c0 : Nat) (l0 : List Int) (A1 : Option Addr) (c1 : Nat) (l1 : List Int) (r1 : List Int) (r2 : List Int) (w : World) (hs0 : Kd.V (Kd.int .u32) 117 w w.heap.size (fun k_ => P0_ k_) (.slice A0 l0.length c0) l0) (hr1 : Kd.C (Kd.int .u32) w A1 l1.length l1) (hc1 : l1.length ≤ c1) (h : bignat_Nat_Div.f k l0 l1 = some (r1, r2)) :
  Calls Try.prog 74 #[.slice A0 l0.length c0, .slice A1 l1.length c1] w fun e w' => ∃ v0_ v1_ : Value, e = .returned (.tuple #[v0_, v1_]) ∧ Kd.V (Kd.int .u32) 117 w' w.heap.size (fun k_ => (P0_ k_ ∨ w.heap.size ≤ k_)) v0_ r1 ∧ Kd.V (Kd.int .u32) 117 w' w.heap.size (fun k_ => (P0_ k_ ∨ w.heap.size ≤ k_)) v1_ r2 ∧ Below w.heap.size w w' := by
 have HO0 := Aside0.mk (show Kd.V (Kd.int .u32) 117 w w.heap.size (fun k_ => (P0_ k_ ∨ w.heap.size ≤ k_)) (.slice A0 l0.length c0) l0 from Kd.V_mono hs0 (fun k_ hk => .inl hk))
 have HR1 := Aside0.mk hr1
 have HC1 := Aside0.mk hc1
 clear hr1 hc1
 have HB := Aside0.mk (Below.refl w.heap.size w)
 have H : Option.bind (bignat_Nat_Cmp.f k l0 l1) _ = _ := h
 clear h
 replace H := Option.bind_eq_some_iff.mp H
 obtain ⟨t181, A30, H⟩ := H
 replace H : (if t181 < 0 then _ else _) = _ := H
 have A3 := Aside0.mk A30
 clear A30
 by_cases c4 : t181 < 0
 ·rw [if_pos c4] at H
  have c4b0 : decide (t181 < 0) = true := decide_eq_true c4
  clear c4
  simp only [Option.some.injEq, Prod.mk.injEq] at H
  obtain ⟨rfl, rfl⟩ := H
  go_enter Try.func74, Try.ntmps74
  go_wp2_with (first | (go_at_call 94; (with_reducible refine (bignat_Nat_Cmp.calls k _ _ l0 _ _ l1 t181 _ ?side1 ?side2 ?side3 ?side4 A3.out).mono ?_); (case side1 => exact cl ((Kd.V_reads' HO0.out).2.2)); (case side2 => exact (Kd.V_reads' HO0.out).2.1); (case side3 => exact cl HR1.out); (case side4 => exact HC1.out); rintro e w' ⟨rfl, ⟨nd, rfl⟩⟩; (try exact dn)))
  go_ret2
  exact ⟨_, _, er, Kd.V_mono (Kd.V_nil _ _ _ _ _) (fun k_ hk => by first | exact ⟨(.inr (hk.1)), hk.2⟩ | exact (.inr (hk))), by (with_reducible repeat (first | apply Kd.V_alloc | apply Kd.V_drewN | apply Kd.V_drew)); exact HO0.out, by first | exact bl HB | exact HB.out⟩
 ·rw [if_neg c4] at H
  have c4b0 : decide (t181 < 0) = false := decide_eq_false c4
  clear c4
  by_cases c5 : (l1.length : Int) = 1
  ·rw [if_pos c5] at H
   have c5b0 : ((l1.length : Int) == 1) = true := beq_iff_eq.mpr c5
   have c5b1 : ((l1.length : Int) != 1) = false := bne_eq_false_iff_eq.mpr c5
   clear c5
   by_cases c6 : 0 < (l1.length : Int)
   ·rw [if_pos c6] at H
    have c6b0 : decide (0 < (l1.length : Int)) = true := decide_eq_true c6
    have c6b1 : decide (0 < l1.length) = true := decide_eq_true (by omega)
    clear c6
    replace H := Option.bind_eq_some_iff.mp H
    obtain ⟨⟨t183, t186⟩, A70, H⟩ := H
    replace H : ((bignat_Of.f k (IntKind.u64.wrap (t186))).bind fun t187 => (some (t183, t187))) = some (r1, r2) := H
    have A7 := Aside0.mk A70
    clear A70
    replace H := Option.bind_eq_some_iff.mp H
    obtain ⟨t187, A80, H⟩ := H
    replace H : (some (t183, t187)) = some (r1, r2) := H
    have A8 := Aside0.mk A80
    clear A80
    simp only [Option.some.injEq, Prod.mk.injEq] at H
    obtain ⟨rfl, rfl⟩ := H
    go_enter Try.func74, Try.ntmps74
    go_wp2_with (first | (go_at_call 94; (with_reducible refine (bignat_Nat_Cmp.calls k _ _ l0 _ _ l1 t181 _ ?side1 ?side2 ?side3 ?side4 A3.out).mono ?_); (case side1 => exact cl ((Kd.V_reads' HO0.out).2.2)); (case side2 => exact (Kd.V_reads' HO0.out).2.1); (case side3 => exact cl HR1.out); (case side4 => exact HC1.out); rintro e w' ⟨rfl, ⟨nd, rfl⟩⟩; (try exact dn); have p182 : 0 ≤ (0 : Int) := (by omega); have q182 : 0 < (l1.length : Int) := dt; obtain ⟨ad182, e182, hx182_0⟩ := Kd.at_int HR1.out 0 p182 q182; cases e182; have qi182 : (0 < l1.length) = True := eq_true (by omega); (try rw [show ((0 : Int)).toNat = 0 from rfl] at hx182_0); (try rw [Addr.add_zero'] at hx182_0); replace p182 := eq_true p182; replace q182 := eq_true q182) | (go_at_call 114; (with_reducible refine (bignat_Nat_Small.calls k _ _ l0 (rd l1 0) t183 t186 _ ?side1 ?side2 A7.out).mono ?_); (case side1 => exact cl ((Kd.V_reads' HO0.out).2.2)); (case side2 => exact (Kd.V_reads' HO0.out).2.1); rintro e w9 ⟨v184, rfl, ho0, hb⟩; replace HO0 := Aside0.mk (Kd.V_below (vl HO0) hb); have HO185 := Aside0.mk (Kd.V_lower (Kd.V_mono (ok' := fun k_ => (P0_ k_ ∨ w.heap.size ≤ k_)) ho0 (fun k_ hk_ => (.inr (Nat.le_trans (below_size (by first | exact bl HB | exact HB.out)) hk_)))) (below_size (by first | exact bl HB | exact HB.out))); replace HB := hs HB hb; (try clear hb); (try clear ho0)) | (go_at_call 106; (with_reducible refine (bignat_Of.calls k (IntKind.u64.wrap (t186)) t187 _ A8.out).mono ?_); rintro e w10 ⟨v188, rfl, ho0, hb⟩; replace HO0 := Aside0.mk (Kd.V_below (vl HO0) hb); replace HO185 := Aside0.mk (Kd.V_below (vl HO185) hb); have HO189 := Aside0.mk (Kd.V_lower (Kd.V_mono (ok' := fun k_ => (P0_ k_ ∨ w.heap.size ≤ k_)) ho0 (fun k_ hk_ => (.inr (Nat.le_trans (below_size (by first | exact bl HB | exact HB.out)) hk_)))) (below_size (by first | exact bl HB | exact HB.out))); replace HB := hs HB hb; (try clear hb); (try clear ho0)))
    go_ret2
    exact ⟨_, _, er, by (with_reducible repeat (first | apply Kd.V_alloc | apply Kd.V_drewN | apply Kd.V_drew)); exact HO185.out, by (with_reducible repeat (first | apply Kd.V_alloc | apply Kd.V_drewN | apply Kd.V_drew)); exact HO189.out, by first | exact bl HB | exact HB.out⟩
   ·rw [if_neg c6] at H
    exact absurd H (by simp)
  ·rw [if_neg c5] at H
   have c5b0 : ((l1.length : Int) == 1) = false := beq_eq_false_iff_ne.mpr c5
   have c5b1 : ((l1.length : Int) != 1) = true := bne_iff_ne.mpr c5
   obtain ⟨ji11, hji11⟩ : ∃ j_ : Int, (wrap64 ((l1.length : Int) - 1)) = j_ := ⟨_, rfl⟩
   replace H : (if 0 ≤ (ji11) then (if (ji11) < (l1.length : Int) then ((bits_LeadingZeros32.f (rd l1 (ji11))).bind fun t191 => ((bignat_Nat_Shift.f k l1 (wrap64 (IntKind.u64.wrap (t191)))).bind fun t192 => (if 0 ≤ (wrap64 ((l0.length : Int) + 1)) then (if (wrap64 ((l0.length : Int) + 1) : Int).toNat ≤ 70368744177664 then ((some (List.replicate (wrap64 ((l0.length : Int) + 1) : Int).toNat 0 : List Int)).bind fun y195 => ((bignat_Nat_Shift.f k l0 (wrap64 (IntKind.u64.wrap (t191)))).bind fun t198 => ((bignat_copyTo.f y195 t198).bind fun t201 => (if 0 ≤ (wrap64 ((y195.length : Int) - (t192.length : Int))) then (if (wrap64 ((y195.length : Int) - (t192.length : Int)) : Int).toNat ≤ 70368744177664 then ((some (List.replicate (wrap64 ((y195.length : Int) - (t192.length : Int)) : Int).toNat 0 : List Int)).bind fun y202 => (bignat_Nat_Div.l0 k (IntKind.u64.wrap (t191)) t192 (t192.length : Int) t201 y202 (wrap64 ((y202.length : Int) - 1)))) else (none)) else (none))))) else (none)) else (none)))) else (none)) else (none)) = some (r1, r2) := by first | (rw [hji11] at H; exact H) | (simp only [hji11] at H ⊢; exact H)
   (try rw [hji11] at A3)
   have hji11w : (IntKind.i64.wrap ((l1.length : Int) - 1)) = ji11 := (i64_w _).trans hji11
   by_cases c12 : 0 ≤ (ji11)
   ·rw [if_pos c12] at H
    have c12b0 : decide (0 ≤ (ji11)) = true := decide_eq_true c12
    clear c12
    by_cases c13 : (ji11) < (l1.length : Int)
    ·rw [if_pos c13] at H
     have c13b0 : decide ((ji11) < (l1.length : Int)) = true := decide_eq_true c13
     clear c13
     replace H := Option.bind_eq_some_iff.mp H
     obtain ⟨t191, A140, H⟩ := H
     replace H : Option.bind (bignat_Nat_Shift.f k l1 (wrap64 (IntKind.u64.wrap (t191)))) _ = _ := H
     have A14 := Aside0.mk A140
     clear A140
     replace H := Option.bind_eq_some_iff.mp H
     obtain ⟨t192, A150, H⟩ := H
     replace H : (if 0 ≤ (wrap64 ((l0.length : Int) + 1)) then _ else _) = _ := H
     have A15 := Aside0.mk A150
     clear A150
     obtain ⟨ji16, hji16⟩ : ∃ j_ : Int, (wrap64 ((l0.length : Int) + 1)) = j_ := ⟨_, rfl⟩
     replace H : (if 0 ≤ (ji16) then (if (ji16 : Int).toNat ≤ 70368744177664 then ((some (List.replicate (ji16 : Int).toNat 0 : List Int)).bind fun y195 => ((bignat_Nat_Shift.f k l0 (wrap64 (IntKind.u64.wrap (t191)))).bind fun t198 => ((bignat_copyTo.f y195 t198).bind fun t201 => (if 0 ≤ (wrap64 ((y195.length : Int) - (t192.length : Int))) then (if (wrap64 ((y195.length : Int) - (t192.length : Int)) : Int).toNat ≤ 70368744177664 then ((some (List.replicate (wrap64 ((y195.length : Int) - (t192.length : Int)) : Int).toNat 0 : List Int)).bind fun y202 => (bignat_Nat_Div.l0 k (IntKind.u64.wrap (t191)) t192 (t192.length : Int) t201 y202 (wrap64 ((y202.length : Int) - 1)))) else (none)) else (none))))) else (none)) else (none)) = some (r1, r2) := by first | (rw [hji16] at H; exact H) | (simp only [hji16] at H ⊢; exact H)
     (try rw [hji16] at A3)
     (try rw [hji16] at A14)
     (try rw [hji16] at A15)
     have hji16w : (IntKind.i64.wrap ((l0.length : Int) + 1)) = ji16 := (i64_w _).trans hji16
     by_cases c17 : 0 ≤ (ji16)
     ·rw [if_pos c17] at H
      have c17b0 := eq_true c17
      have c17b1 : decide (0 ≤ (ji16)) = true := decide_eq_true c17
      clear c17
      by_cases c18 : (ji16 : Int).toNat ≤ 70368744177664
      ·rw [if_pos c18] at H
       have c18b0 := eq_true c18
       have c18b1 : decide ((ji16 : Int).toNat ≤ 70368744177664) = true := decide_eq_true c18
       clear c18
       obtain ⟨y195, hy195⟩ : ∃ y_ : List Int, y_ = (List.replicate (ji16 : Int).toNat 0) := ⟨_, rfl⟩
       replace H : ((bignat_Nat_Shift.f k l0 (wrap64 (IntKind.u64.wrap (t191)))).bind fun t198 => ((bignat_copyTo.f y195 t198).bind fun t201 => (if 0 ≤ (wrap64 ((y195.length : Int) - (t192.length : Int))) then (if (wrap64 ((y195.length : Int) - (t192.length : Int)) : Int).toNat ≤ 70368744177664 then ((some (List.replicate (wrap64 ((y195.length : Int) - (t192.length : Int)) : Int).toNat 0 : List Int)).bind fun y202 => (bignat_Nat_Div.l0 k (IntKind.u64.wrap (t191)) t192 (t192.length : Int) t201 y202 (wrap64 ((y202.length : Int) - 1)))) else (none)) else (none)))) = some (r1, r2) := by first | (rw [hy195]; with_reducible exact H) | (have H2_ := (Option.bind_some _ _).symm.trans H; rw [hy195]; with_reducible exact H2_) | (have H2_ := (Option.bind_some _ _).symm.trans H; with_reducible exact H2_) | with_reducible exact H | (rw [hy195]; exact H) | exact H
       have Ny195 := Aside0.mk hy195
       clear hy195
       replace H := Option.bind_eq_some_iff.mp H
       obtain ⟨t198, A190, H⟩ := H
       replace H : Option.bind (bignat_copyTo.f y195 t198) _ = _ := H
       have A19 := Aside0.mk A190
       clear A190
       replace H := Option.bind_eq_some_iff.mp H
       obtain ⟨t201, A200, H⟩ := H
       replace H : (if 0 ≤ (wrap64 ((y195.length : Int) - (t192.length : Int))) then _ else _) = _ := H
       have A20 := Aside0.mk A200
       clear A200
       obtain ⟨ji21, hji21⟩ : ∃ j_ : Int, (wrap64 ((y195.length : Int) - (t192.length : Int))) = j_ := ⟨_, rfl⟩
       replace H : (if 0 ≤ (ji21) then (if (ji21 : Int).toNat ≤ 70368744177664 then ((some (List.replicate (ji21 : Int).toNat 0 : List Int)).bind fun y202 => (bignat_Nat_Div.l0 k (IntKind.u64.wrap (t191)) t192 (t192.length : Int) t201 y202 (wrap64 ((y202.length : Int) - 1)))) else (none)) else (none)) = some (r1, r2) := by first | (rw [hji21] at H; exact H) | (simp only [hji21] at H ⊢; exact H)
       (try rw [hji21] at A3)
       (try rw [hji21] at A14)
       (try rw [hji21] at A15)
       (try rw [hji21] at A19)
       (try rw [hji21] at A20)
       have hji21w : (IntKind.i64.wrap ((y195.length : Int) - (t192.length : Int))) = ji21 := (i64_w _).trans hji21
       by_cases c22 : 0 ≤ (ji21)
       ·rw [if_pos c22] at H
        have c22b0 := eq_true c22
        have c22b1 : decide (0 ≤ (ji21)) = true := decide_eq_true c22
        clear c22
        by_cases c23 : (ji21 : Int).toNat ≤ 70368744177664
        ·rw [if_pos c23] at H
         have c23b0 := eq_true c23
         have c23b1 : decide ((ji21 : Int).toNat ≤ 70368744177664) = true := decide_eq_true c23
         clear c23
         obtain ⟨y202, hy202⟩ : ∃ y_ : List Int, y_ = (List.replicate (ji21 : Int).toNat 0) := ⟨_, rfl⟩
         replace H : (bignat_Nat_Div.l0 k (IntKind.u64.wrap (t191)) t192 (t192.length : Int) t201 y202 (wrap64 ((y202.length : Int) - 1))) = some (r1, r2) := by first | (rw [hy202]; with_reducible exact H) | (have H2_ := (Option.bind_some _ _).symm.trans H; rw [hy202]; with_reducible exact H2_) | (have H2_ := (Option.bind_some _ _).symm.trans H; with_reducible exact H2_) | with_reducible exact H | (rw [hy202]; exact H) | exact H
         have Ny202 := Aside0.mk hy202
         clear hy202
         have H' := Aside0.mk H
         clear H
         go_enter Try.func74, Try.ntmps74
         go_wp2_with (first | (go_at_call 94; (with_reducible refine (bignat_Nat_Cmp.calls k _ _ l0 _ _ l1 t181 _ ?side1 ?side2 ?side3 ?side4 A3.out).mono ?_); (case side1 => exact cl ((Kd.V_reads' HO0.out).2.2)); (case side2 => exact (Kd.V_reads' HO0.out).2.1); (case side3 => exact cl HR1.out); (case side4 => exact HC1.out); rintro e w' ⟨rfl, ⟨nd, rfl⟩⟩; (try exact dn); have p190 : 0 ≤ ((ji11) : Int) := dt; have q190 : (ji11) < (l1.length : Int) := dt; obtain ⟨ad190, e190, hx190_0⟩ := Kd.at_int HR1.out (ji11) p190 q190; cases e190; replace p190 := eq_true p190; replace q190 := eq_true q190) | (go_at_call 115; (with_reducible refine (bits_LeadingZeros32.calls (rd l1 (ji11)) t191 _ A14.out).mono ?_); rintro e w' ⟨rfl, ⟨nd, rfl⟩⟩; (try exact dn)) | (go_at_call 116; (with_reducible refine (bignat_Nat_Shift.calls k _ _ l1 (wrap64 (IntKind.u64.wrap (t191))) t192 _ ?side1 ?side2 A15.out).mono ?_); (case side1 => exact cl HR1.out); (case side2 => exact HC1.out); rintro e w24 ⟨v193, rfl, ho0, hb⟩; replace HO0 := Aside0.mk (Kd.V_below (vl HO0) hb); have HO194 := Aside0.mk (Kd.V_lower (Kd.V_mono (ok' := fun k_ => (P0_ k_ ∨ w.heap.size ≤ k_)) ho0 (fun k_ hk_ => (.inr (Nat.le_trans (below_size (by first | exact bl HB | exact HB.out)) hk_)))) (below_size (by first | exact bl HB | exact HB.out))); replace HB := hs HB hb; (try clear hb); (try clear ho0); obtain ⟨Ao25, co25, eo25⟩ := Kd.V_slice HO194.out; subst eo25) | ((with_reducible refine gate_dst (N := 54) rfl ?_); refine Kd.R_make (Kd.int .u32) _ 117 rfl (N := 54) rfl 71 _ _ rfl ji16 rfl rfl Try.underlying71 (.int .u32 0) 4 info117 rfl (by decide) (by omega) 0 (ok := fun _ => True) (okp := fun _ => True) rfl (fun _ hk => hk) trivial (dt) (Nat.le_trans (Nat.mul_le_mul_right _ (dt : ji16.toNat ≤ 70368744177664)) (by omega)) (Below.refl _ _) (Nat.le_refl _) ?_; intro v196 w26 ho27 hb hg_ hnew_; clear hg_ hnew_; (first | rw [← Ny195.out] at ho27 | (simp only [Int.reduceToNat] at ho27; rw [← Ny195.out] at ho27)); replace HO0 := Aside0.mk (Kd.V_elder' (vl HO0) (Kd.R_base ho27) hb); replace HO194 := Aside0.mk (Kd.V_elder' (vl HO194) (Kd.R_base ho27) hb); have HO197 := Aside0.mk (Kd.R_lower (Kd.R_newM (M := fun k_ => (w.heap.size ≤ k_)) ho27 (below_size (by first | exact bl HB | exact HB.out)) (fun k_ h_ => h_)) (below_size (by first | exact bl HB | exact HB.out))); replace HB := hs HB hb; clear hb ho27) | (go_at_call 116; (with_reducible refine (bignat_Nat_Shift.calls k _ _ l0 (wrap64 (IntKind.u64.wrap (t191))) t198 _ ?side1 ?side2 A19.out).mono ?_); (case side1 => exact cl ((Kd.V_reads' HO0.out).2.2)); (case side2 => exact (Kd.V_reads' HO0.out).2.1); rintro e w28 ⟨v199, rfl, ho0, hb⟩; replace HO0 := Aside0.mk (Kd.V_below (vl HO0) hb); replace HO194 := Aside0.mk (Kd.V_below (vl HO194) hb); have HO200 := Aside0.mk (Kd.V_lower (Kd.V_mono (ok' := fun k_ => (P0_ k_ ∨ w.heap.size ≤ k_) ∧ some k_ ≠ (v196 : Value).ownBlock) ho0 (fun k_ hk_ => ⟨(.inr (Nat.le_trans (below_size (by first | exact bl HB | exact HB.out)) hk_)), (Kd.fresh' (Kd.R_lt (rl HO197)) k_ hk_)⟩)) (below_size (by first | exact bl HB | exact HB.out))); replace HO197 := Aside0.mk (Kd.R_below (rl HO197) hb); replace HB := hs HB hb; (try clear hb); (try clear ho0); obtain ⟨Ao29, co29, eo29⟩ := Kd.R_slice HO197.out; subst eo29; obtain ⟨Ao30, co30, eo30⟩ := Kd.V_slice HO200.out; subst eo30) | ((with_reducible refine gate_builtin (b := .copy) rfl ?_); refine Kd.R_copy (P := Try.prog) (0 : Int) (w0 := w) w.heap.size rfl _ _ 71 71 117 rfl Try.underlying71 info_size ((.slice Ao29 y195.length co29)) y195 t198 _ _ _ _ rfl rfl HO197.out (Kd.V_reads' HO200.out).2.2 (by first | exact bl HB | exact HB.out) (below_size (by first | exact bl HB | exact HB.out)) ?_; intro w31 hy0 hb hg_; have hkp := Kept.of_grown (S := fun k_ => some k_ = ((.slice Ao29 y195.length co29) : Value).ownBlock) hg_ (Kept.refl _ _) (fun k_ e_ => .inl e_.symm); rw [Option.some.inj (show some _ = some t201 from A20.out)] at hy0; clear hg_; replace HO0 := Aside0.mk (Kd.V_mono (ok' := fun k_ => (P0_ k_ ∨ w.heap.size ≤ k_) ∧ some k_ ≠ (.slice Ao29 y195.length co29 : Value).ownBlock) (Kd.V_keptB (HO0.out) hkp (fun k_ hk_ hs_ => (hk_.2) hs_)) (fun k_ hk_ => ⟨hk_.1.1, hk_.1.2⟩)); replace HO194 := Aside0.mk (Kd.V_mono (ok' := fun k_ => (P0_ k_ ∨ w.heap.size ≤ k_) ∧ some k_ ≠ (.slice Ao29 y195.length co29 : Value).ownBlock) (Kd.V_keptB (HO194.out) hkp (fun k_ hk_ hs_ => (hk_.2) hs_)) (fun k_ hk_ => ⟨hk_.1.1, hk_.1.2⟩)); replace HO197 := Aside0.mk (Kd.R_reok rfl hy0 (fun k_ e_ => HO197.out.1 k_ e_)); replace HO200 := Aside0.mk (Kd.V_mono (ok' := fun k_ => (P0_ k_ ∨ w.heap.size ≤ k_) ∧ some k_ ≠ (.slice Ao29 y195.length co29 : Value).ownBlock) (Kd.V_keptB (HO200.out) hkp (fun k_ hk_ hs_ => (hk_.2) hs_)) (fun k_ hk_ => ⟨hk_.1.1, hk_.1.2⟩)); replace HB := Aside0.mk (hb); (try clear hb); (try clear hkp); (try clear hy0)) | ((with_reducible refine gate_dst (N := 65) rfl ?_); refine Kd.R_make (Kd.int .u32) _ 117 rfl (N := 65) rfl 71 _ _ rfl ji21 rfl rfl Try.underlying71 (.int .u32 0) 4 info117 rfl (by decide) (by omega) 0 (ok := fun _ => True) (okp := fun _ => True) rfl (fun _ hk => hk) trivial (dt) (Nat.le_trans (Nat.mul_le_mul_right _ (dt : ji21.toNat ≤ 70368744177664)) (by omega)) (Below.refl _ _) (Nat.le_refl _) ?_; intro v203 w32 ho33 hb hg_ hnew_; clear hg_ hnew_; (first | rw [← Ny202.out] at ho33 | (simp only [Int.reduceToNat] at ho33; rw [← Ny202.out] at ho33)); replace HO0 := Aside0.mk (Kd.V_elder' (vl HO0) (Kd.R_base ho33) hb); replace HO194 := Aside0.mk (Kd.V_elder' (vl HO194) (Kd.R_base ho33) hb); replace HO200 := Aside0.mk (Kd.V_elder' (vl HO200) (Kd.R_base ho33) hb); have HO204 := Aside0.mk (Kd.R_lower (Kd.R_new' (Kd.R_newM (M := fun k_ => (w.heap.size ≤ k_)) ho33 (below_size (by first | exact bl HB | exact HB.out)) (fun k_ h_ => h_)) (Kd.R_lt (rl HO197))) (below_size (by first | exact bl HB | exact HB.out))); replace HO197 := Aside0.mk (Kd.R_elder' (rl HO197) (Kd.R_base ho33) hb); replace HB := hs HB hb; clear hb ho33; obtain ⟨Ao34, co34, eo34⟩ := Kd.R_slice HO204.out; subst eo34))
         go_loopg [13] k (fun kq v13 w' => ∃ (x9_1 : List Int) (x11_1 : List Int) (x12_1 : List Int) (x13_1 : Int), v13 = .int .i64 x13_1 ∧ Aside0 (bignat_Nat_Div.l0 kq (IntKind.u64.wrap (t191)) x9_1 (t192.length : Int) x11_1 x12_1 x13_1 = some (r1, r2)) ∧ Aside0 (kq ≤ k) ∧ Aside0 (Kd.V (Kd.int .u32) 117 w' w.heap.size (fun k_ => (P0_ k_ ∨ w.heap.size ≤ k_) ∧ some k_ ≠ ((.slice Ao29 y195.length co29) : Value).ownBlock ∧ some k_ ≠ ((.slice Ao34 y202.length co34) : Value).ownBlock) (.slice Ao25 t192.length co25) x9_1) ∧ Aside0 (Kd.R (Kd.int .u32) 117 w' w.heap.size (fun k_ => (w.heap.size ≤ k_) ∧ some k_ ≠ ((.slice Ao34 y202.length co34) : Value).ownBlock) (.slice Ao29 y195.length co29) x11_1) ∧ Aside0 (Kd.R (Kd.int .u32) 117 w' w.heap.size (fun k_ => (w.heap.size ≤ k_) ∧ some k_ ≠ ((.slice Ao29 y195.length co29) : Value).ownBlock) (.slice Ao34 y202.length co34) x12_1) ∧ Aside0 (Below w.heap.size w w'))
         case atStart => exact ⟨(t192), (t201), (y202), (wrap64 ((y202.length : Int) - 1)), sv, H', ⟨Nat.le_refl _⟩, ⟨by (with_reducible repeat (first | apply Kd.V_alloc | apply Kd.V_drewN | apply Kd.V_drew)); exact Kd.V_mono HO194.out (fun _ hk => ⟨hk.1.1, ⟨hk.1.2, hk.2⟩⟩)⟩, ⟨by (with_reducible repeat (first | apply Kd.R_alloc | apply Kd.R_drewN | apply Kd.R_drew)); exact Kd.R_mono HO197.out (fun _ hk => ⟨hk.1.1, hk.2⟩)⟩, ⟨by (with_reducible repeat (first | apply Kd.R_alloc | apply Kd.R_drewN | apply Kd.R_drew)); exact Kd.R_mono HO204.out (fun _ hk => ⟨hk.1.1, hk.2⟩)⟩, ⟨by first | exact bl HB | exact HB.out⟩⟩
         case round =>
          clear H'
          try clear c1
          try clear c4b0
          try clear c5b0
          try clear c5b1
          try clear c6b0
          try clear c6b1
          try clear c12b0
          try clear c13b0
          try clear c17b0
          try clear c17b1
          try clear c18b0
          try clear c18b1
          try clear c22b0
          try clear c22b1
          try clear c23b0
          try clear c23b1
          try clear hx182_0
          try clear hx190_0
          try clear p182
          try clear p190
          try clear q182
          try clear q190
          obtain ⟨x9_1, x11_1, x12_1, x13_1, rfl, HA, HK1, HO_9, HO_11, HO_12, HB⟩ := hrel
          have hl9_1 := (Kd.V_reads' HO_9.out).1
          rw [hl9_1] at HO_9
          (try simp only [hl9_1])
          (try simp only [hl9_1] at HO_11)
          (try simp only [hl9_1] at HO_12)
          have hl11_1 := (Kd.R_reads' HO_11.out).1
          rw [hl11_1] at HO_11
          (try simp only [hl11_1])
          (try simp only [hl11_1] at HO_9)
          (try simp only [hl11_1] at HO_12)
          have hl12_1 := (Kd.R_reads' HO_12.out).1
          rw [hl12_1] at HO_12
          (try simp only [hl12_1])
          (try simp only [hl12_1] at HO_9)
          (try simp only [hl12_1] at HO_11)
          cases gk with
          | zero => exact absurd HA.out (by simp [bignat_Nat_Div.l0])
          | succ k1 =>
           have H := HA.out
           clear HA
           simp only [bignat_Nat_Div.l0] at H
           by_cases c35 : x13_1 ≥ 0
           ·rw [if_pos c35] at H
            have c35b0 : decide (0 ≤ x13_1) = true := decide_eq_true c35
            clear c35
            obtain ⟨ji36, hji36⟩ : ∃ j_ : Int, (wrap64 (x13_1 + (t192.length : Int))) = j_ := ⟨_, rfl⟩
            replace H : (if 0 ≤ (ji36) then (if (ji36) < (x11_1.length : Int) then (if 0 ≤ (wrap64 ((ji36) - 1)) then (if (wrap64 ((ji36) - 1)) < (x11_1.length : Int) then (if 0 ≤ (wrap64 ((t192.length : Int) - 1)) then (if (wrap64 ((t192.length : Int) - 1)) < (x9_1.length : Int) then (if (IntKind.u64.wrap (rd x9_1 (wrap64 ((t192.length : Int) - 1)))) = 0 then (none) else (bignat_Nat_Div.l1 k1 (IntKind.u64.wrap (t191)) x9_1 (t192.length : Int) x11_1 x12_1 x13_1 (IntKind.u64.wrap (Int.tdiv (Go.bits .or .u64 (IntKind.u64.wrap ((IntKind.u64.wrap (rd x11_1 (ji36))) * 4294967296)) (IntKind.u64.wrap (rd x11_1 (wrap64 ((ji36) - 1))))) (IntKind.u64.wrap (rd x9_1 (wrap64 ((t192.length : Int) - 1)))))) (Int.tmod (Go.bits .or .u64 (IntKind.u64.wrap ((IntKind.u64.wrap (rd x11_1 (ji36))) * 4294967296)) (IntKind.u64.wrap (rd x11_1 (wrap64 ((ji36) - 1))))) (IntKind.u64.wrap (rd x9_1 (wrap64 ((t192.length : Int) - 1))))))) else (none)) else (none)) else (none)) else (none)) else (none)) else (none)) = some (r1, r2) := by first | (rw [hji36] at H; exact H) | (simp only [hji36] at H ⊢; exact H)
            have hji36w : (IntKind.i64.wrap (x13_1 + (t192.length : Int))) = ji36 := (i64_w _).trans hji36
            have hji36z := hji36w
            (try simp only [hl9_1, hl11_1, hl12_1] at hji36z)
            by_cases c37 : 0 ≤ (ji36)
            ·rw [if_pos c37] at H
             have c37b0 : decide (0 ≤ (ji36)) = true := decide_eq_true c37
             clear c37
             by_cases c38 : (ji36) < (x11_1.length : Int)
             ·rw [if_pos c38] at H
              have c38b0 : decide ((ji36) < (x11_1.length : Int)) = true := decide_eq_true c38
              have c38b0z := c38b0
              (try simp only [hl9_1, hl11_1, hl12_1] at c38b0z)
              clear c38
              obtain ⟨ji39, hji39⟩ : ∃ j_ : Int, (wrap64 ((ji36) - 1)) = j_ := ⟨_, rfl⟩
              replace H : (if 0 ≤ (ji39) then (if (ji39) < (x11_1.length : Int) then (if 0 ≤ (wrap64 ((t192.length : Int) - 1)) then (if (wrap64 ((t192.length : Int) - 1)) < (x9_1.length : Int) then (if (IntKind.u64.wrap (rd x9_1 (wrap64 ((t192.length : Int) - 1)))) = 0 then (none) else (bignat_Nat_Div.l1 k1 (IntKind.u64.wrap (t191)) x9_1 (t192.length : Int) x11_1 x12_1 x13_1 (IntKind.u64.wrap (Int.tdiv (Go.bits .or .u64 (IntKind.u64.wrap ((IntKind.u64.wrap (rd x11_1 (ji36))) * 4294967296)) (IntKind.u64.wrap (rd x11_1 (ji39)))) (IntKind.u64.wrap (rd x9_1 (wrap64 ((t192.length : Int) - 1)))))) (Int.tmod (Go.bits .or .u64 (IntKind.u64.wrap ((IntKind.u64.wrap (rd x11_1 (ji36))) * 4294967296)) (IntKind.u64.wrap (rd x11_1 (ji39)))) (IntKind.u64.wrap (rd x9_1 (wrap64 ((t192.length : Int) - 1))))))) else (none)) else (none)) else (none)) else (none)) = some (r1, r2) := by first | (rw [hji39] at H; exact H) | (simp only [hji39] at H ⊢; exact H)
              have hji39w : (IntKind.i64.wrap ((ji36) - 1)) = ji39 := (i64_w _).trans hji39
              have hji39z := hji39w
              (try simp only [hl9_1, hl11_1, hl12_1] at hji39z)
              by_cases c40 : 0 ≤ (ji39)
              ·rw [if_pos c40] at H
               have c40b0 : decide (0 ≤ (ji39)) = true := decide_eq_true c40
               clear c40
               by_cases c41 : (ji39) < (x11_1.length : Int)
               ·rw [if_pos c41] at H
                have c41b0 : decide ((ji39) < (x11_1.length : Int)) = true := decide_eq_true c41
                have c41b0z := c41b0
                (try simp only [hl9_1, hl11_1, hl12_1] at c41b0z)
                clear c41
                obtain ⟨ji42, hji42⟩ : ∃ j_ : Int, (wrap64 ((t192.length : Int) - 1)) = j_ := ⟨_, rfl⟩
                replace H : (if 0 ≤ (ji42) then (if (ji42) < (x9_1.length : Int) then (if (IntKind.u64.wrap (rd x9_1 (ji42))) = 0 then (none) else (bignat_Nat_Div.l1 k1 (IntKind.u64.wrap (t191)) x9_1 (t192.length : Int) x11_1 x12_1 x13_1 (IntKind.u64.wrap (Int.tdiv (Go.bits .or .u64 (IntKind.u64.wrap ((IntKind.u64.wrap (rd x11_1 (ji36))) * 4294967296)) (IntKind.u64.wrap (rd x11_1 (ji39)))) (IntKind.u64.wrap (rd x9_1 (ji42))))) (Int.tmod (Go.bits .or .u64 (IntKind.u64.wrap ((IntKind.u64.wrap (rd x11_1 (ji36))) * 4294967296)) (IntKind.u64.wrap (rd x11_1 (ji39)))) (IntKind.u64.wrap (rd x9_1 (ji42)))))) else (none)) else (none)) = some (r1, r2) := by first | (rw [hji42] at H; exact H) | (simp only [hji42] at H ⊢; exact H)
                have hji42w : (IntKind.i64.wrap ((t192.length : Int) - 1)) = ji42 := (i64_w _).trans hji42
                have hji42z := hji42w
                (try simp only [hl9_1, hl11_1, hl12_1] at hji42z)
                by_cases c43 : 0 ≤ (ji42)
                ·rw [if_pos c43] at H
                 have c43b0 : decide (0 ≤ (ji42)) = true := decide_eq_true c43
                 clear c43
                 by_cases c44 : (ji42) < (x9_1.length : Int)
                 ·rw [if_pos c44] at H
                  have c44b0 : decide ((ji42) < (x9_1.length : Int)) = true := decide_eq_true c44
                  have c44b0z := c44b0
                  (try simp only [hl9_1, hl11_1, hl12_1] at c44b0z)
                  clear c44
                  by_cases c45 : (IntKind.u64.wrap (rd x9_1 (ji42))) = 0
                  ·rw [if_pos c45] at H
                   exact absurd H (by simp)
                  ·rw [if_neg c45] at H
                   have c45b0 : ((IntKind.u64.wrap (rd x9_1 (ji42))) == 0) = false := beq_eq_false_iff_ne.mpr c45
                   have c45b1 : ((IntKind.u64.wrap (rd x9_1 (ji42))) != 0) = true := bne_iff_ne.mpr c45
                   have HC46 := Aside0.mk H
                   clear H
                   have p214 : 0 ≤ ((ji36) : Int) := dt
                   have q214 : (ji36) < (x11_1.length : Int) := dt
                   obtain ⟨ad214, e214, hx214_0⟩ := Kd.at_int (Kd.R_reads' HO_11.out).2.2 (ji36) p214 q214
                   cases e214
                   replace p214 := eq_true p214
                   replace q214 := eq_true q214
                   have p215 : 0 ≤ ((ji39) : Int) := dt
                   have q215 : (ji39) < (x11_1.length : Int) := dt
                   obtain ⟨ad215, e215, hx215_0⟩ := Kd.at_int (Kd.R_reads' HO_11.out).2.2 (ji39) p215 q215
                   obtain rfl : ad214 = ad215 := (by injection e215)
                   replace p215 := eq_true p215
                   replace q215 := eq_true q215
                   have p216 : 0 ≤ ((ji42) : Int) := dt
                   have q216 : (ji42) < (x9_1.length : Int) := dt
                   obtain ⟨ad216, e216, hx216_0⟩ := Kd.at_int (Kd.V_reads' HO_9.out).2.2 (ji42) p216 q216
                   cases e216
                   replace p216 := eq_true p216
                   replace q216 := eq_true q216
                   have p217 : 0 ≤ ((ji42) : Int) := dt
                   have q217 : (ji42) < (x9_1.length : Int) := dt
                   obtain ⟨ad217, e217, hx217_0⟩ := Kd.at_int (Kd.V_reads' HO_9.out).2.2 (ji42) p217 q217
                   obtain rfl : ad216 = ad217 := (by injection e217)
                   replace p217 := eq_true p217
                   replace q217 := eq_true q217
                   go_upto_block 2 with (fail)
                   repeat (go_quiet (fail); go_upto_block 2 with (fail))
                   go_cut [15] (fun v15 wc => ∃ (kq : Nat) (x15_45 : Int), v15 = .int .u64 x15_45 ∧ Aside0 (bignat_Nat_Div.j3 kq (IntKind.u64.wrap (t191)) x9_1 (t192.length : Int) x11_1 x12_1 x13_1 x15_45 = some (r1, r2)) ∧ Aside0 (kq ≤ k1) ∧ Aside0 (Kd.V (Kd.int .u32) 117 wc w.heap.size (fun k_ => (P0_ k_ ∨ w.heap.size ≤ k_) ∧ some k_ ≠ ((.slice (some ad214) x11_1.length co29) : Value).ownBlock ∧ some k_ ≠ ((.slice Ao34 x12_1.length co34) : Value).ownBlock) (.slice (some ad216) x9_1.length co25) x9_1) ∧ Aside0 (Kd.R (Kd.int .u32) 117 wc w.heap.size (fun k_ => (w.heap.size ≤ k_) ∧ some k_ ≠ ((.slice Ao34 x12_1.length co34) : Value).ownBlock) (.slice (some ad214) x11_1.length co29) x11_1) ∧ Aside0 (Kd.R (Kd.int .u32) 117 wc w.heap.size (fun k_ => (w.heap.size ≤ k_) ∧ some k_ ≠ ((.slice (some ad214) x11_1.length co29) : Value).ownBlock) (.slice Ao34 x12_1.length co34) x12_1) ∧ Aside0 (Below w.heap.size w wc))
                   case first =>
                    have H := HC46.out
                    clear HC46
                    have H' := Aside0.mk H
                    clear H
                    go_wp2
                    repeat (go_quiet (fail); try go_wp2)
                    go_loopg [15, 16] k1 (fun kq v15 v16 w' => ∃ (x15_2 : Int) (x16_2 : Int), v15 = .int .u64 x15_2 ∧ v16 = .int .u64 x16_2 ∧ Aside0 (bignat_Nat_Div.l1 kq (IntKind.u64.wrap (t191)) x9_1 (t192.length : Int) x11_1 x12_1 x13_1 x15_2 x16_2 = some (r1, r2)) ∧ Aside0 (kq ≤ k1) ∧ Aside0 (Kd.V (Kd.int .u32) 117 w' w.heap.size (fun k_ => (P0_ k_ ∨ w.heap.size ≤ k_) ∧ some k_ ≠ ((.slice (some ad214) x11_1.length co29) : Value).ownBlock ∧ some k_ ≠ ((.slice Ao34 x12_1.length co34) : Value).ownBlock) (.slice (some ad216) x9_1.length co25) x9_1) ∧ Aside0 (Kd.R (Kd.int .u32) 117 w' w.heap.size (fun k_ => (w.heap.size ≤ k_) ∧ some k_ ≠ ((.slice Ao34 x12_1.length co34) : Value).ownBlock) (.slice (some ad214) x11_1.length co29) x11_1) ∧ Aside0 (Kd.R (Kd.int .u32) 117 w' w.heap.size (fun k_ => (w.heap.size ≤ k_) ∧ some k_ ≠ ((.slice (some ad214) x11_1.length co29) : Value).ownBlock) (.slice Ao34 x12_1.length co34) x12_1) ∧ Aside0 (Below w.heap.size w w'))
                    case atStart => exact ⟨(IntKind.u64.wrap (Int.tdiv (Go.bits .or .u64 (IntKind.u64.wrap ((IntKind.u64.wrap (rd x11_1 (ji36))) * 4294967296)) (IntKind.u64.wrap (rd x11_1 (ji39)))) (IntKind.u64.wrap (rd x9_1 (ji42))))), (Int.tmod (Go.bits .or .u64 (IntKind.u64.wrap ((IntKind.u64.wrap (rd x11_1 (ji36))) * 4294967296)) (IntKind.u64.wrap (rd x11_1 (ji39)))) (IntKind.u64.wrap (rd x9_1 (ji42)))), (by first | rfl | (simp; done) | (simp only [← hji36, ← hji39, ← hji42] <;> (first | rfl | simp)) | (simp [*]; done)), (by first | rfl | (simp; done) | (simp only [← hji36, ← hji39, ← hji42] <;> (first | rfl | simp)) | (simp [*]; done)), H', ⟨Nat.le_refl _⟩, ⟨by (try simp only [hl9_1]); (try simp only [hl11_1]); (try simp only [hl12_1]); exact vl HO_9⟩, ⟨by (try simp only [hl9_1]); (try simp only [hl11_1]); (try simp only [hl12_1]); exact rl HO_11⟩, ⟨by (try simp only [hl9_1]); (try simp only [hl11_1]); (try simp only [hl12_1]); exact rl HO_12⟩, ⟨by first | exact bl HB | exact HB.out⟩⟩
                    case round =>
                     clear H'
                     try clear c1
                     try clear c4b0
                     try clear c5b0
                     try clear c5b1
                     try clear c6b0
                     try clear c6b1
                     try clear c12b0
                     try clear c13b0
                     try clear c17b0
                     try clear c17b1
                     try clear c18b0
                     try clear c18b1
                     try clear c22b0
                     try clear c22b1
                     try clear c23b0
                     try clear c23b1
                     try clear c35b0
                     try clear c37b0
                     try clear c38b0
                     try clear c40b0
                     try clear c41b0
                     try clear c43b0
                     try clear c44b0
                     try clear c45
                     try clear c45b0
                     try clear c45b1
                     try clear hx182_0
                     try clear hx190_0
                     try clear hx214_0
                     try clear hx215_0
                     try clear hx216_0
                     try clear hx217_0
                     try clear p182
                     try clear p190
                     try clear p214
                     try clear p215
                     try clear p216
                     try clear p217
                     try clear q182
                     try clear q190
                     try clear q214
                     try clear q215
                     try clear q216
                     try clear q217
                     obtain ⟨x15_2, x16_2, rfl, rfl, HA, HK2, HO_9, HO_11, HO_12, HB⟩ := hrel
                     cases gk with
                     | zero => exact absurd HA.out (by simp [bignat_Nat_Div.l1])
                     | succ k2 =>
                      have H := HA.out
                      clear HA
                      simp only [bignat_Nat_Div.l1] at H
                      have HC47 := Aside0.mk H
                      clear H
                      go_upto_region 17 with (fail)
                      repeat (go_quiet (fail); go_upto_region 17 with (fail))
                      go_cut [129] (fun v129 wc => ∃ (kq : Nat) (x129_46 : Bool), v129 = .bool x129_46 ∧ Aside0 (bignat_Nat_Div.j2 kq (IntKind.u64.wrap (t191)) x9_1 (t192.length : Int) x11_1 x12_1 x13_1 x15_2 x16_2 x129_46 = some (r1, r2)) ∧ Aside0 (kq ≤ k2) ∧ Aside0 (Kd.V (Kd.int .u32) 117 wc w.heap.size (fun k_ => (P0_ k_ ∨ w.heap.size ≤ k_) ∧ some k_ ≠ ((.slice (some ad214) x11_1.length co29) : Value).ownBlock ∧ some k_ ≠ ((.slice Ao34 x12_1.length co34) : Value).ownBlock) (.slice (some ad216) x9_1.length co25) x9_1) ∧ Aside0 (Kd.R (Kd.int .u32) 117 wc w.heap.size (fun k_ => (w.heap.size ≤ k_) ∧ some k_ ≠ ((.slice Ao34 x12_1.length co34) : Value).ownBlock) (.slice (some ad214) x11_1.length co29) x11_1) ∧ Aside0 (Kd.R (Kd.int .u32) 117 wc w.heap.size (fun k_ => (w.heap.size ≤ k_) ∧ some k_ ≠ ((.slice (some ad214) x11_1.length co29) : Value).ownBlock) (.slice Ao34 x12_1.length co34) x12_1) ∧ Aside0 (Below w.heap.size w wc))
                      case first =>
                       have H := HC47.out
                       clear HC47
                       by_cases c48 : x15_2 ≥ 4294967296
                       ·rw [if_pos c48] at H
                        have c48b0 : decide (4294967296 ≤ x15_2) = true := decide_eq_true c48
                        clear c48
                        (first | rw [c48b0] | (simp only [i64_w, i32_w]; rw [c48b0]) | skip)
                        have H' := Aside0.mk H
                        clear H
                        go_wp2
                        repeat (go_quiet (fail); try go_wp2)
                        go_meet
                        case rel => exact ⟨_, (true), sv, (by first | exact H' | (simp only [hji11, hji16, hji21, hji36, hji39, hji42]; exact H')), ⟨by have := HK1.out; have := HK2.out; first | omega | exact Nat.le_refl _⟩, ⟨by (try simp only [hl9_1]); (try simp only [hl11_1]); (try simp only [hl12_1]); exact vl HO_9⟩, ⟨by (try simp only [hl9_1]); (try simp only [hl11_1]); (try simp only [hl12_1]); exact rl HO_11⟩, ⟨by (try simp only [hl9_1]); (try simp only [hl11_1]); (try simp only [hl12_1]); exact rl HO_12⟩, ⟨by first | exact bl HB | exact HB.out⟩⟩
                       ·rw [if_neg c48] at H
                        have c48b0 : decide (4294967296 ≤ x15_2) = false := decide_eq_false c48
                        clear c48
                        (first | rw [c48b0] | (simp only [i64_w, i32_w]; rw [c48b0]) | skip)
                        obtain ⟨ji49, hji49⟩ : ∃ j_ : Int, (wrap64 ((t192.length : Int) - 2)) = j_ := ⟨_, rfl⟩
                        replace H : (if 0 ≤ (ji49) then (if (ji49) < (x9_1.length : Int) then (if 0 ≤ (wrap64 ((wrap64 (x13_1 + (t192.length : Int))) - 2)) then (if (wrap64 ((wrap64 (x13_1 + (t192.length : Int))) - 2)) < (x11_1.length : Int) then (bignat_Nat_Div.j2 k2 (IntKind.u64.wrap (t191)) x9_1 (t192.length : Int) x11_1 x12_1 x13_1 x15_2 x16_2 (decide ((IntKind.u64.wrap (x15_2 * (IntKind.u64.wrap (rd x9_1 (ji49))))) > (Go.bits .or .u64 (IntKind.u64.wrap (x16_2 * 4294967296)) (IntKind.u64.wrap (rd x11_1 (wrap64 ((wrap64 (x13_1 + (t192.length : Int))) - 2)))))))) else (none)) else (none)) else (none)) else (none)) = some (r1, r2) := by first | (rw [hji49] at H; exact H) | (simp only [hji49] at H ⊢; exact H)
                        have hji49w : (IntKind.i64.wrap ((t192.length : Int) - 2)) = ji49 := (i64_w _).trans hji49
                        have hji49z := hji49w
                        (try simp only [hl9_1, hl11_1, hl12_1] at hji49z)
                        by_cases c50 : 0 ≤ (ji49)
                        ·rw [if_pos c50] at H
                         have c50b0 : decide (0 ≤ (ji49)) = true := decide_eq_true c50
                         clear c50
                         by_cases c51 : (ji49) < (x9_1.length : Int)
                         ·rw [if_pos c51] at H
                          have c51b0 : decide ((ji49) < (x9_1.length : Int)) = true := decide_eq_true c51
                          have c51b0z := c51b0
                          (try simp only [hl9_1, hl11_1, hl12_1] at c51b0z)
                          clear c51
                          obtain ⟨ji52, hji52⟩ : ∃ j_ : Int, (wrap64 ((wrap64 (x13_1 + (t192.length : Int))) - 2)) = j_ := ⟨_, rfl⟩
                          replace H : (if 0 ≤ (ji52) then (if (ji52) < (x11_1.length : Int) then (bignat_Nat_Div.j2 k2 (IntKind.u64.wrap (t191)) x9_1 (t192.length : Int) x11_1 x12_1 x13_1 x15_2 x16_2 (decide ((IntKind.u64.wrap (x15_2 * (IntKind.u64.wrap (rd x9_1 (ji49))))) > (Go.bits .or .u64 (IntKind.u64.wrap (x16_2 * 4294967296)) (IntKind.u64.wrap (rd x11_1 (ji52))))))) else (none)) else (none)) = some (r1, r2) := by first | (rw [hji52] at H; exact H) | (simp only [hji52] at H ⊢; exact H)
                          have hji52w : (IntKind.i64.wrap ((wrap64 (x13_1 + (t192.length : Int))) - 2)) = ji52 := (i64_w _).trans hji52
                          have hji52z := hji52w
                          (try simp only [hl9_1, hl11_1, hl12_1] at hji52z)
                          have hji52y := hji52w
                          (try simp only [hji11, hji16, hji21, hji36, hji39, hji42, hji49] at hji52y)
                          by_cases c53 : 0 ≤ (ji52)
                          ·rw [if_pos c53] at H
                           have c53b0 : decide (0 ≤ (ji52)) = true := decide_eq_true c53
                           clear c53
                           by_cases c54 : (ji52) < (x11_1.length : Int)
                           ·rw [if_pos c54] at H
                            have c54b0 : decide ((ji52) < (x11_1.length : Int)) = true := decide_eq_true c54
                            have c54b0z := c54b0
                            (try simp only [hl9_1, hl11_1, hl12_1] at c54b0z)
                            clear c54
                            have H' := Aside0.mk H
                            clear H
                            have p218 : 0 ≤ ((ji49) : Int) := dt
                            have q218 : (ji49) < (x9_1.length : Int) := dt
                            obtain ⟨ad218, e218, hx218_0⟩ := Kd.at_int (Kd.V_reads' HO_9.out).2.2 (ji49) p218 q218
                            obtain rfl : ad216 = ad218 := (by injection e218)
                            replace p218 := eq_true p218
                            replace q218 := eq_true q218
                            have p219 : 0 ≤ ((ji52) : Int) := dt
                            have q219 : (ji52) < (x11_1.length : Int) := dt
                            obtain ⟨ad219, e219, hx219_0⟩ := Kd.at_int (Kd.R_reads' HO_11.out).2.2 (ji52) p219 q219
                            obtain rfl : ad214 = ad219 := (by injection e219)
                            replace p219 := eq_true p219
                            replace q219 := eq_true q219
                            go_wp2
                            repeat (go_quiet (fail); try go_wp2)
                            go_meet
                            case rel => exact ⟨_, (decide ((IntKind.u64.wrap (x15_2 * (IntKind.u64.wrap (rd x9_1 (ji49))))) > (Go.bits .or .u64 (IntKind.u64.wrap (x16_2 * 4294967296)) (IntKind.u64.wrap (rd x11_1 (ji52)))))), (by first | rfl | (simp; done) | (simp only [← hji49, ← hji52] <;> (first | rfl | simp)) | (simp [*]; done)), (by first | exact H' | (simp only [hji11, hji16, hji21, hji36, hji39, hji42, hji49, hji52]; exact H')), ⟨by have := HK1.out; have := HK2.out; first | omega | exact Nat.le_refl _⟩, ⟨by (try simp only [hl9_1]); (try simp only [hl11_1]); (try simp only [hl12_1]); exact vl HO_9⟩, ⟨by (try simp only [hl9_1]); (try simp only [hl11_1]); (try simp only [hl12_1]); exact rl HO_11⟩, ⟨by (try simp only [hl9_1]); (try simp only [hl11_1]); (try simp only [hl12_1]); exact rl HO_12⟩, ⟨by first | exact bl HB | exact HB.out⟩⟩
                           ·rw [if_neg c54] at H
                            exact absurd H (by simp)
                          ·rw [if_neg c53] at H
                           exact absurd H (by simp)
                         ·rw [if_neg c51] at H
                          exact absurd H (by simp)
                        ·rw [if_neg c50] at H
                         exact absurd H (by simp)
                      case rest =>
                       clear HC47
                       try clear c1
                       try clear c4b0
                       try clear c5b0
                       try clear c5b1
                       try clear c6b0
                       try clear c6b1
                       try clear c12b0
                       try clear c13b0
                       try clear c17b0
                       try clear c17b1
                       try clear c18b0
                       try clear c18b1
                       try clear c22b0
                       try clear c22b1
                       try clear c23b0
                       try clear c23b1
                       try clear c35b0
                       try clear c37b0
                       try clear c38b0
                       try clear c40b0
                       try clear c41b0
                       try clear c43b0
                       try clear c44b0
                       try clear c45
                       try clear c45b0
                       try clear c45b1
                       try clear c48b0
                       try clear c50b0
                       try clear c51b0
                       try clear c53b0
                       try clear c54b0
                       try clear hx182_0
                       try clear hx190_0
                       try clear hx214_0
                       try clear hx215_0
                       try clear hx216_0
                       try clear hx217_0
                       try clear hx218_0
                       try clear hx219_0
                       try clear p182
                       try clear p190
                       try clear p214
                       try clear p215
                       try clear p216
                       try clear p217
                       try clear p218
                       try clear p219
                       try clear q182
                       try clear q190
                       try clear q214
                       try clear q215
                       try clear q216
                       try clear q217
                       try clear q218
                       try clear q219
                       obtain ⟨kq, x129_46, rfl, HA, HJ46, HO_9, HO_11, HO_12, HB⟩ := hcut
                       cases kq with
                       | zero => exact absurd HA.out (by simp [bignat_Nat_Div.j2])
                       | succ kj46 =>
                        have H := HA.out
                        clear HA
                        simp only [bignat_Nat_Div.j2] at H
                        by_cases c55 : x129_46 = true
                        ·subst c55
                         have H1 : (if 0 ≤ (wrap64 ((t192.length : Int) - 1)) then _ else _) = _ := (if_pos rfl).symm.trans H
                         clear H
                         have H := H1
                         clear H1
                         obtain ⟨ji56, hji56⟩ : ∃ j_ : Int, (wrap64 ((t192.length : Int) - 1)) = j_ := ⟨_, rfl⟩
                         replace H : (if 0 ≤ (ji56) then (if (ji56) < (x9_1.length : Int) then (if (IntKind.u64.wrap (x16_2 + (IntKind.u64.wrap (rd x9_1 (ji56))))) ≥ 4294967296 then (bignat_Nat_Div.j3 kj46 (IntKind.u64.wrap (t191)) x9_1 (t192.length : Int) x11_1 x12_1 x13_1 (IntKind.u64.wrap (x15_2 - 1))) else (bignat_Nat_Div.l1 kj46 (IntKind.u64.wrap (t191)) x9_1 (t192.length : Int) x11_1 x12_1 x13_1 (IntKind.u64.wrap (x15_2 - 1)) (IntKind.u64.wrap (x16_2 + (IntKind.u64.wrap (rd x9_1 (ji56))))))) else (none)) else (none)) = some (r1, r2) := by first | (rw [hji56] at H; exact H) | (simp only [hji56] at H ⊢; exact H)
                         have hji56w : (IntKind.i64.wrap ((t192.length : Int) - 1)) = ji56 := (i64_w _).trans hji56
                         have hji56z := hji56w
                         (try simp only [hl9_1, hl11_1, hl12_1] at hji56z)
                         (try clear hji42w)
                         (try clear hji42z)
                         (try clear hji42y)
                         by_cases c57 : 0 ≤ (ji56)
                         ·rw [if_pos c57] at H
                          have c57b0 : decide (0 ≤ (ji56)) = true := decide_eq_true c57
                          clear c57
                          by_cases c58 : (ji56) < (x9_1.length : Int)
                          ·rw [if_pos c58] at H
                           have c58b0 : decide ((ji56) < (x9_1.length : Int)) = true := decide_eq_true c58
                           have c58b0z := c58b0
                           (try simp only [hl9_1, hl11_1, hl12_1] at c58b0z)
                           clear c58
                           by_cases c59 : (IntKind.u64.wrap (x16_2 + (IntKind.u64.wrap (rd x9_1 (ji56))))) ≥ 4294967296
                           ·rw [if_pos c59] at H
                            have c59b0 : decide (4294967296 ≤ (IntKind.u64.wrap (x16_2 + (IntKind.u64.wrap (rd x9_1 (ji56)))))) = true := decide_eq_true c59
                            clear c59
                            have H' := Aside0.mk H
                            clear H
                            have p220 : 0 ≤ ((ji56) : Int) := dt
                            have q220 : (ji56) < (x9_1.length : Int) := dt
                            obtain ⟨ad220, e220, hx220_0⟩ := Kd.at_int (Kd.V_reads' HO_9.out).2.2 (ji56) p220 q220
                            obtain rfl : ad216 = ad220 := (by injection e220)
                            replace p220 := eq_true p220
                            replace q220 := eq_true q220
                            go_wp2
                            repeat (go_quiet (fail); try go_wp2)
                            go_meet
                            case rel => exact ⟨_, (IntKind.u64.wrap (x15_2 - 1)), sv, (by first | exact H' | (simp only [hji11, hji16, hji21, hji36, hji39, hji42, hji56]; exact H')), ⟨by have := HK1.out; have := HK2.out; have := HJ46.out; first | omega | exact Nat.le_refl _⟩, ⟨by (try simp only [hl9_1]); (try simp only [hl11_1]); (try simp only [hl12_1]); exact vl HO_9⟩, ⟨by (try simp only [hl9_1]); (try simp only [hl11_1]); (try simp only [hl12_1]); exact rl HO_11⟩, ⟨by (try simp only [hl9_1]); (try simp only [hl11_1]); (try simp only [hl12_1]); exact rl HO_12⟩, ⟨by first | exact bl HB | exact HB.out⟩⟩
                           ·rw [if_neg c59] at H
                            have c59b0 : decide (4294967296 ≤ (IntKind.u64.wrap (x16_2 + (IntKind.u64.wrap (rd x9_1 (ji56)))))) = false := decide_eq_false c59
                            clear c59
                            have H' := Aside0.mk H
                            clear H
                            have p220 : 0 ≤ ((ji56) : Int) := dt
                            have q220 : (ji56) < (x9_1.length : Int) := dt
                            obtain ⟨ad220, e220, hx220_0⟩ := Kd.at_int (Kd.V_reads' HO_9.out).2.2 (ji56) p220 q220
                            obtain rfl : ad216 = ad220 := (by injection e220)
                            replace p220 := eq_true p220
                            replace q220 := eq_true q220
                            go_wp2
                            repeat (go_quiet (fail); try go_wp2)
                            go_roundg kj46
                            case measure => have := HK1.out; have := HK2.out; have := HJ46.out; omega
                            case rel => exact ⟨(IntKind.u64.wrap (x15_2 - 1)), (IntKind.u64.wrap (x16_2 + (IntKind.u64.wrap (rd x9_1 (ji56))))), sv, (by first | rfl | (simp; done) | (simp only [← hji56] <;> (first | rfl | simp)) | (simp [*]; done)), (by first | exact H' | (simp only [hji11, hji16, hji21, hji36, hji39, hji42, hji56]; exact H')), ⟨by have := HK1.out; have := HK2.out; have := HJ46.out; omega⟩, ⟨by (try simp only [hl9_1]); (try simp only [hl11_1]); (try simp only [hl12_1]); exact vl HO_9⟩, ⟨by (try simp only [hl9_1]); (try simp only [hl11_1]); (try simp only [hl12_1]); exact rl HO_11⟩, ⟨by (try simp only [hl9_1]); (try simp only [hl11_1]); (try simp only [hl12_1]); exact rl HO_12⟩, ⟨by first | exact bl HB | exact HB.out⟩⟩
                          ·rw [if_neg c58] at H
                           exact absurd H (by simp)
                         ·rw [if_neg c57] at H
                          exact absurd H (by simp)
                        ·replace c55 := Bool.eq_false_iff.mpr c55
                         subst c55
                         have H1 : (bignat_Nat_Div.j3 kj46 (IntKind.u64.wrap (t191)) x9_1 (t192.length : Int) x11_1 x12_1 x13_1 x15_2) = some (r1, r2) := by rw [if_neg (show ¬ (false = true) by decide)] at H; exact H
                         clear H
                         have H := H1
                         clear H1
                         have H' := Aside0.mk H
                         clear H
                         go_wp2
                         repeat (go_quiet (fail); try go_wp2)
                         go_meet
                         case rel => exact ⟨_, (x15_2), sv, (by first | exact H' | (simp only [hji11, hji16, hji21, hji36, hji39, hji42]; exact H')), ⟨by have := HK1.out; have := HK2.out; have := HJ46.out; first | omega | exact Nat.le_refl _⟩, ⟨by (try simp only [hl9_1]); (try simp only [hl11_1]); (try simp only [hl12_1]); exact vl HO_9⟩, ⟨by (try simp only [hl9_1]); (try simp only [hl11_1]); (try simp only [hl12_1]); exact rl HO_11⟩, ⟨by (try simp only [hl9_1]); (try simp only [hl11_1]); (try simp only [hl12_1]); exact rl HO_12⟩, ⟨by first | exact bl HB | exact HB.out⟩⟩
                   case rest =>
                    clear HC46
                    try clear c1
                    try clear c4b0
                    try clear c5b0
                    try clear c5b1
                    try clear c6b0
                    try clear c6b1
                    try clear c12b0
                    try clear c13b0
                    try clear c17b0
                    try clear c17b1
                    try clear c18b0
                    try clear c18b1
                    try clear c22b0
                    try clear c22b1
                    try clear c23b0
                    try clear c23b1
                    try clear c35b0
                    try clear c37b0
                    try clear c38b0
                    try clear c40b0
                    try clear c41b0
                    try clear c43b0
                    try clear c44b0
                    try clear c45
                    try clear c45b0
                    try clear c45b1
                    try clear c48b0
                    try clear c50b0
                    try clear c51b0
                    try clear c53b0
                    try clear c54b0
                    try clear c55
                    try clear c57b0
                    try clear c58b0
                    try clear c59b0
                    try clear hx182_0
                    try clear hx190_0
                    try clear hx214_0
                    try clear hx215_0
                    try clear hx216_0
                    try clear hx217_0
                    try clear hx218_0
                    try clear hx219_0
                    try clear hx220_0
                    try clear p182
                    try clear p190
                    try clear p214
                    try clear p215
                    try clear p216
                    try clear p217
                    try clear p218
                    try clear p219
                    try clear p220
                    try clear q182
                    try clear q190
                    try clear q214
                    try clear q215
                    try clear q216
                    try clear q217
                    try clear q218
                    try clear q219
                    try clear q220
                    obtain ⟨kq, x15_45, rfl, HA, HJ45, HO_9, HO_11, HO_12, HB⟩ := hcut
                    cases kq with
                    | zero => exact absurd HA.out (by simp [bignat_Nat_Div.j3])
                    | succ kj45 =>
                     have H := HA.out
                     clear HA
                     simp only [bignat_Nat_Div.j3] at H
                     replace H := Option.bind_eq_some_iff.mp H
                     obtain ⟨⟨t221, t222⟩, A600, H⟩ := H
                     replace H : (if t221 = true then _ else _) = _ := H
                     have A60 := Aside0.mk A600
                     clear A600
                     by_cases c61 : t221 = true
                     ·subst c61
                      have H1 : Option.bind (bignat_moreAt.f kj45 t222 x9_1 x13_1 (wrap64 ((wrap64 (x13_1 + (t192.length : Int))) + 1))) _ = _ := (if_pos rfl).symm.trans H
                      clear H
                      have H := H1
                      clear H1
                      replace H := Option.bind_eq_some_iff.mp H
                      obtain ⟨t223, A620, H⟩ := H
                      replace H : (if 0 ≤ x13_1 then _ else _) = _ := H
                      have A62 := Aside0.mk A620
                      clear A620
                      by_cases c63 : 0 ≤ x13_1
                      ·rw [if_pos c63] at H
                       have c63b0 : decide (0 ≤ x13_1) = true := decide_eq_true c63
                       clear c63
                       by_cases c64 : x13_1 < (x12_1.length : Int)
                       ·rw [if_pos c64] at H
                        have c64b0 : decide (x13_1 < (x12_1.length : Int)) = true := decide_eq_true c64
                        have c64b0z := c64b0
                        (try simp only [hl9_1, hl11_1, hl12_1] at c64b0z)
                        clear c64
                        obtain ⟨y224, hy224⟩ : ∃ y_ : List Int, y_ = (x12_1.set (x13_1 : Int).toNat ((IntKind.u64.wrap (x15_45 - 1)) % 4294967296)) := ⟨_, rfl⟩
                        replace H : (bignat_Nat_Div.l0 kj45 (IntKind.u64.wrap (t191)) x9_1 (t192.length : Int) t223 y224 (wrap64 (x13_1 - 1))) = some (r1, r2) := by first | (rw [hy224]; with_reducible exact H) | (have H2_ := (Option.bind_some _ _).symm.trans H; rw [hy224]; with_reducible exact H2_) | (have H2_ := (Option.bind_some _ _).symm.trans H; with_reducible exact H2_) | with_reducible exact H | (rw [hy224]; exact H) | exact H
                        have Ny224 := Aside0.mk hy224
                        clear hy224
                        have H' := Aside0.mk H
                        clear H
                        obtain ⟨Vw_, hVw_, hcutw_⟩ := win_cut x13_1 (wrap64 ((wrap64 (x13_1 + (t192.length : Int))) + 1)) (HO_11.out) (bignat_lessAt.guard A60.out)
                        obtain ⟨jw_, hjw_⟩ : ∃ j_ : Int, (wrap64 ((ji36) + 1)) = j_ := ⟨_, rfl⟩
                        have hjww_ : (IntKind.i64.wrap ((ji36) + 1)) = jw_ := (i64_w _).trans hjw_
                        rw [hji36, hjw_] at hcutw_
                        go_wp2_with (first | (go_at_call 117; (with_reducible refine (bignat_lessAt.calls (V := Vw_) (ad := ad214) (c0 := co29) (n0 := x11_1.length) kj45 (fun k_ => some k_ = (.slice (some ad214) x11_1.length co29 : Value).ownBlock) x11_1 _ _ x9_1 x15_45 x13_1 (wrap64 ((wrap64 (x13_1 + (t192.length : Int))) + 1)) true t222 w _ hVw_ ?side1 ?side2 ?side3 ?side4 A60.out).mono ?_); (case side1 => repeat (first | (with_reducible first | exact HB.out | apply below_alloc | apply pw_below_drewN | apply below_drew1) | exact HB.out)); (case side2 => exact Kd.R_tight rfl HO_11.out); (case side3 => exact Kd.C_kept_ownV (HO_9.out) (fun k_ hk_ hs_ => (hk_.2.1) hs_)); (case side4 => exact (Kd.V_reads' HO_9.out).2.1); rintro e w66 ⟨rfl, hy0, hb, hkp⟩; replace HO_9 := Aside0.mk (Kd.V_mono (ok' := fun k_ => (P0_ k_ ∨ w.heap.size ≤ k_) ∧ some k_ ≠ (.slice (some ad214) x11_1.length co29 : Value).ownBlock ∧ some k_ ≠ (.slice Ao34 x12_1.length co34 : Value).ownBlock) (Kd.V_keptB (HO_9.out) hkp (fun k_ hk_ hs_ => (hk_.2.1) hs_)) (fun k_ hk_ => ⟨hk_.1.1, hk_.1.2.1, hk_.1.2.2⟩)); replace HO_11 := Aside0.mk (Kd.R_reok rfl hy0 (fun k_ e_ => HO_11.out.1 k_ e_)); replace HO_12 := Aside0.mk (Kd.R_mono (ok' := fun k_ => (w.heap.size ≤ k_) ∧ some k_ ≠ (.slice (some ad214) x11_1.length co29 : Value).ownBlock) (Kd.R_keptB (HO_12.out) hkp (fun k_ hk_ hs_ => (hk_.2) hs_)) (fun k_ hk_ => ⟨hk_.1.1, hk_.1.2⟩)); replace HB := Aside0.mk (hb); (try clear hb); (try clear hkp); (try clear hy0)) | (go_at_call 118; (with_reducible refine (bignat_moreAt.calls (V := Vw_) (ad := ad214) (c0 := co29) (n0 := x11_1.length) kj45 (fun k_ => some k_ = (.slice (some ad214) x11_1.length co29 : Value).ownBlock) t222 _ _ x9_1 x13_1 (wrap64 ((wrap64 (x13_1 + (t192.length : Int))) + 1)) t223 w _ hVw_ ?side1 ?side2 ?side3 ?side4 A62.out).mono ?_); (case side1 => repeat (first | (with_reducible first | exact HB.out | apply below_alloc | apply pw_below_drewN | apply below_drew1) | exact HB.out)); (case side2 => exact Kd.R_tight rfl HO_11.out); (case side3 => exact Kd.C_kept_ownV (HO_9.out) (fun k_ hk_ hs_ => (hk_.2.1) hs_)); (case side4 => exact (Kd.V_reads' HO_9.out).2.1); rintro e w67 ⟨rfl, hy0, hb, hkp⟩; replace HO_9 := Aside0.mk (Kd.V_mono (ok' := fun k_ => (P0_ k_ ∨ w.heap.size ≤ k_) ∧ some k_ ≠ (.slice (some ad214) x11_1.length co29 : Value).ownBlock ∧ some k_ ≠ (.slice Ao34 x12_1.length co34 : Value).ownBlock) (Kd.V_keptB (HO_9.out) hkp (fun k_ hk_ hs_ => (hk_.2.1) hs_)) (fun k_ hk_ => ⟨hk_.1.1, hk_.1.2.1, hk_.1.2.2⟩)); replace HO_11 := Aside0.mk (Kd.R_reok rfl hy0 (fun k_ e_ => HO_11.out.1 k_ e_)); replace HO_12 := Aside0.mk (Kd.R_mono (ok' := fun k_ => (w.heap.size ≤ k_) ∧ some k_ ≠ (.slice (some ad214) x11_1.length co29 : Value).ownBlock) (Kd.R_keptB (HO_12.out) hkp (fun k_ hk_ hs_ => (hk_.2) hs_)) (fun k_ hk_ => ⟨hk_.1.1, hk_.1.2⟩)); replace HB := Aside0.mk (hb); (try clear hb); (try clear hkp); (try clear hy0); have p65 : 0 ≤ (x13_1 : Int) := dt; have q65 : (x13_1 : Int) < ((x12_1.length : Int) : Int) := dt; obtain ⟨go65, co65, eo65, gb65, gl65, cl65, HG65⟩ := Kd.R_form HO_12.out (by omega); (first | cases eo65 | (injection eo65 with ea_ en_ ec_; (first | subst ea_ | (injection ea_ with ea_; subst ea_)); subst ec_; clear en_)); have GB65 := Aside0.mk gb65; have GG65 := Aside0.mk HG65; clear gb65 gl65 HG65; obtain ⟨hx65_0, hf65_0⟩ := Kd.R_celln 0 HO_12.out (x13_1 : Int) p65 q65; replace p65 := eq_true p65; replace q65 := eq_true q65; obtain ⟨hy68_, hz68_⟩ := Kd.R_celln 0 HO_12.out (x13_1 : Int) (dt) (dt); have HP68 := Kd.R_putg HO_12.out (x13_1 : Int) ((IntKind.u64.wrap (x15_45 - 1)) % 4294967296)) | ((with_reducible refine gate_store (t := 117) (p := 167) rfl ?_); (try (rw [drewN_self w67]; generalize hq_ : World.drewN w67 _ = w67; have n0_ := Aside0.mk (Kd.V_at hq_ HO_9.out); have n1_ := Aside0.mk (Kd.R_at hq_ HO_11.out); have n2_ := Aside0.mk (Kd.R_at hq_ HO_12.out); have n3_ := Aside0.mk (below_at hq_ HB.out); clear hq_ HO_9 HO_11 HO_12 HB; have HO_9 := n0_; have HO_11 := n1_; have HO_12 := n2_; have HB := n3_; clear n0_ n1_ n2_ n3_; (try (obtain ⟨hy68_, hz68_⟩ := Kd.R_celln 0 HO_12.out (x13_1 : Int) (dt) (dt))); (try (have HP68 := Kd.R_putg HO_12.out (x13_1 : Int) ((IntKind.u64.wrap (x15_45 - 1)) % 4294967296))))); refine store_event (t := 117) (p := 167) (v := ?vo_w69) (w1 := (w67.setCell ⟨go65, (x13_1 : Int).toNat, none⟩ (.int .u32 ((IntKind.u64.wrap (x15_45 - 1)) % 4294967296)))) ?hg ?ho ?hn ?hr ?_; (case ho => rfl); (case hg => rfl); (case hn => rfl); (case hr => first | (go_simp; done) | (go_simp; rfl)); intro w69 hw; have hg : w67.grownBy w69 (some go65) := (by rw [hw]; exact HP68.2); have hp_ : Kd.R (Kd.int .u32) 117 w69 w.heap.size (fun k_ => (w.heap.size ≤ k_) ∧ some k_ ≠ (.slice (some ad214) x11_1.length co29 : Value).ownBlock) (.slice (some ⟨go65, 0, none⟩) x12_1.length co34) y224 := (by rw [hw, Ny224.out]; exact HP68.1); clear HP68; replace HO_9 := Aside0.mk (Kd.V_afterv (v := (.slice (some ⟨go65, 0, none⟩) x12_1.length co34)) (v1 := (.slice (some ⟨go65, 0, none⟩) x12_1.length co34)) (ok := (fun k_ => (P0_ k_ ∨ w.heap.size ≤ k_) ∧ some k_ ≠ (.slice (some ad214) x11_1.length co29 : Value).ownBlock)) (by (with_reducible repeat (first | apply Kd.V_alloc | apply Kd.V_drewN | apply Kd.V_drew)); exact Kd.V_mono HO_9.out (fun _ hk => ⟨⟨hk.1, hk.2.1⟩, hk.2.2⟩)) hg (.inl rfl)); replace HO_11 := Aside0.mk (Kd.R_after (v := (.slice (some ⟨go65, 0, none⟩) x12_1.length co34)) (v1 := (.slice (some ⟨go65, 0, none⟩) x12_1.length co34)) (ok := (fun k_ => (w.heap.size ≤ k_))) (rl HO_11) hg (.inl rfl)); replace HO_12 := Aside0.mk (hp_); replace HB := Aside0.mk ((by rw [hw]; exact below_set (HB.out) GB65.out : Below w.heap.size w w69)); clear hg hw hp_))
                        (try simp only [← hl9_1, ← hl11_1, ← hl12_1])
                        go_roundg kj45
                        case measure => have := HK1.out; have := HJ45.out; omega
                        case rel => exact ⟨(x9_1), (t223), (y224), (wrap64 (x13_1 - 1)), sv, (by first | exact H' | (simp only [hji11, hji16, hji21, hji36, hji39, hji42]; exact H')), ⟨by have := HK1.out; have := HJ45.out; omega⟩, ⟨by (try simp only [hl9_1]); (try simp only [hl11_1]); (try simp only [hl12_1]); (with_reducible repeat (first | apply Kd.V_alloc | apply Kd.V_drewN | apply Kd.V_drew)); exact Kd.V_mono HO_9.out (fun _ hk => ⟨hk.1.1, ⟨hk.1.2, hk.2⟩⟩)⟩, ⟨by (try simp only [hl9_1]); (try simp only [hl11_1]); (try simp only [hl12_1]); exact rl HO_11⟩, ⟨by (try simp only [hl9_1]); (try simp only [hl11_1]); (try simp only [hl12_1]); exact rl HO_12⟩, ⟨by first | exact bl HB | exact HB.out⟩⟩
                       ·rw [if_neg c64] at H
                        exact absurd H (by simp)
                      ·rw [if_neg c63] at H
                       exact absurd H (by simp)
                     ·replace c61 := Bool.eq_false_iff.mpr c61
                      subst c61
                      have H1 : (if 0 ≤ x13_1 then _ else _) = _ := (if_neg (show ¬ (false = true) by decide)).symm.trans H
                      clear H
                      have H := H1
                      clear H1
                      by_cases c70 : 0 ≤ x13_1
                      ·rw [if_pos c70] at H
                       have c70b0 : decide (0 ≤ x13_1) = true := decide_eq_true c70
                       clear c70
                       by_cases c71 : x13_1 < (x12_1.length : Int)
                       ·rw [if_pos c71] at H
                        have c71b0 : decide (x13_1 < (x12_1.length : Int)) = true := decide_eq_true c71
                        have c71b0z := c71b0
                        (try simp only [hl9_1, hl11_1, hl12_1] at c71b0z)
                        clear c71
                        obtain ⟨y225, hy225⟩ : ∃ y_ : List Int, y_ = (x12_1.set (x13_1 : Int).toNat ((x15_45) % 4294967296)) := ⟨_, rfl⟩
                        replace H : (bignat_Nat_Div.l0 kj45 (IntKind.u64.wrap (t191)) x9_1 (t192.length : Int) t222 y225 (wrap64 (x13_1 - 1))) = some (r1, r2) := by first | (rw [hy225]; with_reducible exact H) | (have H2_ := (Option.bind_some _ _).symm.trans H; rw [hy225]; with_reducible exact H2_) | (have H2_ := (Option.bind_some _ _).symm.trans H; with_reducible exact H2_) | with_reducible exact H | (rw [hy225]; exact H) | exact H
                        have Ny225 := Aside0.mk hy225
                        clear hy225
                        have H' := Aside0.mk H
                        clear H
                        obtain ⟨Vw_, hVw_, hcutw_⟩ := win_cut x13_1 (wrap64 ((wrap64 (x13_1 + (t192.length : Int))) + 1)) (HO_11.out) (bignat_lessAt.guard A60.out)
                        obtain ⟨jw_, hjw_⟩ : ∃ j_ : Int, (wrap64 ((ji36) + 1)) = j_ := ⟨_, rfl⟩
                        have hjww_ : (IntKind.i64.wrap ((ji36) + 1)) = jw_ := (i64_w _).trans hjw_
                        rw [hji36, hjw_] at hcutw_
                        go_wp2_with (first | (go_at_call 117; (with_reducible refine (bignat_lessAt.calls (V := Vw_) (ad := ad214) (c0 := co29) (n0 := x11_1.length) kj45 (fun k_ => some k_ = (.slice (some ad214) x11_1.length co29 : Value).ownBlock) x11_1 _ _ x9_1 x15_45 x13_1 (wrap64 ((wrap64 (x13_1 + (t192.length : Int))) + 1)) false t222 w _ hVw_ ?side1 ?side2 ?side3 ?side4 A60.out).mono ?_); (case side1 => repeat (first | (with_reducible first | exact HB.out | apply below_alloc | apply pw_below_drewN | apply below_drew1) | exact HB.out)); (case side2 => exact Kd.R_tight rfl HO_11.out); (case side3 => exact Kd.C_kept_ownV (HO_9.out) (fun k_ hk_ hs_ => (hk_.2.1) hs_)); (case side4 => exact (Kd.V_reads' HO_9.out).2.1); rintro e w73 ⟨rfl, hy0, hb, hkp⟩; replace HO_9 := Aside0.mk (Kd.V_mono (ok' := fun k_ => (P0_ k_ ∨ w.heap.size ≤ k_) ∧ some k_ ≠ (.slice (some ad214) x11_1.length co29 : Value).ownBlock ∧ some k_ ≠ (.slice Ao34 x12_1.length co34 : Value).ownBlock) (Kd.V_keptB (HO_9.out) hkp (fun k_ hk_ hs_ => (hk_.2.1) hs_)) (fun k_ hk_ => ⟨hk_.1.1, hk_.1.2.1, hk_.1.2.2⟩)); replace HO_11 := Aside0.mk (Kd.R_reok rfl hy0 (fun k_ e_ => HO_11.out.1 k_ e_)); replace HO_12 := Aside0.mk (Kd.R_mono (ok' := fun k_ => (w.heap.size ≤ k_) ∧ some k_ ≠ (.slice (some ad214) x11_1.length co29 : Value).ownBlock) (Kd.R_keptB (HO_12.out) hkp (fun k_ hk_ hs_ => (hk_.2) hs_)) (fun k_ hk_ => ⟨hk_.1.1, hk_.1.2⟩)); replace HB := Aside0.mk (hb); (try clear hb); (try clear hkp); (try clear hy0); have p72 : 0 ≤ (x13_1 : Int) := dt; have q72 : (x13_1 : Int) < ((x12_1.length : Int) : Int) := dt; obtain ⟨go72, co72, eo72, gb72, gl72, cl72, HG72⟩ := Kd.R_form HO_12.out (by omega); (first | cases eo72 | (injection eo72 with ea_ en_ ec_; (first | subst ea_ | (injection ea_ with ea_; subst ea_)); subst ec_; clear en_)); have GB72 := Aside0.mk gb72; have GG72 := Aside0.mk HG72; clear gb72 gl72 HG72; obtain ⟨hx72_0, hf72_0⟩ := Kd.R_celln 0 HO_12.out (x13_1 : Int) p72 q72; replace p72 := eq_true p72; replace q72 := eq_true q72; obtain ⟨hy74_, hz74_⟩ := Kd.R_celln 0 HO_12.out (x13_1 : Int) (dt) (dt); have HP74 := Kd.R_putg HO_12.out (x13_1 : Int) ((x15_45) % 4294967296)) | ((with_reducible refine gate_store (t := 117) (p := 167) rfl ?_); (try (rw [drewN_self w73]; generalize hq_ : World.drewN w73 _ = w73; have n0_ := Aside0.mk (Kd.V_at hq_ HO_9.out); have n1_ := Aside0.mk (Kd.R_at hq_ HO_11.out); have n2_ := Aside0.mk (Kd.R_at hq_ HO_12.out); have n3_ := Aside0.mk (below_at hq_ HB.out); clear hq_ HO_9 HO_11 HO_12 HB; have HO_9 := n0_; have HO_11 := n1_; have HO_12 := n2_; have HB := n3_; clear n0_ n1_ n2_ n3_; (try (obtain ⟨hy74_, hz74_⟩ := Kd.R_celln 0 HO_12.out (x13_1 : Int) (dt) (dt))); (try (have HP74 := Kd.R_putg HO_12.out (x13_1 : Int) ((x15_45) % 4294967296))))); refine store_event (t := 117) (p := 167) (v := ?vo_w75) (w1 := (w73.setCell ⟨go72, (x13_1 : Int).toNat, none⟩ (.int .u32 ((x15_45) % 4294967296)))) ?hg ?ho ?hn ?hr ?_; (case ho => rfl); (case hg => rfl); (case hn => rfl); (case hr => first | (go_simp; done) | (go_simp; rfl)); intro w75 hw; have hg : w73.grownBy w75 (some go72) := (by rw [hw]; exact HP74.2); have hp_ : Kd.R (Kd.int .u32) 117 w75 w.heap.size (fun k_ => (w.heap.size ≤ k_) ∧ some k_ ≠ (.slice (some ad214) x11_1.length co29 : Value).ownBlock) (.slice (some ⟨go72, 0, none⟩) x12_1.length co34) y225 := (by rw [hw, Ny225.out]; exact HP74.1); clear HP74; replace HO_9 := Aside0.mk (Kd.V_afterv (v := (.slice (some ⟨go72, 0, none⟩) x12_1.length co34)) (v1 := (.slice (some ⟨go72, 0, none⟩) x12_1.length co34)) (ok := (fun k_ => (P0_ k_ ∨ w.heap.size ≤ k_) ∧ some k_ ≠ (.slice (some ad214) x11_1.length co29 : Value).ownBlock)) (by (with_reducible repeat (first | apply Kd.V_alloc | apply Kd.V_drewN | apply Kd.V_drew)); exact Kd.V_mono HO_9.out (fun _ hk => ⟨⟨hk.1, hk.2.1⟩, hk.2.2⟩)) hg (.inl rfl)); replace HO_11 := Aside0.mk (Kd.R_after (v := (.slice (some ⟨go72, 0, none⟩) x12_1.length co34)) (v1 := (.slice (some ⟨go72, 0, none⟩) x12_1.length co34)) (ok := (fun k_ => (w.heap.size ≤ k_))) (rl HO_11) hg (.inl rfl)); replace HO_12 := Aside0.mk (hp_); replace HB := Aside0.mk ((by rw [hw]; exact below_set (HB.out) GB72.out : Below w.heap.size w w75)); clear hg hw hp_))
                        (try simp only [← hl9_1, ← hl11_1, ← hl12_1])
                        go_roundg kj45
                        case measure => have := HK1.out; have := HJ45.out; omega
                        case rel => exact ⟨(x9_1), (t222), (y225), (wrap64 (x13_1 - 1)), sv, (by first | exact H' | (simp only [hji11, hji16, hji21, hji36, hji39, hji42]; exact H')), ⟨by have := HK1.out; have := HJ45.out; omega⟩, ⟨by (try simp only [hl9_1]); (try simp only [hl11_1]); (try simp only [hl12_1]); (with_reducible repeat (first | apply Kd.V_alloc | apply Kd.V_drewN | apply Kd.V_drew)); exact Kd.V_mono HO_9.out (fun _ hk => ⟨hk.1.1, ⟨hk.1.2, hk.2⟩⟩)⟩, ⟨by (try simp only [hl9_1]); (try simp only [hl11_1]); (try simp only [hl12_1]); exact rl HO_11⟩, ⟨by (try simp only [hl9_1]); (try simp only [hl11_1]); (try simp only [hl12_1]); exact rl HO_12⟩, ⟨by first | exact bl HB | exact HB.out⟩⟩
                       ·rw [if_neg c71] at H
                        exact absurd H (by simp)
                      ·rw [if_neg c70] at H
                       exact absurd H (by simp)
                 ·rw [if_neg c44] at H
                  exact absurd H (by simp)
                ·rw [if_neg c43] at H
                 exact absurd H (by simp)
               ·rw [if_neg c41] at H
                exact absurd H (by simp)
              ·rw [if_neg c40] at H
               exact absurd H (by simp)
             ·rw [if_neg c38] at H
              exact absurd H (by simp)
            ·rw [if_neg c37] at H
             exact absurd H (by simp)
           ·rw [if_neg c35] at H
            have c35b0 : decide (0 ≤ x13_1) = false := decide_eq_false c35
            clear c35
            replace H := Option.bind_eq_some_iff.mp H
            obtain ⟨t205, A760, H⟩ := H
            replace H : Option.bind (bignat_norm.f k1 x11_1) _ = _ := H
            have A76 := Aside0.mk A760
            clear A760
            replace H := Option.bind_eq_some_iff.mp H
            obtain ⟨t208, A770, H⟩ := H
            replace H : ((bignat_Nat_low.f k1 t208 (IntKind.u64.wrap (t191))).bind fun t211 => (some (t205, t211))) = some (r1, r2) := H
            have A77 := Aside0.mk A770
            clear A770
            replace H := Option.bind_eq_some_iff.mp H
            obtain ⟨t211, A780, H⟩ := H
            replace H : (some (t205, t211)) = some (r1, r2) := H
            have A78 := Aside0.mk A780
            clear A780
            simp only [Option.some.injEq, Prod.mk.injEq] at H
            obtain ⟨rfl, rfl⟩ := H
            go_wp2_with (first | (go_at_call 119; (with_reducible refine (bignat_norm.calls k1 (fun k_ => some k_ = (.slice Ao34 x12_1.length co34 : Value).ownBlock) _ _ x12_1 t205 _ ?side1 A76.out).mono ?_); (case side1 => exact Kd.R_V (Kd.R_tight rfl (HO_12.out))); rintro e w79 ⟨v206, rfl, ho0, hb⟩; replace HO_9 := Aside0.mk (Kd.V_below (vl HO_9) hb); have HO207 := Aside0.mk (Kd.V_lower (Kd.V_mono (ok' := fun k_ => (P0_ k_ ∨ w.heap.size ≤ k_) ∧ some k_ ≠ (.slice Ao29 x11_1.length co29 : Value).ownBlock) ho0 (fun k_ hk_ => ⟨Or.elim hk_ (fun hs_ => (.inr (((HO_12.out).1 k_ hs_.symm).1))) (fun hn_ => (.inr (Nat.le_trans (below_size (by first | exact bl HB | exact HB.out)) hn_))), Or.elim hk_ (fun hs_ => ((HO_12.out).1 k_ hs_.symm).2) (fun hn_ => (Kd.fresh' (Kd.R_lt (rl HO_11)) k_ hn_))⟩)) (below_size (by first | exact bl HB | exact HB.out))); replace HO_11 := Aside0.mk (Kd.R_below (rl HO_11) hb); replace HO_12 := Aside0.mk (Kd.R_below (rl HO_12) hb); replace HB := hs HB hb; (try clear hb); (try clear ho0)) | (go_at_call 119; (with_reducible refine (bignat_norm.calls k1 (fun k_ => some k_ = (.slice Ao29 x11_1.length co29 : Value).ownBlock) _ _ x11_1 t208 _ ?side1 A77.out).mono ?_); (case side1 => exact Kd.R_V (Kd.R_tight rfl (HO_11.out))); rintro e w80 ⟨v209, rfl, ho0, hb⟩; replace HO_9 := Aside0.mk (Kd.V_below (vl HO_9) hb); replace HO207 := Aside0.mk (Kd.V_below (vl HO207) hb); have HO210 := Aside0.mk (Kd.V_lower (Kd.V_mono (ok' := fun k_ => (P0_ k_ ∨ w.heap.size ≤ k_) ∧ some k_ ≠ (.slice Ao34 x12_1.length co34 : Value).ownBlock) ho0 (fun k_ hk_ => ⟨Or.elim hk_ (fun hs_ => (.inr (((HO_11.out).1 k_ hs_.symm).1))) (fun hn_ => (.inr (Nat.le_trans (below_size (by first | exact bl HB | exact HB.out)) hn_))), Or.elim hk_ (fun hs_ => ((HO_11.out).1 k_ hs_.symm).2) (fun hn_ => (Kd.fresh' (Kd.R_lt (rl HO_12)) k_ hn_))⟩)) (below_size (by first | exact bl HB | exact HB.out))); replace HO_11 := Aside0.mk (Kd.R_below (rl HO_11) hb); replace HO_12 := Aside0.mk (Kd.R_below (rl HO_12) hb); replace HB := hs HB hb; (try clear hb); (try clear ho0); obtain ⟨Ao81, co81, eo81⟩ := Kd.V_slice HO210.out; subst eo81) | (go_at_call 120; (with_reducible refine (bignat_Nat_low.calls k1 _ _ t208 (IntKind.u64.wrap (t191)) t211 _ ?side1 ?side2 A78.out).mono ?_); (case side1 => exact cl ((Kd.V_reads' HO210.out).2.2)); (case side2 => exact (Kd.V_reads' HO210.out).2.1); rintro e w82 ⟨v212, rfl, ho0, hb⟩; replace HO_9 := Aside0.mk (Kd.V_below (vl HO_9) hb); replace HO207 := Aside0.mk (Kd.V_below (vl HO207) hb); replace HO210 := Aside0.mk (Kd.V_below (vl HO210) hb); have HO213 := Aside0.mk (Kd.V_lower (Kd.V_mono (ok' := fun k_ => (P0_ k_ ∨ w.heap.size ≤ k_) ∧ some k_ ≠ (.slice Ao29 x11_1.length co29 : Value).ownBlock ∧ some k_ ≠ (.slice Ao34 x12_1.length co34 : Value).ownBlock) ho0 (fun k_ hk_ => ⟨(.inr (Nat.le_trans (below_size (by first | exact bl HB | exact HB.out)) hk_)), (Kd.fresh' (Kd.R_lt (rl HO_11)) k_ hk_), (Kd.fresh' (Kd.R_lt (rl HO_12)) k_ hk_)⟩)) (below_size (by first | exact bl HB | exact HB.out))); replace HO_11 := Aside0.mk (Kd.R_below (rl HO_11) hb); replace HO_12 := Aside0.mk (Kd.R_below (rl HO_12) hb); replace HB := hs HB hb; (try clear hb); (try clear ho0)))
            go_ret2
            exact ⟨_, _, by first | rfl | (simp [errW_none, errW_some] <;> rfl) | (simp only [← hji11, ← hji16, ← hji21]; first | rfl | (simp [errW_none, errW_some] <;> rfl)) | (simp [*, errW_none, errW_some] <;> rfl), by (with_reducible repeat (first | apply Kd.V_alloc | apply Kd.V_drewN | apply Kd.V_drew)); exact Kd.V_mono HO207.out (fun _ hk => hk.1), by (with_reducible repeat (first | apply Kd.V_alloc | apply Kd.V_drewN | apply Kd.V_drew)); exact Kd.V_mono HO213.out (fun _ hk => hk.1), by first | exact bl HB | exact HB.out⟩
        ·rw [if_neg c23] at H
         exact absurd H (by simp)
       ·rw [if_neg c22] at H
        exact absurd H (by simp)
      ·rw [if_neg c18] at H
       exact absurd H (by simp)
     ·rw [if_neg c17] at H
      exact absurd H (by simp)
    ·rw [if_neg c13] at H
     exact absurd H (by simp)
   ·rw [if_neg c12] at H
    exact absurd H (by simp)
end Go.Proofs.Ytccgfmjcldifcaa.P
