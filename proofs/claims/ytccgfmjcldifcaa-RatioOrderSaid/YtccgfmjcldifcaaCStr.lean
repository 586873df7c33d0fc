/- Walks of Go functions: what they compute; each theorem's conditions stand in it. -/
import Derived.Test.YtccgfmjcldifcaaT
import Derived.Test.YtccgfmjcldifcaaCCmp
import Derived.Test.YtccgfmjcldifcaaCSmall
import Derived.Test.YtccgfmjcldifcaaDA
namespace Go.Proofs.Ytccgfmjcldifcaa.P
open Go.RowKit Go.Proofs.YtccgfmjcldifcaaW.PrintWords Go.Proofs.YtccgfmjcldifcaaW.PrintLast Go.Proofs.YtccgfmjcldifcaaW.PrintMore
attribute [local go_sem] max2_int min2_int max_two min_two max_three min_three max_four min_four
set_option linter.unusedVariables false
set_option linter.unusedSimpArgs false
def bignat_Nat_String.T15 : Bool × List (List Nat × List Nat) := (true, [([], []), ([], []), ([], []), ([], []), ([], []), ([], []), ([4, 5], [4, 5]), ([6], [6]), ([], []), ([], []), ([8, 9], [8, 9]), ([10], [10]), ([0, 1, 0, 1, 4, 5, 6, 7, 11], [0, 1]), ([12, 7, 0, 1, 4, 5, 6, 7, 11], [7, 12]), ([2, 3, 0, 1, 2, 3, 4, 5, 6, 7, 8, 9, 10, 11, 12, 13], [2, 3]), ([14, 11, 13, 0, 1, 2, 3, 4, 5, 6, 7, 8, 9, 10, 11, 12, 13], [11, 14])])
def bignat_Nat_String.B15 : List Nat := [0, 0, 0, 0, 0, 0, 48, 112, 0, 0, 768, 1792, 4083, 8179, 16383, 32767]
theorem bignat_Nat_String.tab15 : rtab .any (opsOf Try.f75 15) = bignat_Nat_String.T15 := by kernel_rfl
theorem bignat_Nat_String.bits15 : waitsOk bignat_Nat_String.T15.2 bignat_Nat_String.B15 = true := by kernel_rfl
set_option maxHeartbeats 8000000 in
set_option maxRecDepth 100000 in
theorem bignat_Nat_String.calls (k : Nat) (P0_ : Nat → Prop) (A0 : Option Addr) (c0 : Nat) (l0 : List Int) (r : ByteArray) (w : World) (hs0 : Kd.V (Kd.int .u32) 117 w w.heap.size (fun k_ => P0_ k_) (.slice A0 l0.length c0) l0) (h : bignat_Nat_String.f k l0 = some r) :
  Calls Try.prog 75 #[.slice A0 l0.length c0] w fun e w' => e = .returned (.string r) ∧ Below w.heap.size w w' := by
 have HO0 := Aside0.mk (show Kd.V (Kd.int .u32) 117 w w.heap.size (fun k_ => (P0_ k_ ∨ w.heap.size ≤ k_)) (.slice A0 l0.length c0) l0 from Kd.V_mono hs0 (fun k_ hk => .inl hk))
 have HB := Aside0.mk (Below.refl w.heap.size w)
 have H : (if (l0.length : Int) = 0 then (some (⟨#[48]⟩ : ByteArray)) else (bignat_Nat_String.l0 k l0 ([] : List Int))) = some r := h
 clear h
 by_cases c2 : (l0.length : Int) = 0
 ·rw [if_pos c2] at H
  have c2b0 : ((l0.length : Int) == 0) = true := beq_iff_eq.mpr c2
  have c2b1 : ((l0.length : Int) != 0) = false := bne_eq_false_iff_eq.mpr c2
  clear c2
  obtain rfl := Option.some.inj H
  go_enter Try.func75, Try.ntmps75
  go_wp2
  go_ret
  exact ⟨er, by first | exact bl HB | exact HB.out⟩
 ·rw [if_neg c2] at H
  have c2b0 : ((l0.length : Int) == 0) = false := beq_eq_false_iff_ne.mpr c2
  have c2b1 : ((l0.length : Int) != 0) = true := bne_iff_ne.mpr c2
  have c2b2 : ¬ (l0 = []) := fun h_ => c2 (by rw [h_]; rfl)
  have H' := Aside0.mk H
  clear H
  go_enter Try.func75, Try.ntmps75
  go_wp2
  go_loopg [0, 3] k (fun kq v0 v3 w' => ∃ (x0_1 : List Int) (x3_1 : List Int), Aside0 (bignat_Nat_String.l0 kq x0_1 x3_1 = some r) ∧ Aside0 (kq ≤ k) ∧ Aside0 (Kd.V (Kd.int .u32) 117 w' w.heap.size (fun k_ => (P0_ k_ ∨ w.heap.size ≤ k_) ∧ some k_ ≠ (v3 : Value).ownBlock) v0 x0_1) ∧ Aside0 (Kd.R (Kd.int .u8) 5 w' w.heap.size (fun k_ => (w.heap.size ≤ k_)) v3 x3_1) ∧ Aside0 (Below w.heap.size w w'))
  case atStart => exact ⟨(l0), (([] : List Int)), H', ⟨Nat.le_refl _⟩, ⟨by (with_reducible repeat (first | apply Kd.V_alloc | apply Kd.V_drewN | apply Kd.V_drew)); exact Kd.V_mono HO0.out (fun _ hk => ⟨hk, (by simp [Value.ownBlock])⟩)⟩, ⟨by first | exact Kd.R_nil _ _ _ _ _ | exact Kd.N_nil _ _ _ _ _ | exact Kd.V_nil _ _ _ _ _ | exact Kd.Q_nil _ _ _ _ _ | exact Kd.S_nil _ _ _ _ _⟩, ⟨by first | exact bl HB | exact HB.out⟩⟩
  case round =>
   clear H'
   try clear c2b0
   try clear c2b1
   try clear c2b2
   obtain ⟨x0_1, x3_1, HA, HK1, HO_0, HO_3, HB⟩ := hrel
   cases gk with
   | zero => exact absurd HA.out (by simp [bignat_Nat_String.l0])
   | succ k1 =>
    have H := HA.out
    clear HA
    simp only [bignat_Nat_String.l0] at H
    by_cases c3 : (x0_1.length : Int) > 0
    ·rw [if_pos c3] at H
     have c3b0 : decide (0 < (x0_1.length : Int)) = true := decide_eq_true c3
     have c3b1 : decide (0 < x0_1.length) = true := decide_eq_true (by omega)
     clear c3
     replace H := Option.bind_eq_some_iff.mp H
     obtain ⟨⟨t226, t229⟩, A40, H⟩ := H
     replace H : (bignat_Nat_String.l1 k1 t226 x3_1 t229 0) = some r := H
     have A4 := Aside0.mk A40
     clear A40
     have H' := Aside0.mk H
     clear H
     obtain ⟨Ao5, co5, eo5⟩ := Kd.V_slice HO_0.out
     subst eo5
     go_wp2_with (first | ((with_reducible refine gate_callee (f := 114) rfl ?_); refine goesL_ (some 16) rfl rfl Try.func114 (by kernel_rfl) rfl #[.slice Ao5 x0_1.length co5, .int .u32 1000000000] rfl ga ?_; (with_reducible refine (bignat_Nat_Small.calls k1 _ _ x0_1 1000000000 t226 t229 _ ?side1 ?side2 A4.out).mono ?_); (case side1 => exact cl ((Kd.V_reads' HO_0.out).2.2)); (case side2 => exact (Kd.V_reads' HO_0.out).2.1); rintro e w6 ⟨v227, rfl, ho0, hb⟩; refine ⟨_, rfl, ?_⟩; replace HO_0 := Aside0.mk (Kd.V_below (vl HO_0) hb); have HO228 := Aside0.mk (Kd.V_lower (Kd.V_mono (ok' := fun k_ => (P0_ k_ ∨ w.heap.size ≤ k_) ∧ some k_ ≠ (u3 : Value).ownBlock) ho0 (fun k_ hk_ => ⟨(.inr (Nat.le_trans (below_size (by first | exact bl HB | exact HB.out)) hk_)), (Kd.fresh' (Kd.R_lt (rl HO_3)) k_ hk_)⟩)) (below_size (by first | exact bl HB | exact HB.out))); replace HO_3 := Aside0.mk (Kd.R_below (rl HO_3) hb); replace HB := hs HB hb; (try clear hb); (try clear ho0)))
     go_loopg [3, 4, 5] k1 (fun kq v3 v4 v5 w' => ∃ (x3_2 : List Int) (x4_2 : Int) (x5_2 : Int), v4 = .int .u32 x4_2 ∧ v5 = .int .i64 x5_2 ∧ Aside0 (bignat_Nat_String.l1 kq t226 x3_2 x4_2 x5_2 = some r) ∧ Aside0 (kq ≤ k1) ∧ Aside0 (Kd.V (Kd.int .u32) 117 w' w.heap.size (fun k_ => (P0_ k_ ∨ w.heap.size ≤ k_) ∧ some k_ ≠ (v3 : Value).ownBlock) v227 t226) ∧ Aside0 (Kd.R (Kd.int .u8) 5 w' w.heap.size (fun k_ => (w.heap.size ≤ k_)) v3 x3_2) ∧ Aside0 (Below w.heap.size w w'))
     case atStart => exact ⟨(x3_1), (t229), (0), sv, sv, H', ⟨Nat.le_refl _⟩, ⟨by exact vl HO228⟩, ⟨by exact rl HO_3⟩, ⟨by first | exact bl HB | exact HB.out⟩⟩
     case round =>
      clear H'
      try clear c2b0
      try clear c2b1
      try clear c2b2
      try clear c3b0
      try clear c3b1
      obtain ⟨x3_2, x4_2, x5_2, rfl, rfl, HA, HK2, HO_0, HO_3, HB⟩ := hrel
      cases gk with
      | zero => exact absurd HA.out (by simp [bignat_Nat_String.l1])
      | succ k2 =>
       have H := HA.out
       clear HA
       simp only [bignat_Nat_String.l1] at H
       by_cases c7 : x5_2 < 9
       ·rw [if_pos c7] at H
        have c7b0 : decide (x5_2 < 9) = true := decide_eq_true c7
        clear c7
        by_cases c8 : (t226.length : Int) > 0
        ·rw [if_pos c8] at H
         have c8b0 : decide (0 < (t226.length : Int)) = true := decide_eq_true c8
         have c8b1 : decide (0 < t226.length) = true := decide_eq_true (by omega)
         clear c8
         by_cases c9 : x3_2.length < 140737488355328
         ·rw [if_pos c9] at H
          have LMc9 := Aside0.mk c9
          clear c9
          obtain ⟨y230, hy230⟩ : ∃ y_ : List Int, y_ = (x3_2 ++ [(48 + (Int.tmod x4_2 10)) % 256]) := ⟨_, rfl⟩
          replace H : (bignat_Nat_String.l1 k2 t226 y230 ((Int.tdiv x4_2 10) % 4294967296) (wrap64 (x5_2 + 1))) = some r := by first | (rw [hy230]; with_reducible exact H) | (have H2_ := (Option.bind_some _ _).symm.trans H; rw [hy230]; with_reducible exact H2_) | (have H2_ := (Option.bind_some _ _).symm.trans H; with_reducible exact H2_) | with_reducible exact H | (rw [hy230]; exact H) | exact H
          have Ny230 := Aside0.mk hy230
          clear hy230
          have H' := Aside0.mk H
          clear H
          obtain ⟨Ao10, co10, eo10⟩ := Kd.V_slice HO_0.out
          subst eo10
          go_wp2_with (first | ((with_reducible refine gate_builtin (b := .append) (xs := #[.tmp 32, .tmp 37]) rfl ?_); (try (refine gate_guard (by rfl) ?_; dsimp only)); at_builtin; refine Kd.R_append (Kd.int .u8) (w0 := w) w.heap.size rfl (.tmp 32) (.tmp 37) 125 5 (.int .u8 0) 1 rfl Try.underlying125 info5 rfl (by decide) (by omega) u3 x3_2 ((48 + (Int.tmod x4_2 10)) % 256) [.int .u8 ((48 + (Int.tmod x4_2 10)) % 256)] (fun k_ => (w.heap.size ≤ k_)) (fun _ => False) rfl rfl ?aP (fun _ hk => hk.elim) ?aF ?aO ?aB ?aS ?aL ?_; (case aP => exact rfl); (case aB => exact (by first | exact bl HB | exact HB.out)); (case aF => exact (fun k_ hk => (Nat.le_trans (below_size (by first | exact bl HB | exact HB.out)) hk))); (case aO => exact (rl HO_3)); (case aS => exact (below_size (by first | exact bl HB | exact HB.out))); (case aL => have := LMc9.out; omega); intro v231 w11 ho hb hg hat; rw [← Ny230.out] at ho; have n0_ := Aside0.mk (Kd.V_afterv (ok := (fun k_ => (P0_ k_ ∨ w.heap.size ≤ k_))) (vl HO_0) hg hat); have n1_ := Aside0.mk (hb); have n2_ := Aside0.mk (ho); clear HO_0; clear HB; clear HO_3; have HO_0 := n0_; have HB := n1_; have HO232 := n2_; clear n0_ n1_ n2_; clear ho hb hg hat))
          go_roundg k2
          case measure => have := HK1.out; have := HK2.out; omega
          case rel => exact ⟨(y230), ((Int.tdiv x4_2 10) % 4294967296), (wrap64 (x5_2 + 1)), sv, sv, H', ⟨by have := HK1.out; have := HK2.out; omega⟩, ⟨by exact vl HO_0⟩, ⟨by exact rl HO232⟩, ⟨by first | exact bl HB | exact HB.out⟩⟩
         ·rw [if_neg c9] at H
          exact absurd H (by simp)
        ·rw [if_neg c8] at H
         have c8b0 : decide (0 < (t226.length : Int)) = false := decide_eq_false c8
         have c8b1 : decide (0 < t226.length) = false := decide_eq_false (by omega)
         clear c8
         by_cases c12 : x4_2 > 0
         ·rw [if_pos c12] at H
          have c12b0 : decide (0 < x4_2) = true := decide_eq_true c12
          clear c12
          by_cases c13 : x3_2.length < 140737488355328
          ·rw [if_pos c13] at H
           have LMc13 := Aside0.mk c13
           clear c13
           obtain ⟨y233, hy233⟩ : ∃ y_ : List Int, y_ = (x3_2 ++ [(48 + (Int.tmod x4_2 10)) % 256]) := ⟨_, rfl⟩
           replace H : (bignat_Nat_String.l1 k2 t226 y233 ((Int.tdiv x4_2 10) % 4294967296) (wrap64 (x5_2 + 1))) = some r := by first | (rw [hy233]; with_reducible exact H) | (have H2_ := (Option.bind_some _ _).symm.trans H; rw [hy233]; with_reducible exact H2_) | (have H2_ := (Option.bind_some _ _).symm.trans H; with_reducible exact H2_) | with_reducible exact H | (rw [hy233]; exact H) | exact H
           have Ny233 := Aside0.mk hy233
           clear hy233
           have H' := Aside0.mk H
           clear H
           obtain ⟨Ao14, co14, eo14⟩ := Kd.V_slice HO_0.out
           subst eo14
           go_wp2_with (first | ((with_reducible refine gate_builtin (b := .append) (xs := #[.tmp 32, .tmp 37]) rfl ?_); (try (refine gate_guard (by rfl) ?_; dsimp only)); at_builtin; refine Kd.R_append (Kd.int .u8) (w0 := w) w.heap.size rfl (.tmp 32) (.tmp 37) 125 5 (.int .u8 0) 1 rfl Try.underlying125 info5 rfl (by decide) (by omega) u3 x3_2 ((48 + (Int.tmod x4_2 10)) % 256) [.int .u8 ((48 + (Int.tmod x4_2 10)) % 256)] (fun k_ => (w.heap.size ≤ k_)) (fun _ => False) rfl rfl ?aP (fun _ hk => hk.elim) ?aF ?aO ?aB ?aS ?aL ?_; (case aP => exact rfl); (case aB => exact (by first | exact bl HB | exact HB.out)); (case aF => exact (fun k_ hk => (Nat.le_trans (below_size (by first | exact bl HB | exact HB.out)) hk))); (case aO => exact (rl HO_3)); (case aS => exact (below_size (by first | exact bl HB | exact HB.out))); (case aL => have := LMc13.out; omega); intro v234 w15 ho hb hg hat; rw [← Ny233.out] at ho; have n0_ := Aside0.mk (Kd.V_afterv (ok := (fun k_ => (P0_ k_ ∨ w.heap.size ≤ k_))) (vl HO_0) hg hat); have n1_ := Aside0.mk (hb); have n2_ := Aside0.mk (ho); clear HO_0; clear HB; clear HO_3; have HO_0 := n0_; have HB := n1_; have HO235 := n2_; clear n0_ n1_ n2_; clear ho hb hg hat))
           go_roundg k2
           case measure => have := HK1.out; have := HK2.out; omega
           case rel => exact ⟨(y233), ((Int.tdiv x4_2 10) % 4294967296), (wrap64 (x5_2 + 1)), sv, sv, H', ⟨by have := HK1.out; have := HK2.out; omega⟩, ⟨by exact vl HO_0⟩, ⟨by exact rl HO235⟩, ⟨by first | exact bl HB | exact HB.out⟩⟩
          ·rw [if_neg c13] at H
           exact absurd H (by simp)
         ·rw [if_neg c12] at H
          have c12b0 : decide (0 < x4_2) = false := decide_eq_false c12
          clear c12
          have H' := Aside0.mk H
          clear H
          obtain ⟨Ao16, co16, eo16⟩ := Kd.V_slice HO_0.out
          subst eo16
          go_wp2
          go_roundg k2
          case measure => have := HK1.out; have := HK2.out; omega
          case rel => exact ⟨(t226), (x3_2), H', ⟨by have := HK1.out; have := HK2.out; omega⟩, ⟨by exact vl HO_0⟩, ⟨by exact rl HO_3⟩, ⟨by first | exact bl HB | exact HB.out⟩⟩
       ·rw [if_neg c7] at H
        have c7b0 : decide (x5_2 < 9) = false := decide_eq_false c7
        clear c7
        have H' := Aside0.mk H
        clear H
        go_wp2
        go_roundg k2
        case measure => have := HK1.out; have := HK2.out; omega
        case rel => exact ⟨(t226), (x3_2), H', ⟨by have := HK1.out; have := HK2.out; omega⟩, ⟨by exact vl HO_0⟩, ⟨by exact rl HO_3⟩, ⟨by first | exact bl HB | exact HB.out⟩⟩
    ·rw [if_neg c3] at H
     have c3b0 : decide (0 < (x0_1.length : Int)) = false := decide_eq_false c3
     have c3b1 : decide (0 < x0_1.length) = false := decide_eq_false (by omega)
     clear c3
     have H' := Aside0.mk H
     clear H
     obtain ⟨Ao17, co17, eo17⟩ := Kd.V_slice HO_0.out
     subst eo17
     obtain ⟨Ao18, co18, eo18⟩ := Kd.R_slice HO_3.out
     subst eo18
     go_wp2
     go_loopg [6, 7] k1 (fun kq v6 v7 w' => ∃ (x3_2 : List Int) (x6_2 : Int) (x7_2 : Int), v6 = .int .i64 x6_2 ∧ v7 = .int .i64 x7_2 ∧ Aside0 (bignat_Nat_String.l2 kq x3_2 x6_2 x7_2 = some r) ∧ Aside0 (kq ≤ k1) ∧ Aside0 (Kd.R (Kd.int .u8) 5 w' w.heap.size (fun k_ => (w.heap.size ≤ k_)) (.slice Ao18 x3_1.length co18) x3_2) ∧ Aside0 (Below w.heap.size w w'))
     case atStart => exact ⟨(x3_1), (0), (wrap64 ((x3_1.length : Int) - 1)), sv, sv, H', ⟨Nat.le_refl _⟩, ⟨by exact rl HO_3⟩, ⟨by first | exact bl HB | exact HB.out⟩⟩
     case round =>
      clear H'
      try clear c2b0
      try clear c2b1
      try clear c2b2
      try clear c3b0
      try clear c3b1
      try clear c7b0
      try clear c8b0
      try clear c8b1
      try clear c12b0
      obtain ⟨x3_2, x6_2, x7_2, rfl, rfl, HA, HK2, HO_3, HB⟩ := hrel
      have hl3_2 := (Kd.R_reads' HO_3.out).1
      rw [hl3_2] at HO_3
      (try simp only [hl3_2])
      cases gk with
      | zero => exact absurd HA.out (by simp [bignat_Nat_String.l2])
      | succ k2 =>
       have H := HA.out
       clear HA
       simp only [bignat_Nat_String.l2] at H
       by_cases c19 : x6_2 < x7_2
       ·rw [if_pos c19] at H
        have c19b0 : decide (x6_2 < x7_2) = true := decide_eq_true c19
        clear c19
        by_cases c20 : 0 ≤ x7_2
        ·rw [if_pos c20] at H
         have c20b0 : decide (0 ≤ x7_2) = true := decide_eq_true c20
         clear c20
         by_cases c21 : x7_2 < (x3_2.length : Int)
         ·rw [if_pos c21] at H
          have c21b0 : decide (x7_2 < (x3_2.length : Int)) = true := decide_eq_true c21
          have c21b0z := c21b0
          (try simp only [hl3_2] at c21b0z)
          clear c21
          by_cases c22 : 0 ≤ x6_2
          ·rw [if_pos c22] at H
           have c22b0 : decide (0 ≤ x6_2) = true := decide_eq_true c22
           clear c22
           by_cases c23 : x6_2 < (x3_2.length : Int)
           ·rw [if_pos c23] at H
            have c23b0 : decide (x6_2 < (x3_2.length : Int)) = true := decide_eq_true c23
            have c23b0z := c23b0
            (try simp only [hl3_2] at c23b0z)
            clear c23
            obtain ⟨y238, hy238⟩ : ∃ y_ : List Int, y_ = (x3_2.set (x6_2 : Int).toNat (rd x3_2 x7_2)) := ⟨_, rfl⟩
            replace H : (bignat_Nat_String.l2 k2 (y238.set (x7_2 : Int).toNat (rd x3_2 x6_2)) (wrap64 (x6_2 + 1)) (wrap64 (x7_2 - 1))) = some r := by first | (rw [hy238]; with_reducible exact H) | (have H2_ := (Option.bind_some _ _).symm.trans H; rw [hy238]; with_reducible exact H2_) | (have H2_ := (Option.bind_some _ _).symm.trans H; with_reducible exact H2_) | with_reducible exact H | (rw [hy238]; exact H) | exact H
            have Ny238 := Aside0.mk hy238
            clear hy238
            obtain ⟨y239, hy239⟩ : ∃ y_ : List Int, y_ = (y238.set (x7_2 : Int).toNat (rd x3_2 x6_2)) := ⟨_, rfl⟩
            replace H : (bignat_Nat_String.l2 k2 y239 (wrap64 (x6_2 + 1)) (wrap64 (x7_2 - 1))) = some r := by first | (rw [hy239]; with_reducible exact H) | (have H2_ := (Option.bind_some _ _).symm.trans H; rw [hy239]; with_reducible exact H2_) | (have H2_ := (Option.bind_some _ _).symm.trans H; with_reducible exact H2_) | with_reducible exact H | (rw [hy239]; exact H) | exact H
            have Ny239 := Aside0.mk hy239
            clear hy239
            have H' := Aside0.mk H
            clear H
            try go_wp2
            replace HO_3 := Aside0.mk (Kd.R_drew HO_3.out)
            replace HB := Aside0.mk (below_drew1 HB.out)
            have p236 : 0 ≤ (x7_2 : Int) := dt
            have q236 : x7_2 < (x3_2.length : Int) := dt
            obtain ⟨ad236, e236, hx236_0⟩ := Kd.at_int (Kd.R_reads' HO_3.out).2.2 x7_2 p236 q236
            cases e236
            replace p236 := eq_true p236
            replace q236 := eq_true q236
            have p237 : 0 ≤ (x6_2 : Int) := dt
            have q237 : x6_2 < (x3_2.length : Int) := dt
            obtain ⟨ad237, e237, hx237_0⟩ := Kd.at_int (Kd.R_reads' HO_3.out).2.2 x6_2 p237 q237
            obtain rfl : ad236 = ad237 := (by injection e237)
            replace p237 := eq_true p237
            replace q237 := eq_true q237
            have p24 : 0 ≤ (x6_2 : Int) := dt
            have q24 : (x6_2 : Int) < ((x3_2.length : Int) : Int) := dt
            obtain ⟨go24, co24, eo24, gb24, gl24, cl24, HG24⟩ := Kd.R_form HO_3.out (by omega)
            (first | cases eo24 | (injection eo24 with ea_ en_ ec_; (first | subst ea_ | (injection ea_ with ea_; subst ea_)); subst ec_; clear en_))
            have GB24 := Aside0.mk gb24
            have GG24 := Aside0.mk HG24
            clear gb24 gl24 HG24
            (first | simp only [add_plain] at hx236_0 | skip)
            (first | simp only [add_plain] at hx237_0 | skip)
            obtain ⟨hx24_0, hf24_0⟩ := Kd.R_celln 0 HO_3.out (x6_2 : Int) p24 q24
            replace p24 := eq_true p24
            replace q24 := eq_true q24
            have HP27 := Kd.R_putn HO_3.out (x6_2 : Int) (rd x3_2 x7_2)
            rw [← Ny238.out] at HP27
            have HQ27 := Aside0.mk HP27
            clear HP27
            have p25 : 0 ≤ (x7_2 : Int) := dt
            have q25 : (x7_2 : Int) < ((x3_2.length : Int) : Int) := dt
            obtain ⟨hx25_0, hf25_0⟩ := Kd.R_celln 0 HQ27.out (x7_2 : Int) p25 q25
            replace p25 := eq_true p25
            replace q25 := eq_true q25
            have HP28 := Kd.R_putn HQ27.out (x7_2 : Int) (rd x3_2 x6_2)
            rw [← Ny239.out] at HP28
            have HQ28 := Aside0.mk HP28
            clear HP28
            refine start_ (n := 16) (S := fun w' => w'.cell? ⟨go24, (x7_2).toNat, none⟩ = some (.int .u8 (rd x3_2 x7_2)) ∧ w'.cell? ⟨go24, (x6_2).toNat, none⟩ = some (.int .u8 (rd x3_2 x6_2))) (ds := [13, 15]) #[false, false, false, false, false, false, false, false, false, false, false, false, false, false, false, false] (by kernel_rfl) rfl rfl ⟨hx236_0, hx237_0⟩ (fun hHeld => ?_); refine with_tabW bignat_Nat_String.tab15 bignat_Nat_String.bits15 (fun HT_ HW_ => ?_)
            generalize wr.drew = w26 at HO_3 HB GG24 HQ27 HQ28 hf24_0 hf25_0 hx236_0 hx237_0 hx24_0 hx25_0 hHeld ⊢
            refine pu (i := 0) (N := some 51) ?_
            refine pu (i := 1) (N := some 52) ?_
            refine pu (i := 2) (N := some 53) ?_
            refine pu (i := 3) (N := some 54) ?_
            refine pu (i := 4) (N := some 55) ?_
            refine pu (i := 5) (N := some 56) ?_
            refine pu (i := 6) (N := some 57) ?_
            refine pu (i := 8) (N := some 59) ?_
            refine pu (i := 9) (N := some 60) ?_
            refine pu (i := 10) (N := some 61) ?_
            refine ta (i := 7) (N := some 58) hHeld ?_
            refine ta (i := 11) (N := some 62) hHeld ?_
            refine pu (i := 12) (N := some 63) ?_
            refine last_ (i := 13) (N := none) #[true, true, true, true, true, true, true, true, true, true, true, true, true, true, false, false] rfl rfl (one_of HT_.out (by kernel_rfl)) (by decide) (fun K hK => ?_)
            refine skip_ (w1 := ?_) (by rfl) rfl ?_ ?_
            rotate_left
            ·go_simp
             rfl
            refine hK.out _ _ ?_
            clear hK K
            refine pu (i := 14) (N := some 64) ?_
            refine last_ (i := 15) (N := none) #[true, true, true, true, true, true, true, true, true, true, true, true, true, true, true, true] rfl rfl (one_of HT_.out (by kernel_rfl)) (by decide) (fun K hK => ?_)
            refine skip_ (w1 := ?_) (by rfl) rfl ?_ ?_
            rotate_left
            ·go_simp
             rfl
            refine hK.out _ _ ?_
            clear hK K
            refine done_ (done_of HT_.out (by kernel_rfl)) ?_
            try go_wp2
            (try simp only [← hl3_2])
            go_roundg k2
            case measure => have := HK1.out; have := HK2.out; omega
            case rel => exact ⟨(y239), (wrap64 (x6_2 + 1)), (wrap64 (x7_2 - 1)), sv, sv, H', ⟨by have := HK1.out; have := HK2.out; omega⟩, ⟨by (try simp only [hl3_2]); exact rl HQ28⟩, ⟨by repeat (first | (with_reducible first | exact HB.out | apply below_alloc | apply pw_below_drewN | apply below_drew1 | refine below_set ?_ GB24.out | refine below_set ?_ GB24.out) | exact HB.out)⟩⟩
           ·rw [if_neg c23] at H
            exact absurd H (by simp)
          ·rw [if_neg c22] at H
           exact absurd H (by simp)
         ·rw [if_neg c21] at H
          exact absurd H (by simp)
        ·rw [if_neg c20] at H
         exact absurd H (by simp)
       ·rw [if_neg c19] at H
        have c19b0 : decide (x6_2 < x7_2) = false := decide_eq_false c19
        clear c19
        obtain rfl := Option.some.inj H
        have hcv29 := own_string (P := Try.prog) Try.underlying125 Try.underlying5 Try.underlying9 (Kd.own_of_R HO_3.out)
        go_wp2
        go_ret
        exact ⟨er, by first | exact bl HB | exact HB.out⟩
set_option maxHeartbeats 8000000 in
set_option maxRecDepth 100000 in
theorem ratio_text.calls (k : Nat) (A0 : Option Addr) (c0 : Nat) (l0 : List Int) (r1 : ByteArray) (r2 : Int) (w : World) (hr0 : Kd.C (Kd.int .u32) w A0 l0.length l0) (hc0 : l0.length ≤ c0) (h : ratio_text.f k l0 = some (r1, r2)) :
  Calls Try.prog 95 #[.slice A0 l0.length c0] w fun e w' => e = .returned (.tuple #[.string r1, .int .i64 r2]) ∧ Below w.heap.size w w' := by
 have HR0 := Aside0.mk hr0
 have HC0 := Aside0.mk hc0
 clear hr0 hc0
 have HB := Aside0.mk (Below.refl w.heap.size w)
 have H : Option.bind (bignat_Nat_Bits.f l0) _ = _ := h
 clear h
 replace H := Option.bind_eq_some_iff.mp H
 obtain ⟨t257, A20, H⟩ := H
 replace H : (if t257 > 80000 then _ else _) = _ := H
 have A2 := Aside0.mk A20
 clear A20
 by_cases c3 : t257 > 80000
 ·rw [if_pos c3] at H
  have c3b0 : decide (80000 < t257) = true := decide_eq_true c3
  clear c3
  simp only [Option.some.injEq, Prod.mk.injEq] at H
  obtain ⟨rfl, rfl⟩ := H
  go_enter Try.func95, Try.ntmps95
  go_wp2_with (first | ((with_reducible refine gate_callee (f := 86) rfl ?_); refine goesL_ (some 6) rfl rfl Try.func86 (by kernel_rfl) rfl #[.slice A0 l0.length c0] rfl ga ?_; (with_reducible refine (bignat_Nat_Bits.calls _ _ l0 t257 _ ?side1 ?side2 A2.out).mono ?_); (case side1 => exact cl HR0.out); (case side2 => exact HC0.out); rintro e w' ⟨rfl, ⟨nd, rfl⟩⟩; refine ⟨_, rfl, ?_⟩))
  go_ret2
  exact ⟨er, by first | exact bl HB | exact HB.out⟩
 ·rw [if_neg c3] at H
  have c3b0 : decide (80000 < t257) = false := decide_eq_false c3
  clear c3
  replace H := Option.bind_eq_some_iff.mp H
  obtain ⟨t258, A40, H⟩ := H
  replace H : (if (t258.size : Int) > 20000 then (some ((⟨#[]⟩ : ByteArray), 2)) else (some (t258, 0))) = some (r1, r2) := H
  have A4 := Aside0.mk A40
  clear A40
  by_cases c5 : (t258.size : Int) > 20000
  ·rw [if_pos c5] at H
   have c5b0 : decide (20000 < (t258.size : Int)) = true := decide_eq_true c5
   have c5b1 : decide (20000 < t258.size) = true := decide_eq_true (by omega)
   clear c5
   simp only [Option.some.injEq, Prod.mk.injEq] at H
   obtain ⟨rfl, rfl⟩ := H
   go_enter Try.func95, Try.ntmps95
   go_wp2_with (first | ((with_reducible refine gate_callee (f := 86) rfl ?_); refine goesL_ (some 6) rfl rfl Try.func86 (by kernel_rfl) rfl #[.slice A0 l0.length c0] rfl ga ?_; (with_reducible refine (bignat_Nat_Bits.calls _ _ l0 t257 _ ?side1 ?side2 A2.out).mono ?_); (case side1 => exact cl HR0.out); (case side2 => exact HC0.out); rintro e w' ⟨rfl, ⟨nd, rfl⟩⟩; refine ⟨_, rfl, ?_⟩) | ((with_reducible refine gate_callee (f := 75) rfl ?_); refine goesL_ (some 9) rfl rfl Try.func75 (by kernel_rfl) rfl #[.slice A0 l0.length c0] rfl ga ?_; (with_reducible refine (bignat_Nat_String.calls k (fun k_ => k_ < w.heap.size) _ _ l0 t258 _ ?side1 A4.out).mono ?_); (case side1 => exact Kd.V_mk HC0.out (Kd.F_below (Kd.C_F (Kd.heap_int .u32) HR0.out) (by first | exact bl HB | exact HB.out))); rintro e w6 ⟨rfl, hb⟩; refine ⟨_, rfl, ?_⟩; replace HB := hs HB hb; (try clear hb)))
   go_ret2
   exact ⟨er, by first | exact bl HB | exact HB.out⟩
  ·rw [if_neg c5] at H
   have c5b0 : decide (20000 < (t258.size : Int)) = false := decide_eq_false c5
   have c5b1 : decide (20000 < t258.size) = false := decide_eq_false (by omega)
   clear c5
   simp only [Option.some.injEq, Prod.mk.injEq] at H
   obtain ⟨rfl, rfl⟩ := H
   go_enter Try.func95, Try.ntmps95
   go_wp2_with (first | ((with_reducible refine gate_callee (f := 86) rfl ?_); refine goesL_ (some 6) rfl rfl Try.func86 (by kernel_rfl) rfl #[.slice A0 l0.length c0] rfl ga ?_; (with_reducible refine (bignat_Nat_Bits.calls _ _ l0 t257 _ ?side1 ?side2 A2.out).mono ?_); (case side1 => exact cl HR0.out); (case side2 => exact HC0.out); rintro e w' ⟨rfl, ⟨nd, rfl⟩⟩; refine ⟨_, rfl, ?_⟩) | ((with_reducible refine gate_callee (f := 75) rfl ?_); refine goesL_ (some 9) rfl rfl Try.func75 (by kernel_rfl) rfl #[.slice A0 l0.length c0] rfl ga ?_; (with_reducible refine (bignat_Nat_String.calls k (fun k_ => k_ < w.heap.size) _ _ l0 t258 _ ?side1 A4.out).mono ?_); (case side1 => exact Kd.V_mk HC0.out (Kd.F_below (Kd.C_F (Kd.heap_int .u32) HR0.out) (by first | exact bl HB | exact HB.out))); rintro e w7 ⟨rfl, hb⟩; refine ⟨_, rfl, ?_⟩; replace HB := hs HB hb; (try clear hb)))
   go_ret2
   exact ⟨er, by first | exact bl HB | exact HB.out⟩
end Go.Proofs.Ytccgfmjcldifcaa.P
