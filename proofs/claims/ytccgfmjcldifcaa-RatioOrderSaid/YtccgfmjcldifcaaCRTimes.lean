/- Walks of Go functions: what they compute; each theorem's conditions stand in it. -/
import Derived.Test.YtccgfmjcldifcaaT
import Derived.Test.YtccgfmjcldifcaaCRBig
import Derived.Test.YtccgfmjcldifcaaDB
namespace Go.Proofs.Ytccgfmjcldifcaa.P
open Go.RowKit Go.Proofs.YtccgfmjcldifcaaW.PrintWords Go.Proofs.YtccgfmjcldifcaaW.PrintLast Go.Proofs.YtccgfmjcldifcaaW.PrintMore
attribute [local go_sem] max2_int min2_int max_two min_two max_three min_three max_four min_four
set_option linter.unusedVariables false
set_option linter.unusedSimpArgs false
set_option maxHeartbeats 8000000 in
set_option maxRecDepth 100000 in
theorem corporaref36_Times.calls (k : Nat) (A0 : Option Addr) (c0 : Nat) (l0 : List Int) (A1 : Option Addr) (c1 : Nat) (l1 : List Int) (r : List Int) (w : World) (hr0 : Kd.C (Kd.int .i64) w A0 l0.length l0) (hc0 : l0.length ≤ c0) (hr1 : Kd.C (Kd.int .i64) w A1 l1.length l1) (hc1 : l1.length ≤ c1) (h : corporaref36_Times.f k l0 l1 = some r) :
  Calls Try.prog 89 #[.slice A0 l0.length c0, .slice A1 l1.length c1] w fun e w' => ∃ v0_ : Value, e = .returned (v0_) ∧ Kd.V (Kd.int .i64) 3 w' w.heap.size (fun k_ => (w.heap.size ≤ k_)) v0_ r ∧ Below w.heap.size w w' := by
 have HR0 := Aside0.mk hr0
 have HC0 := Aside0.mk hc0
 clear hr0 hc0
 have HR1 := Aside0.mk hr1
 have HC1 := Aside0.mk hc1
 clear hr1 hc1
 have HB := Aside0.mk (Below.refl w.heap.size w)
 have H : (if 0 ≤ (wrap64 ((wrap64 ((l0.length : Int) + (l1.length : Int))) + 1)) then _ else _) = _ := h
 clear h
 obtain ⟨ji3, hji3⟩ : ∃ j_ : Int, (wrap64 ((wrap64 ((l0.length : Int) + (l1.length : Int))) + 1)) = j_ := ⟨_, rfl⟩
 replace H : (if 0 ≤ (ji3) then (if (ji3 : Int).toNat ≤ 35184372088832 then (corporaref36_Times.l0 k l1 (List.replicate (ji3 : Int).toNat 0) l0 (l0.length : Int) 0) else (none)) else (none)) = some r := by first | (rw [hji3] at H; exact H) | (simp only [hji3] at H ⊢; exact H)
 have hji3w : (IntKind.i64.wrap ((wrap64 ((l0.length : Int) + (l1.length : Int))) + 1)) = ji3 := (i64_w _).trans hji3
 by_cases c4 : 0 ≤ (ji3)
 ·rw [if_pos c4] at H
  have c4b0 := eq_true c4
  have c4b1 : decide (0 ≤ (ji3)) = true := decide_eq_true c4
  clear c4
  by_cases c5 : (ji3 : Int).toNat ≤ 35184372088832
  ·rw [if_pos c5] at H
   have c5b0 := eq_true c5
   have c5b1 : decide ((ji3 : Int).toNat ≤ 35184372088832) = true := decide_eq_true c5
   clear c5
   obtain ⟨y372, hy372⟩ : ∃ y_ : List Int, y_ = (List.replicate (ji3 : Int).toNat 0) := ⟨_, rfl⟩
   replace H : (corporaref36_Times.l0 k l1 y372 l0 (l0.length : Int) 0) = some r := by first | (rw [hy372]; with_reducible exact H) | (have H2_ := (Option.bind_some _ _).symm.trans H; rw [hy372]; with_reducible exact H2_) | (have H2_ := (Option.bind_some _ _).symm.trans H; with_reducible exact H2_) | with_reducible exact H | (rw [hy372]; exact H) | exact H
   have Ny372 := Aside0.mk hy372
   clear hy372
   have H' := Aside0.mk H
   clear H
   go_enter Try.func89, Try.ntmps89
   go_wp2_with (first | ((with_reducible refine gate_dst (N := 20) rfl ?_); refine Kd.R_make (Kd.int .i64) _ 3 rfl (N := 20) rfl 22 _ _ rfl ji3 rfl rfl Try.underlying22 (.int .i64 0) 8 info3 rfl (by decide) (by omega) 0 (ok := fun _ => True) (okp := fun _ => True) rfl (fun _ hk => hk) trivial (dt) (Nat.le_trans (Nat.mul_le_mul_right _ (dt : ji3.toNat ≤ 35184372088832)) (by omega)) (Below.refl _ _) (Nat.le_refl _) ?_; intro v373 w6 ho7 hb hg_ hnew_; clear hg_ hnew_; (first | rw [← Ny372.out] at ho7 | (simp only [Int.reduceToNat] at ho7; rw [← Ny372.out] at ho7)); have HO374 := Aside0.mk (Kd.R_lower (Kd.R_newM (M := fun k_ => (w.heap.size ≤ k_)) ho7 (below_size (by first | exact bl HB | exact HB.out)) (fun k_ h_ => h_)) (below_size (by first | exact bl HB | exact HB.out))); replace HB := hs HB hb; clear hb ho7))
   go_loopg [23] k (fun kq v23 w' => ∃ (x5_1 : List Int) (x23_1 : Int), v23 = .int .i64 x23_1 ∧ Aside0 (corporaref36_Times.l0 kq l1 x5_1 l0 (l0.length : Int) x23_1 = some r) ∧ Aside0 (kq ≤ k) ∧ Aside0 (Kd.R (Kd.int .i64) 3 w' w.heap.size (fun k_ => (w.heap.size ≤ k_)) v373 x5_1) ∧ Aside0 (Below w.heap.size w w'))
   case atStart => exact ⟨(y372), (0), sv, H', ⟨Nat.le_refl _⟩, ⟨by (with_reducible repeat (first | apply Kd.R_alloc | apply Kd.R_drewN | apply Kd.R_drew)); exact Kd.R_mono HO374.out (fun _ hk => hk.1)⟩, ⟨by first | exact bl HB | exact HB.out⟩⟩
   case round =>
    clear H'
    try clear c1
    try clear c4b0
    try clear c4b1
    try clear c5b0
    try clear c5b1
    obtain ⟨x5_1, x23_1, rfl, HA, HK1, HO_5, HB⟩ := hrel
    cases gk with
    | zero => exact absurd HA.out (by simp [corporaref36_Times.l0])
    | succ k1 =>
     have H := HA.out
     clear HA
     simp only [corporaref36_Times.l0] at H
     by_cases c8 : x23_1 < (l0.length : Int)
     ·rw [if_pos c8] at H
      have c8b0 : decide (x23_1 < (l0.length : Int)) = true := decide_eq_true c8
      clear c8
      by_cases c9 : 0 ≤ x23_1
      ·rw [if_pos c9] at H
       have c9b0 : decide (0 ≤ x23_1) = true := decide_eq_true c9
       clear c9
       by_cases c10 : x23_1 < (l0.length : Int)
       ·rw [if_pos c10] at H
        have c10b0 : decide (x23_1 < (l0.length : Int)) = true := decide_eq_true c10
        clear c10
        have H' := Aside0.mk H
        clear H
        have p378 : 0 ≤ (x23_1 : Int) := dt
        have q378 : x23_1 < (l0.length : Int) := dt
        obtain ⟨ad378, e378, hx378_0⟩ := Kd.at_int HR0.out x23_1 p378 q378
        cases e378
        replace hx378_0 := (HB.out.cell (World.block_lt_of_cell? w _ hx378_0)).trans hx378_0
        replace p378 := eq_true p378
        replace q378 := eq_true q378
        go_wp2
        go_loopg [8, 30] k1 (fun kq v8 v30 w' => ∃ (x5_2 : List Int) (x8_2 : Int) (x30_2 : Int), v8 = .int .i64 x8_2 ∧ v30 = .int .i64 x30_2 ∧ Aside0 (corporaref36_Times.l1 kq l1 x5_2 x23_1 (rd l0 x23_1) x8_2 l0 (l0.length : Int) x23_1 l1 (l1.length : Int) x30_2 = some r) ∧ Aside0 (kq ≤ k1) ∧ Aside0 (Kd.R (Kd.int .i64) 3 w' w.heap.size (fun k_ => (w.heap.size ≤ k_)) v373 x5_2) ∧ Aside0 (Below w.heap.size w w'))
        case atStart => exact ⟨(x5_1), (0), (0), sv, sv, H', ⟨Nat.le_refl _⟩, ⟨by exact rl HO_5⟩, ⟨by first | exact bl HB | exact HB.out⟩⟩
        case round =>
         clear H'
         try clear c1
         try clear c4b0
         try clear c4b1
         try clear c5b0
         try clear c5b1
         try clear c8b0
         try clear c9b0
         try clear c10b0
         try clear hx378_0
         try clear p378
         try clear q378
         obtain ⟨x5_2, x8_2, x30_2, rfl, rfl, HA, HK2, HO_5, HB⟩ := hrel
         cases gk with
         | zero => exact absurd HA.out (by simp [corporaref36_Times.l1])
         | succ k2 =>
          have H := HA.out
          clear HA
          simp only [corporaref36_Times.l1] at H
          by_cases c11 : x30_2 < (l1.length : Int)
          ·rw [if_pos c11] at H
           have c11b0 : decide (x30_2 < (l1.length : Int)) = true := decide_eq_true c11
           clear c11
           by_cases c12 : 0 ≤ x30_2
           ·rw [if_pos c12] at H
            have c12b0 : decide (0 ≤ x30_2) = true := decide_eq_true c12
            clear c12
            by_cases c13 : x30_2 < (l1.length : Int)
            ·rw [if_pos c13] at H
             have c13b0 : decide (x30_2 < (l1.length : Int)) = true := decide_eq_true c13
             clear c13
             obtain ⟨ji14, hji14⟩ : ∃ j_ : Int, (wrap64 (x23_1 + x30_2)) = j_ := ⟨_, rfl⟩
             replace H : (if 0 ≤ (ji14) then (if (ji14) < (x5_2.length : Int) then (corporaref36_Times.l1 k2 l1 (x5_2.set ((ji14) : Int).toNat (Int.tmod (wrap64 ((wrap64 ((rd x5_2 (ji14)) + (wrap64 ((rd l0 x23_1) * (rd l1 x30_2))))) + x8_2)) 10000)) x23_1 (rd l0 x23_1) (wrap64 (Int.tdiv (wrap64 ((wrap64 ((rd x5_2 (ji14)) + (wrap64 ((rd l0 x23_1) * (rd l1 x30_2))))) + x8_2)) 10000)) l0 (l0.length : Int) x23_1 l1 (l1.length : Int) (wrap64 (x30_2 + 1))) else (none)) else (none)) = some r := by first | (rw [hji14] at H; exact H) | (simp only [hji14] at H ⊢; exact H)
             have hji14w : (IntKind.i64.wrap (x23_1 + x30_2)) = ji14 := (i64_w _).trans hji14
             by_cases c15 : 0 ≤ (ji14)
             ·rw [if_pos c15] at H
              have c15b0 : decide (0 ≤ (ji14)) = true := decide_eq_true c15
              clear c15
              by_cases c16 : (ji14) < (x5_2.length : Int)
              ·rw [if_pos c16] at H
               have c16b0 : decide ((ji14) < (x5_2.length : Int)) = true := decide_eq_true c16
               clear c16
               obtain ⟨y381, hy381⟩ : ∃ y_ : List Int, y_ = (x5_2.set ((ji14) : Int).toNat (Int.tmod (wrap64 ((wrap64 ((rd x5_2 (ji14)) + (wrap64 ((rd l0 x23_1) * (rd l1 x30_2))))) + x8_2)) 10000)) := ⟨_, rfl⟩
               replace H : (corporaref36_Times.l1 k2 l1 y381 x23_1 (rd l0 x23_1) (wrap64 (Int.tdiv (wrap64 ((wrap64 ((rd x5_2 (ji14)) + (wrap64 ((rd l0 x23_1) * (rd l1 x30_2))))) + x8_2)) 10000)) l0 (l0.length : Int) x23_1 l1 (l1.length : Int) (wrap64 (x30_2 + 1))) = some r := by first | (rw [hy381]; with_reducible exact H) | (have H2_ := (Option.bind_some _ _).symm.trans H; rw [hy381]; with_reducible exact H2_) | (have H2_ := (Option.bind_some _ _).symm.trans H; with_reducible exact H2_) | with_reducible exact H | (rw [hy381]; exact H) | exact H
               have Ny381 := Aside0.mk hy381
               clear hy381
               have H' := Aside0.mk H
               clear H
               have p379 : 0 ≤ (x30_2 : Int) := dt
               have q379 : x30_2 < (l1.length : Int) := dt
               obtain ⟨ad379, e379, hx379_0⟩ := Kd.at_int HR1.out x30_2 p379 q379
               cases e379
               replace hx379_0 := (HB.out.cell (World.block_lt_of_cell? w _ hx379_0)).trans hx379_0
               replace p379 := eq_true p379
               replace q379 := eq_true q379
               obtain ⟨Ao18, co18, eo18⟩ := Kd.R_slice HO_5.out
               subst eo18
               have p380 : 0 ≤ ((ji14) : Int) := dt
               have q380 : (ji14) < (x5_2.length : Int) := dt
               obtain ⟨ad380, e380, hx380_0⟩ := Kd.at_int (Kd.R_reads' HO_5.out).2.2 (ji14) p380 q380
               cases e380
               replace p380 := eq_true p380
               replace q380 := eq_true q380
               have p17 : 0 ≤ ((ji14) : Int) := dt
               have q17 : ((ji14) : Int) < ((x5_2.length : Int) : Int) := dt
               obtain ⟨go17, co17, eo17, gb17, gl17, cl17, HG17⟩ := Kd.R_form HO_5.out (by omega)
               (first | cases eo17 | (injection eo17 with ea_ en_ ec_; (first | subst ea_ | (injection ea_ with ea_; subst ea_)); subst ec_; clear en_))
               have GB17 := Aside0.mk gb17
               have GG17 := Aside0.mk HG17
               clear gb17 gl17 HG17
               (first | simp only [add_plain] at hx380_0 | skip)
               obtain ⟨hx17_0, hf17_0⟩ := Kd.R_celln 0 HO_5.out ((ji14) : Int) p17 q17
               replace p17 := eq_true p17
               replace q17 := eq_true q17
               have HP19 := Kd.R_putg HO_5.out ((ji14) : Int) (Int.tmod (wrap64 ((wrap64 ((rd x5_2 (ji14)) + (wrap64 ((rd l0 x23_1) * (rd l1 x30_2))))) + x8_2)) 10000)
               go_wp2_with (first | ((with_reducible refine gate_store (t := 3) (p := 55) rfl ?_); refine store_event (t := 3) (p := 55) (v := ?vo_w20) (w1 := (wr.setCell ⟨go17, ((ji14) : Int).toNat, none⟩ (.int .i64 (Int.tmod (wrap64 ((wrap64 ((rd x5_2 (ji14)) + (wrap64 ((rd l0 x23_1) * (rd l1 x30_2))))) + x8_2)) 10000)))) ?hg ?ho ?hn ?hr ?_; (case ho => rfl); (case hg => rfl); (case hn => rfl); (case hr => first | (go_simp; done) | (go_simp; rfl)); intro w20 hw; have hg : wr.grownBy w20 (some go17) := (by rw [hw]; exact HP19.2); have hp_ : Kd.R (Kd.int .i64) 3 w20 w.heap.size (fun k_ => (w.heap.size ≤ k_)) (.slice (some ⟨go17, 0, none⟩) x5_2.length co18) y381 := (by rw [hw, Ny381.out]; exact HP19.1); clear HP19; replace HO_5 := Aside0.mk (hp_); replace HB := Aside0.mk ((by rw [hw]; exact below_set (HB.out) GB17.out : Below w.heap.size w w20)); clear hg hw hp_))
               go_roundg k2
               case measure => have := HK1.out; have := HK2.out; omega
               case rel => exact ⟨(y381), (wrap64 (Int.tdiv (wrap64 ((wrap64 ((rd x5_2 (ji14)) + (wrap64 ((rd l0 x23_1) * (rd l1 x30_2))))) + x8_2)) 10000)), (wrap64 (x30_2 + 1)), (by first | rfl | (simp; done) | (simp only [← hji14] <;> (first | rfl | simp)) | (simp [*]; done)), sv, (by first | exact H' | (simp only [hji3, hji14]; exact H')), ⟨by have := HK1.out; have := HK2.out; omega⟩, ⟨by exact rl HO_5⟩, ⟨by first | exact bl HB | exact HB.out⟩⟩
              ·rw [if_neg c16] at H
               exact absurd H (by simp)
             ·rw [if_neg c15] at H
              exact absurd H (by simp)
            ·rw [if_neg c13] at H
             exact absurd H (by simp)
           ·rw [if_neg c12] at H
            exact absurd H (by simp)
          ·rw [if_neg c11] at H
           have c11b0 : decide (x30_2 < (l1.length : Int)) = false := decide_eq_false c11
           clear c11
           have H' := Aside0.mk H
           clear H
           go_wp2
           go_loopg [8, 12] k2 (fun kq v8 v12 w' => ∃ (x5_3 : List Int) (x8_3 : Int) (x12_3 : Int), v8 = .int .i64 x8_3 ∧ v12 = .int .i64 x12_3 ∧ Aside0 (corporaref36_Times.l2 kq l1 x5_3 x8_3 x12_3 l0 (l0.length : Int) x23_1 = some r) ∧ Aside0 (kq ≤ k2) ∧ Aside0 (Kd.R (Kd.int .i64) 3 w' w.heap.size (fun k_ => (w.heap.size ≤ k_)) v373 x5_3) ∧ Aside0 (Below w.heap.size w w'))
           case atStart => exact ⟨(x5_2), (x8_2), (wrap64 (x23_1 + (l1.length : Int))), sv, sv, H', ⟨Nat.le_refl _⟩, ⟨by exact rl HO_5⟩, ⟨by first | exact bl HB | exact HB.out⟩⟩
           case round =>
            clear H'
            try clear c1
            try clear c4b0
            try clear c4b1
            try clear c5b0
            try clear c5b1
            try clear c8b0
            try clear c9b0
            try clear c10b0
            try clear c11b0
            try clear c12b0
            try clear c13b0
            try clear c15b0
            try clear c16b0
            try clear p17
            try clear q17
            try clear hx17_0
            try clear hx378_0
            try clear hx379_0
            try clear hx380_0
            try clear p17
            try clear p378
            try clear p379
            try clear p380
            try clear q17
            try clear q378
            try clear q379
            try clear q380
            obtain ⟨x5_3, x8_3, x12_3, rfl, rfl, HA, HK3, HO_5, HB⟩ := hrel
            cases gk with
            | zero => exact absurd HA.out (by simp [corporaref36_Times.l2])
            | succ k3 =>
             have H := HA.out
             clear HA
             simp only [corporaref36_Times.l2] at H
             by_cases c21 : x8_3 > 0
             ·rw [if_pos c21] at H
              have c21b0 : decide (0 < x8_3) = true := decide_eq_true c21
              clear c21
              by_cases c22 : 0 ≤ x12_3
              ·rw [if_pos c22] at H
               have c22b0 : decide (0 ≤ x12_3) = true := decide_eq_true c22
               clear c22
               by_cases c23 : x12_3 < (x5_3.length : Int)
               ·rw [if_pos c23] at H
                have c23b0 : decide (x12_3 < (x5_3.length : Int)) = true := decide_eq_true c23
                clear c23
                obtain ⟨y383, hy383⟩ : ∃ y_ : List Int, y_ = (x5_3.set (x12_3 : Int).toNat (Int.tmod (wrap64 ((rd x5_3 x12_3) + x8_3)) 10000)) := ⟨_, rfl⟩
                replace H : (corporaref36_Times.l2 k3 l1 y383 (wrap64 (Int.tdiv (wrap64 ((rd x5_3 x12_3) + x8_3)) 10000)) (wrap64 (x12_3 + 1)) l0 (l0.length : Int) x23_1) = some r := by first | (rw [hy383]; with_reducible exact H) | (have H2_ := (Option.bind_some _ _).symm.trans H; rw [hy383]; with_reducible exact H2_) | (have H2_ := (Option.bind_some _ _).symm.trans H; with_reducible exact H2_) | with_reducible exact H | (rw [hy383]; exact H) | exact H
                have Ny383 := Aside0.mk hy383
                clear hy383
                have H' := Aside0.mk H
                clear H
                obtain ⟨Ao25, co25, eo25⟩ := Kd.R_slice HO_5.out
                subst eo25
                have p382 : 0 ≤ (x12_3 : Int) := dt
                have q382 : x12_3 < (x5_3.length : Int) := dt
                obtain ⟨ad382, e382, hx382_0⟩ := Kd.at_int (Kd.R_reads' HO_5.out).2.2 x12_3 p382 q382
                cases e382
                replace p382 := eq_true p382
                replace q382 := eq_true q382
                have p24 : 0 ≤ (x12_3 : Int) := dt
                have q24 : (x12_3 : Int) < ((x5_3.length : Int) : Int) := dt
                obtain ⟨go24, co24, eo24, gb24, gl24, cl24, HG24⟩ := Kd.R_form HO_5.out (by omega)
                (first | cases eo24 | (injection eo24 with ea_ en_ ec_; (first | subst ea_ | (injection ea_ with ea_; subst ea_)); subst ec_; clear en_))
                have GB24 := Aside0.mk gb24
                have GG24 := Aside0.mk HG24
                clear gb24 gl24 HG24
                (first | simp only [add_plain] at hx382_0 | skip)
                obtain ⟨hx24_0, hf24_0⟩ := Kd.R_celln 0 HO_5.out (x12_3 : Int) p24 q24
                replace p24 := eq_true p24
                replace q24 := eq_true q24
                have HP26 := Kd.R_putg HO_5.out (x12_3 : Int) (Int.tmod (wrap64 ((rd x5_3 x12_3) + x8_3)) 10000)
                go_wp2_with (first | ((with_reducible refine gate_store (t := 3) (p := 77) rfl ?_); refine store_event (t := 3) (p := 77) (v := ?vo_w27) (w1 := (wr.setCell ⟨go24, (x12_3 : Int).toNat, none⟩ (.int .i64 (Int.tmod (wrap64 ((rd x5_3 x12_3) + x8_3)) 10000)))) ?hg ?ho ?hn ?hr ?_; (case ho => rfl); (case hg => rfl); (case hn => rfl); (case hr => first | (go_simp; done) | (go_simp; rfl)); intro w27 hw; have hg : wr.grownBy w27 (some go24) := (by rw [hw]; exact HP26.2); have hp_ : Kd.R (Kd.int .i64) 3 w27 w.heap.size (fun k_ => (w.heap.size ≤ k_)) (.slice (some ⟨go24, 0, none⟩) x5_3.length co25) y383 := (by rw [hw, Ny383.out]; exact HP26.1); clear HP26; replace HO_5 := Aside0.mk (hp_); replace HB := Aside0.mk ((by rw [hw]; exact below_set (HB.out) GB24.out : Below w.heap.size w w27)); clear hg hw hp_))
                go_roundg k3
                case measure => have := HK1.out; have := HK2.out; have := HK3.out; omega
                case rel => exact ⟨(y383), (wrap64 (Int.tdiv (wrap64 ((rd x5_3 x12_3) + x8_3)) 10000)), (wrap64 (x12_3 + 1)), sv, sv, (by first | exact H' | (simp only [hji3]; exact H')), ⟨by have := HK1.out; have := HK2.out; have := HK3.out; omega⟩, ⟨by exact rl HO_5⟩, ⟨by first | exact bl HB | exact HB.out⟩⟩
               ·rw [if_neg c23] at H
                exact absurd H (by simp)
              ·rw [if_neg c22] at H
               exact absurd H (by simp)
             ·rw [if_neg c21] at H
              have c21b0 : decide (0 < x8_3) = false := decide_eq_false c21
              clear c21
              have H' := Aside0.mk H
              clear H
              go_wp2
              go_roundg k3
              case measure => have := HK1.out; have := HK2.out; have := HK3.out; omega
              case rel => exact ⟨(x5_3), (wrap64 (x23_1 + 1)), sv, (by first | exact H' | (simp only [hji3]; exact H')), ⟨by have := HK1.out; have := HK2.out; have := HK3.out; omega⟩, ⟨by exact rl HO_5⟩, ⟨by first | exact bl HB | exact HB.out⟩⟩
       ·rw [if_neg c10] at H
        exact absurd H (by simp)
      ·rw [if_neg c9] at H
       exact absurd H (by simp)
     ·rw [if_neg c8] at H
      have c8b0 : decide (x23_1 < (l0.length : Int)) = false := decide_eq_false c8
      clear c8
      replace H := Option.bind_eq_some_iff.mp H
      obtain ⟨t375, A280, H⟩ := H
      replace H : (some t375) = some r := H
      have A28 := Aside0.mk A280
      clear A280
      obtain rfl := Option.some.inj H
      obtain ⟨Ao29, co29, eo29⟩ := Kd.R_slice HO_5.out
      subst eo29
      go_wp2_with (first | ((with_reducible refine gate_callee (f := 125) rfl ?_); refine goesL_ (some 80) rfl rfl Try.func125 (by kernel_rfl) rfl #[.slice Ao29 x5_1.length co29] rfl ga ?_; (with_reducible refine (corporaref36_trim.calls k1 (fun k_ => some k_ = (.slice Ao29 x5_1.length co29 : Value).ownBlock) _ _ x5_1 t375 _ ?side1 A28.out).mono ?_); (case side1 => exact Kd.R_V (Kd.R_tight rfl (HO_5.out))); rintro e w30 ⟨v376, rfl, ho0, hb⟩; refine ⟨_, rfl, ?_⟩; have HO377 := Aside0.mk (Kd.V_lower (Kd.V_mono (ok' := fun k_ => (w.heap.size ≤ k_)) ho0 (fun k_ hk_ => Or.elim hk_ (fun hs_ => ((HO_5.out).1 k_ hs_.symm)) (fun hn_ => (Nat.le_trans (below_size (by first | exact bl HB | exact HB.out)) hn_)))) (below_size (by first | exact bl HB | exact HB.out))); replace HO_5 := Aside0.mk (Kd.R_below (rl HO_5) hb); replace HB := hs HB hb; (try clear hb); (try clear ho0)))
      go_ret
      exact ⟨_, by first | rfl | (simp [errW_none, errW_some] <;> rfl) | (simp only [← hji3]; first | rfl | (simp [errW_none, errW_some] <;> rfl)) | (simp [*, errW_none, errW_some] <;> rfl), by (with_reducible repeat (first | apply Kd.V_alloc | apply Kd.V_drewN | apply Kd.V_drew)); exact HO377.out, by first | exact bl HB | exact HB.out⟩
  ·rw [if_neg c5] at H
   exact absurd H (by simp)
 ·rw [if_neg c4] at H
  exact absurd H (by simp)
set_option maxHeartbeats 8000000 in
set_option maxRecDepth 100000 in
theorem corporaref36_Minus.calls (k : Nat) (A0 : Option Addr) (c0 : Nat) (l0 : List Int) (A1 : Option Addr) (c1 : Nat) (l1 : List Int) (r : List Int) (w : World) (hr0 : Kd.C (Kd.int .i64) w A0 l0.length l0) (hc0 : l0.length ≤ c0) (hr1 : Kd.C (Kd.int .i64) w A1 l1.length l1) (hc1 : l1.length ≤ c1) (h : corporaref36_Minus.f k l0 l1 = some r) :
  Calls Try.prog 102 #[.slice A0 l0.length c0, .slice A1 l1.length c1] w fun e w' => ∃ v0_ : Value, e = .returned (v0_) ∧ Kd.V (Kd.int .i64) 3 w' w.heap.size (fun k_ => (w.heap.size ≤ k_)) v0_ r ∧ Below w.heap.size w w' := by
 have HR0 := Aside0.mk hr0
 have HC0 := Aside0.mk hc0
 clear hr0 hc0
 have HR1 := Aside0.mk hr1
 have HC1 := Aside0.mk hc1
 clear hr1 hc1
 have HB := Aside0.mk (Below.refl w.heap.size w)
 have H : (corporaref36_Minus.l0 k l0 l1 ([] : List Int) 0 (l0.length : Int) 0) = some r := h
 clear h
 have H' := Aside0.mk H
 clear H
 go_enter Try.func102, Try.ntmps102
 go_wp2
 go_loopg [5, 6, 11] k (fun kq v5 v6 v11 w' => ∃ (x5_1 : List Int) (x6_1 : Int) (x11_1 : Int), v6 = .int .i64 x6_1 ∧ v11 = .int .i64 x11_1 ∧ Aside0 (corporaref36_Minus.l0 kq l0 l1 x5_1 x6_1 (l0.length : Int) x11_1 = some r) ∧ Aside0 (kq ≤ k) ∧ Aside0 (Kd.R (Kd.int .i64) 3 w' w.heap.size (fun k_ => (w.heap.size ≤ k_)) v5 x5_1) ∧ Aside0 (Below w.heap.size w w'))
 case atStart => exact ⟨(([] : List Int)), (0), (0), sv, sv, H', ⟨Nat.le_refl _⟩, ⟨by first | exact Kd.R_nil _ _ _ _ _ | exact Kd.N_nil _ _ _ _ _ | exact Kd.V_nil _ _ _ _ _ | exact Kd.Q_nil _ _ _ _ _ | exact Kd.S_nil _ _ _ _ _⟩, ⟨by first | exact bl HB | exact HB.out⟩⟩
 case round =>
  clear H'
  try clear c1
  obtain ⟨x5_1, x6_1, x11_1, rfl, rfl, HA, HK1, HO_5, HB⟩ := hrel
  cases gk with
  | zero => exact absurd HA.out (by simp [corporaref36_Minus.l0])
  | succ k1 =>
   have H := HA.out
   clear HA
   simp only [corporaref36_Minus.l0] at H
   by_cases c3 : x11_1 < (l0.length : Int)
   ·rw [if_pos c3] at H
    have c3b0 : decide (x11_1 < (l0.length : Int)) = true := decide_eq_true c3
    clear c3
    by_cases c4 : 0 ≤ x11_1
    ·rw [if_pos c4] at H
     have c4b0 : decide (0 ≤ x11_1) = true := decide_eq_true c4
     clear c4
     by_cases c5 : x11_1 < (l0.length : Int)
     ·rw [if_pos c5] at H
      have c5b0 : decide (x11_1 < (l0.length : Int)) = true := decide_eq_true c5
      clear c5
      by_cases c6 : x11_1 < (l1.length : Int)
      ·rw [if_pos c6] at H
       have c6b0 : decide (x11_1 < (l1.length : Int)) = true := decide_eq_true c6
       clear c6
       by_cases c7 : (wrap64 ((wrap64 ((rd l0 x11_1) - x6_1)) - (rd l1 x11_1))) < 0
       ·rw [if_pos c7] at H
        have c7b0 : decide ((wrap64 ((wrap64 ((rd l0 x11_1) - x6_1)) - (rd l1 x11_1))) < 0) = true := decide_eq_true c7
        clear c7
        by_cases c8 : x5_1.length < 17592186044416
        ·rw [if_pos c8] at H
         have LMc8 := Aside0.mk c8
         clear c8
         obtain ⟨y393, hy393⟩ : ∃ y_ : List Int, y_ = (x5_1 ++ [wrap64 ((wrap64 ((wrap64 ((rd l0 x11_1) - x6_1)) - (rd l1 x11_1))) + 10000)]) := ⟨_, rfl⟩
         replace H : (corporaref36_Minus.l0 k1 l0 l1 y393 1 (l0.length : Int) (wrap64 (x11_1 + 1))) = some r := by first | (rw [hy393]; with_reducible exact H) | (have H2_ := (Option.bind_some _ _).symm.trans H; rw [hy393]; with_reducible exact H2_) | (have H2_ := (Option.bind_some _ _).symm.trans H; with_reducible exact H2_) | with_reducible exact H | (rw [hy393]; exact H) | exact H
         have Ny393 := Aside0.mk hy393
         clear hy393
         have H' := Aside0.mk H
         clear H
         have p391 : 0 ≤ (x11_1 : Int) := dt
         have q391 : x11_1 < (l0.length : Int) := dt
         obtain ⟨ad391, e391, hx391_0⟩ := Kd.at_int HR0.out x11_1 p391 q391
         cases e391
         replace hx391_0 := (HB.out.cell (World.block_lt_of_cell? w _ hx391_0)).trans hx391_0
         replace p391 := eq_true p391
         replace q391 := eq_true q391
         have p392 : 0 ≤ (x11_1 : Int) := dt
         have q392 : x11_1 < (l1.length : Int) := dt
         obtain ⟨ad392, e392, hx392_0⟩ := Kd.at_int HR1.out x11_1 p392 q392
         cases e392
         replace hx392_0 := (HB.out.cell (World.block_lt_of_cell? w _ hx392_0)).trans hx392_0
         replace p392 := eq_true p392
         replace q392 := eq_true q392
         go_wp2_with (first | ((with_reducible refine gate_builtin (b := .append) (xs := #[.tmp 34, .tmp 36]) rfl ?_); at_builtin; refine Kd.R_append (Kd.int .i64) (w0 := w) w.heap.size rfl (.tmp 34) (.tmp 36) 22 3 (.int .i64 0) 8 rfl Try.underlying22 info3 rfl (by decide) (by omega) u5 x5_1 (wrap64 ((wrap64 ((wrap64 ((rd l0 x11_1) - x6_1)) - (rd l1 x11_1))) + 10000)) [.int .i64 (wrap64 ((wrap64 ((wrap64 ((rd l0 x11_1) - x6_1)) - (rd l1 x11_1))) + 10000))] (fun k_ => (w.heap.size ≤ k_)) (fun _ => False) rfl rfl ?aP (fun _ hk => hk.elim) ?aF ?aO ?aB ?aS ?aL ?_; (case aP => exact rfl); (case aB => exact (by first | exact bl HB | exact HB.out)); (case aF => exact (fun k_ hk => (Nat.le_trans (below_size (by first | exact bl HB | exact HB.out)) hk))); (case aO => exact (rl HO_5)); (case aS => exact (below_size (by first | exact bl HB | exact HB.out))); (case aL => have := LMc8.out; omega); intro v394 w9 ho hb hg hat; rw [← Ny393.out] at ho; have n0_ := Aside0.mk (hb); have n1_ := Aside0.mk (ho); clear HB; clear HO_5; have HB := n0_; have HO395 := n1_; clear n0_ n1_; clear ho hb hg hat))
         go_roundg k1
         case measure => have := HK1.out; omega
         case rel => exact ⟨(y393), (1), (wrap64 (x11_1 + 1)), sv, sv, H', ⟨by have := HK1.out; omega⟩, ⟨by exact rl HO395⟩, ⟨by first | exact bl HB | exact HB.out⟩⟩
        ·rw [if_neg c8] at H
         exact absurd H (by simp)
       ·rw [if_neg c7] at H
        have c7b0 : decide ((wrap64 ((wrap64 ((rd l0 x11_1) - x6_1)) - (rd l1 x11_1))) < 0) = false := decide_eq_false c7
        clear c7
        by_cases c10 : x5_1.length < 17592186044416
        ·rw [if_pos c10] at H
         have LMc10 := Aside0.mk c10
         clear c10
         obtain ⟨y396, hy396⟩ : ∃ y_ : List Int, y_ = (x5_1 ++ [wrap64 ((wrap64 ((rd l0 x11_1) - x6_1)) - (rd l1 x11_1))]) := ⟨_, rfl⟩
         replace H : (corporaref36_Minus.l0 k1 l0 l1 y396 0 (l0.length : Int) (wrap64 (x11_1 + 1))) = some r := by first | (rw [hy396]; with_reducible exact H) | (have H2_ := (Option.bind_some _ _).symm.trans H; rw [hy396]; with_reducible exact H2_) | (have H2_ := (Option.bind_some _ _).symm.trans H; with_reducible exact H2_) | with_reducible exact H | (rw [hy396]; exact H) | exact H
         have Ny396 := Aside0.mk hy396
         clear hy396
         have H' := Aside0.mk H
         clear H
         have p391 : 0 ≤ (x11_1 : Int) := dt
         have q391 : x11_1 < (l0.length : Int) := dt
         obtain ⟨ad391, e391, hx391_0⟩ := Kd.at_int HR0.out x11_1 p391 q391
         cases e391
         replace hx391_0 := (HB.out.cell (World.block_lt_of_cell? w _ hx391_0)).trans hx391_0
         replace p391 := eq_true p391
         replace q391 := eq_true q391
         have p392 : 0 ≤ (x11_1 : Int) := dt
         have q392 : x11_1 < (l1.length : Int) := dt
         obtain ⟨ad392, e392, hx392_0⟩ := Kd.at_int HR1.out x11_1 p392 q392
         cases e392
         replace hx392_0 := (HB.out.cell (World.block_lt_of_cell? w _ hx392_0)).trans hx392_0
         replace p392 := eq_true p392
         replace q392 := eq_true q392
         go_wp2_with (first | ((with_reducible refine gate_builtin (b := .append) (xs := #[.tmp 34, .tmp 36]) rfl ?_); at_builtin; refine Kd.R_append (Kd.int .i64) (w0 := w) w.heap.size rfl (.tmp 34) (.tmp 36) 22 3 (.int .i64 0) 8 rfl Try.underlying22 info3 rfl (by decide) (by omega) u5 x5_1 (wrap64 ((wrap64 ((rd l0 x11_1) - x6_1)) - (rd l1 x11_1))) [.int .i64 (wrap64 ((wrap64 ((rd l0 x11_1) - x6_1)) - (rd l1 x11_1)))] (fun k_ => (w.heap.size ≤ k_)) (fun _ => False) rfl rfl ?aP (fun _ hk => hk.elim) ?aF ?aO ?aB ?aS ?aL ?_; (case aP => exact rfl); (case aB => exact (by first | exact bl HB | exact HB.out)); (case aF => exact (fun k_ hk => (Nat.le_trans (below_size (by first | exact bl HB | exact HB.out)) hk))); (case aO => exact (rl HO_5)); (case aS => exact (below_size (by first | exact bl HB | exact HB.out))); (case aL => have := LMc10.out; omega); intro v397 w11 ho hb hg hat; rw [← Ny396.out] at ho; have n0_ := Aside0.mk (hb); have n1_ := Aside0.mk (ho); clear HB; clear HO_5; have HB := n0_; have HO398 := n1_; clear n0_ n1_; clear ho hb hg hat))
         go_roundg k1
         case measure => have := HK1.out; omega
         case rel => exact ⟨(y396), (0), (wrap64 (x11_1 + 1)), sv, sv, H', ⟨by have := HK1.out; omega⟩, ⟨by exact rl HO398⟩, ⟨by first | exact bl HB | exact HB.out⟩⟩
        ·rw [if_neg c10] at H
         exact absurd H (by simp)
      ·rw [if_neg c6] at H
       have c6b0 : decide (x11_1 < (l1.length : Int)) = false := decide_eq_false c6
       clear c6
       by_cases c12 : (wrap64 ((rd l0 x11_1) - x6_1)) < 0
       ·rw [if_pos c12] at H
        have c12b0 : decide ((wrap64 ((rd l0 x11_1) - x6_1)) < 0) = true := decide_eq_true c12
        clear c12
        by_cases c13 : x5_1.length < 17592186044416
        ·rw [if_pos c13] at H
         have LMc13 := Aside0.mk c13
         clear c13
         obtain ⟨y399, hy399⟩ : ∃ y_ : List Int, y_ = (x5_1 ++ [wrap64 ((wrap64 ((rd l0 x11_1) - x6_1)) + 10000)]) := ⟨_, rfl⟩
         replace H : (corporaref36_Minus.l0 k1 l0 l1 y399 1 (l0.length : Int) (wrap64 (x11_1 + 1))) = some r := by first | (rw [hy399]; with_reducible exact H) | (have H2_ := (Option.bind_some _ _).symm.trans H; rw [hy399]; with_reducible exact H2_) | (have H2_ := (Option.bind_some _ _).symm.trans H; with_reducible exact H2_) | with_reducible exact H | (rw [hy399]; exact H) | exact H
         have Ny399 := Aside0.mk hy399
         clear hy399
         have H' := Aside0.mk H
         clear H
         have p391 : 0 ≤ (x11_1 : Int) := dt
         have q391 : x11_1 < (l0.length : Int) := dt
         obtain ⟨ad391, e391, hx391_0⟩ := Kd.at_int HR0.out x11_1 p391 q391
         cases e391
         replace hx391_0 := (HB.out.cell (World.block_lt_of_cell? w _ hx391_0)).trans hx391_0
         replace p391 := eq_true p391
         replace q391 := eq_true q391
         go_wp2_with (first | ((with_reducible refine gate_builtin (b := .append) (xs := #[.tmp 34, .tmp 36]) rfl ?_); at_builtin; refine Kd.R_append (Kd.int .i64) (w0 := w) w.heap.size rfl (.tmp 34) (.tmp 36) 22 3 (.int .i64 0) 8 rfl Try.underlying22 info3 rfl (by decide) (by omega) u5 x5_1 (wrap64 ((wrap64 ((rd l0 x11_1) - x6_1)) + 10000)) [.int .i64 (wrap64 ((wrap64 ((rd l0 x11_1) - x6_1)) + 10000))] (fun k_ => (w.heap.size ≤ k_)) (fun _ => False) rfl rfl ?aP (fun _ hk => hk.elim) ?aF ?aO ?aB ?aS ?aL ?_; (case aP => exact rfl); (case aB => exact (by first | exact bl HB | exact HB.out)); (case aF => exact (fun k_ hk => (Nat.le_trans (below_size (by first | exact bl HB | exact HB.out)) hk))); (case aO => exact (rl HO_5)); (case aS => exact (below_size (by first | exact bl HB | exact HB.out))); (case aL => have := LMc13.out; omega); intro v400 w14 ho hb hg hat; rw [← Ny399.out] at ho; have n0_ := Aside0.mk (hb); have n1_ := Aside0.mk (ho); clear HB; clear HO_5; have HB := n0_; have HO401 := n1_; clear n0_ n1_; clear ho hb hg hat))
         go_roundg k1
         case measure => have := HK1.out; omega
         case rel => exact ⟨(y399), (1), (wrap64 (x11_1 + 1)), sv, sv, H', ⟨by have := HK1.out; omega⟩, ⟨by exact rl HO401⟩, ⟨by first | exact bl HB | exact HB.out⟩⟩
        ·rw [if_neg c13] at H
         exact absurd H (by simp)
       ·rw [if_neg c12] at H
        have c12b0 : decide ((wrap64 ((rd l0 x11_1) - x6_1)) < 0) = false := decide_eq_false c12
        clear c12
        by_cases c15 : x5_1.length < 17592186044416
        ·rw [if_pos c15] at H
         have LMc15 := Aside0.mk c15
         clear c15
         obtain ⟨y402, hy402⟩ : ∃ y_ : List Int, y_ = (x5_1 ++ [wrap64 ((rd l0 x11_1) - x6_1)]) := ⟨_, rfl⟩
         replace H : (corporaref36_Minus.l0 k1 l0 l1 y402 0 (l0.length : Int) (wrap64 (x11_1 + 1))) = some r := by first | (rw [hy402]; with_reducible exact H) | (have H2_ := (Option.bind_some _ _).symm.trans H; rw [hy402]; with_reducible exact H2_) | (have H2_ := (Option.bind_some _ _).symm.trans H; with_reducible exact H2_) | with_reducible exact H | (rw [hy402]; exact H) | exact H
         have Ny402 := Aside0.mk hy402
         clear hy402
         have H' := Aside0.mk H
         clear H
         have p391 : 0 ≤ (x11_1 : Int) := dt
         have q391 : x11_1 < (l0.length : Int) := dt
         obtain ⟨ad391, e391, hx391_0⟩ := Kd.at_int HR0.out x11_1 p391 q391
         cases e391
         replace hx391_0 := (HB.out.cell (World.block_lt_of_cell? w _ hx391_0)).trans hx391_0
         replace p391 := eq_true p391
         replace q391 := eq_true q391
         go_wp2_with (first | ((with_reducible refine gate_builtin (b := .append) (xs := #[.tmp 34, .tmp 36]) rfl ?_); at_builtin; refine Kd.R_append (Kd.int .i64) (w0 := w) w.heap.size rfl (.tmp 34) (.tmp 36) 22 3 (.int .i64 0) 8 rfl Try.underlying22 info3 rfl (by decide) (by omega) u5 x5_1 (wrap64 ((rd l0 x11_1) - x6_1)) [.int .i64 (wrap64 ((rd l0 x11_1) - x6_1))] (fun k_ => (w.heap.size ≤ k_)) (fun _ => False) rfl rfl ?aP (fun _ hk => hk.elim) ?aF ?aO ?aB ?aS ?aL ?_; (case aP => exact rfl); (case aB => exact (by first | exact bl HB | exact HB.out)); (case aF => exact (fun k_ hk => (Nat.le_trans (below_size (by first | exact bl HB | exact HB.out)) hk))); (case aO => exact (rl HO_5)); (case aS => exact (below_size (by first | exact bl HB | exact HB.out))); (case aL => have := LMc15.out; omega); intro v403 w16 ho hb hg hat; rw [← Ny402.out] at ho; have n0_ := Aside0.mk (hb); have n1_ := Aside0.mk (ho); clear HB; clear HO_5; have HB := n0_; have HO404 := n1_; clear n0_ n1_; clear ho hb hg hat))
         go_roundg k1
         case measure => have := HK1.out; omega
         case rel => exact ⟨(y402), (0), (wrap64 (x11_1 + 1)), sv, sv, H', ⟨by have := HK1.out; omega⟩, ⟨by exact rl HO404⟩, ⟨by first | exact bl HB | exact HB.out⟩⟩
        ·rw [if_neg c15] at H
         exact absurd H (by simp)
     ·rw [if_neg c5] at H
      exact absurd H (by simp)
    ·rw [if_neg c4] at H
     exact absurd H (by simp)
   ·rw [if_neg c3] at H
    have c3b0 : decide (x11_1 < (l0.length : Int)) = false := decide_eq_false c3
    clear c3
    replace H := Option.bind_eq_some_iff.mp H
    obtain ⟨t388, A170, H⟩ := H
    replace H : (some t388) = some r := H
    have A17 := Aside0.mk A170
    clear A170
    obtain rfl := Option.some.inj H
    obtain ⟨Ao18, co18, eo18⟩ := Kd.R_slice HO_5.out
    subst eo18
    go_wp2_with (first | ((with_reducible refine gate_callee (f := 125) rfl ?_); refine goesL_ (some 40) rfl rfl Try.func125 (by kernel_rfl) rfl #[.slice Ao18 x5_1.length co18] rfl ga ?_; (with_reducible refine (corporaref36_trim.calls k1 (fun k_ => some k_ = (.slice Ao18 x5_1.length co18 : Value).ownBlock) _ _ x5_1 t388 _ ?side1 A17.out).mono ?_); (case side1 => exact Kd.R_V (Kd.R_tight rfl (HO_5.out))); rintro e w19 ⟨v389, rfl, ho0, hb⟩; refine ⟨_, rfl, ?_⟩; have HO390 := Aside0.mk (Kd.V_lower (Kd.V_mono (ok' := fun k_ => (w.heap.size ≤ k_)) ho0 (fun k_ hk_ => Or.elim hk_ (fun hs_ => ((HO_5.out).1 k_ hs_.symm)) (fun hn_ => (Nat.le_trans (below_size (by first | exact bl HB | exact HB.out)) hn_)))) (below_size (by first | exact bl HB | exact HB.out))); replace HO_5 := Aside0.mk (Kd.R_below (rl HO_5) hb); replace HB := hs HB hb; (try clear hb); (try clear ho0)))
    go_ret
    exact ⟨_, er, by (with_reducible repeat (first | apply Kd.V_alloc | apply Kd.V_drewN | apply Kd.V_drew)); exact HO390.out, by first | exact bl HB | exact HB.out⟩
end Go.Proofs.Ytccgfmjcldifcaa.P
