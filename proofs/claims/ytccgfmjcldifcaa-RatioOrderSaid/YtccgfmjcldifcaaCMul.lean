/- Walks of Go functions: what they compute; each theorem's conditions stand in it. -/
import Derived.Test.YtccgfmjcldifcaaT
import Derived.Test.YtccgfmjcldifcaaCCmp
import Derived.Test.YtccgfmjcldifcaaDA
namespace Go.Proofs.Ytccgfmjcldifcaa.P
open Go.RowKit Go.Proofs.YtccgfmjcldifcaaW.PrintWords Go.Proofs.YtccgfmjcldifcaaW.PrintLast Go.Proofs.YtccgfmjcldifcaaW.PrintMore
attribute [local go_sem] max2_int min2_int max_two min_two max_three min_three max_four min_four
set_option linter.unusedVariables false
set_option linter.unusedSimpArgs false
set_option maxHeartbeats 8000000 in
set_option maxRecDepth 100000 in
theorem bignat_Nat_Mul.calls (k : Nat) (A0 : Option Addr) (c0 : Nat) (l0 : List Int) (A1 : Option Addr) (c1 : Nat) (l1 : List Int) (r : List Int) (w : World) (hr0 : Kd.C (Kd.int .u32) w A0 l0.length l0) (hc0 : l0.length ≤ c0) (hr1 : Kd.C (Kd.int .u32) w A1 l1.length l1) (hc1 : l1.length ≤ c1) (h : bignat_Nat_Mul.f k l0 l1 = some r) :
  Calls Try.prog 78 #[.slice A0 l0.length c0, .slice A1 l1.length c1] w fun e w' => ∃ v0_ : Value, e = .returned (v0_) ∧ Kd.V (Kd.int .u32) 117 w' w.heap.size (fun k_ => (w.heap.size ≤ k_)) v0_ r ∧ Below w.heap.size w w' := by
 have HR0 := Aside0.mk hr0
 have HC0 := Aside0.mk hc0
 clear hr0 hc0
 have HR1 := Aside0.mk hr1
 have HC1 := Aside0.mk hc1
 clear hr1 hc1
 have HB := Aside0.mk (Below.refl w.heap.size w)
 have H : (if 0 ≤ (wrap64 ((l0.length : Int) + (l1.length : Int))) then _ else _) = _ := h
 clear h
 obtain ⟨ji3, hji3⟩ : ∃ j_ : Int, (wrap64 ((l0.length : Int) + (l1.length : Int))) = j_ := ⟨_, rfl⟩
 replace H : (if 0 ≤ (ji3) then (if (ji3 : Int).toNat ≤ 70368744177664 then (bignat_Nat_Mul.l0 k l1 (List.replicate (ji3 : Int).toNat 0) l0 (l0.length : Int) 0) else (none)) else (none)) = some r := by first | (rw [hji3] at H; exact H) | (simp only [hji3] at H ⊢; exact H)
 have hji3w : (IntKind.i64.wrap ((l0.length : Int) + (l1.length : Int))) = ji3 := (i64_w _).trans hji3
 by_cases c4 : 0 ≤ (ji3)
 ·rw [if_pos c4] at H
  have c4b0 := eq_true c4
  have c4b1 : decide (0 ≤ (ji3)) = true := decide_eq_true c4
  clear c4
  by_cases c5 : (ji3 : Int).toNat ≤ 70368744177664
  ·rw [if_pos c5] at H
   have c5b0 := eq_true c5
   have c5b1 : decide ((ji3 : Int).toNat ≤ 70368744177664) = true := decide_eq_true c5
   clear c5
   obtain ⟨y311, hy311⟩ : ∃ y_ : List Int, y_ = (List.replicate (ji3 : Int).toNat 0) := ⟨_, rfl⟩
   replace H : (bignat_Nat_Mul.l0 k l1 y311 l0 (l0.length : Int) 0) = some r := by first | (rw [hy311]; with_reducible exact H) | (have H2_ := (Option.bind_some _ _).symm.trans H; rw [hy311]; with_reducible exact H2_) | (have H2_ := (Option.bind_some _ _).symm.trans H; with_reducible exact H2_) | with_reducible exact H | (rw [hy311]; exact H) | exact H
   have Ny311 := Aside0.mk hy311
   clear hy311
   have H' := Aside0.mk H
   clear H
   go_enter Try.func78, Try.ntmps78
   go_wp2_with (first | ((with_reducible refine gate_dst (N := 16) rfl ?_); refine Kd.R_make (Kd.int .u32) _ 117 rfl (N := 16) rfl 71 _ _ rfl ji3 rfl rfl Try.underlying71 (.int .u32 0) 4 info117 rfl (by decide) (by omega) 0 (ok := fun _ => True) (okp := fun _ => True) rfl (fun _ hk => hk) trivial (dt) (Nat.le_trans (Nat.mul_le_mul_right _ (dt : ji3.toNat ≤ 70368744177664)) (by omega)) (Below.refl _ _) (Nat.le_refl _) ?_; intro v312 w6 ho7 hb hg_ hnew_; clear hg_ hnew_; (first | rw [← Ny311.out] at ho7 | (simp only [Int.reduceToNat] at ho7; rw [← Ny311.out] at ho7)); have HO313 := Aside0.mk (Kd.R_lower (Kd.R_newM (M := fun k_ => (w.heap.size ≤ k_)) ho7 (below_size (by first | exact bl HB | exact HB.out)) (fun k_ h_ => h_)) (below_size (by first | exact bl HB | exact HB.out))); replace HB := hs HB hb; clear hb ho7))
   go_loopg [19] k (fun kq v19 w' => ∃ (x5_1 : List Int) (x19_1 : Int), v19 = .int .i64 x19_1 ∧ Aside0 (bignat_Nat_Mul.l0 kq l1 x5_1 l0 (l0.length : Int) x19_1 = some r) ∧ Aside0 (kq ≤ k) ∧ Aside0 (Kd.R (Kd.int .u32) 117 w' w.heap.size (fun k_ => (w.heap.size ≤ k_)) v312 x5_1) ∧ Aside0 (Below w.heap.size w w'))
   case atStart => exact ⟨(y311), (0), sv, H', ⟨Nat.le_refl _⟩, ⟨by (with_reducible repeat (first | apply Kd.R_alloc | apply Kd.R_drewN | apply Kd.R_drew)); exact Kd.R_mono HO313.out (fun _ hk => hk.1)⟩, ⟨by first | exact bl HB | exact HB.out⟩⟩
   case round =>
    clear H'
    try clear c1
    try clear c4b0
    try clear c4b1
    try clear c5b0
    try clear c5b1
    obtain ⟨x5_1, x19_1, rfl, HA, HK1, HO_5, HB⟩ := hrel
    cases gk with
    | zero => exact absurd HA.out (by simp [bignat_Nat_Mul.l0])
    | succ k1 =>
     have H := HA.out
     clear HA
     simp only [bignat_Nat_Mul.l0] at H
     by_cases c8 : x19_1 < (l0.length : Int)
     ·rw [if_pos c8] at H
      have c8b0 : decide (x19_1 < (l0.length : Int)) = true := decide_eq_true c8
      clear c8
      by_cases c9 : 0 ≤ x19_1
      ·rw [if_pos c9] at H
       have c9b0 : decide (0 ≤ x19_1) = true := decide_eq_true c9
       clear c9
       by_cases c10 : x19_1 < (l0.length : Int)
       ·rw [if_pos c10] at H
        have c10b0 : decide (x19_1 < (l0.length : Int)) = true := decide_eq_true c10
        clear c10
        have H' := Aside0.mk H
        clear H
        have p317 : 0 ≤ (x19_1 : Int) := dt
        have q317 : x19_1 < (l0.length : Int) := dt
        obtain ⟨ad317, e317, hx317_0⟩ := Kd.at_int HR0.out x19_1 p317 q317
        cases e317
        replace hx317_0 := (HB.out.cell (World.block_lt_of_cell? w _ hx317_0)).trans hx317_0
        replace p317 := eq_true p317
        replace q317 := eq_true q317
        go_wp2
        go_loopg [8, 26] k1 (fun kq v8 v26 w' => ∃ (x5_2 : List Int) (x8_2 : Int) (x26_2 : Int), v8 = .int .u64 x8_2 ∧ v26 = .int .i64 x26_2 ∧ Aside0 (bignat_Nat_Mul.l1 kq l1 x5_2 x19_1 (rd l0 x19_1) x8_2 l0 (l0.length : Int) x19_1 l1 (l1.length : Int) x26_2 = some r) ∧ Aside0 (kq ≤ k1) ∧ Aside0 (Kd.R (Kd.int .u32) 117 w' w.heap.size (fun k_ => (w.heap.size ≤ k_)) v312 x5_2) ∧ Aside0 (Below w.heap.size w w'))
        case atStart => exact ⟨(x5_1), (0), (0), sv, sv, H', ⟨Nat.le_refl _⟩, ⟨by exact rl HO_5⟩, ⟨by first | exact bl HB | exact HB.out⟩⟩
        case round =>
         clear H'
         try clear c1
         try clear c4b0
         try clear c4b1
         try clear c5b0
         try clear c5b1
         try clear c8b0
         try clear c9b0
         try clear c10b0
         try clear hx317_0
         try clear p317
         try clear q317
         obtain ⟨x5_2, x8_2, x26_2, rfl, rfl, HA, HK2, HO_5, HB⟩ := hrel
         cases gk with
         | zero => exact absurd HA.out (by simp [bignat_Nat_Mul.l1])
         | succ k2 =>
          have H := HA.out
          clear HA
          simp only [bignat_Nat_Mul.l1] at H
          by_cases c11 : x26_2 < (l1.length : Int)
          ·rw [if_pos c11] at H
           have c11b0 : decide (x26_2 < (l1.length : Int)) = true := decide_eq_true c11
           clear c11
           by_cases c12 : 0 ≤ x26_2
           ·rw [if_pos c12] at H
            have c12b0 : decide (0 ≤ x26_2) = true := decide_eq_true c12
            clear c12
            by_cases c13 : x26_2 < (l1.length : Int)
            ·rw [if_pos c13] at H
             have c13b0 : decide (x26_2 < (l1.length : Int)) = true := decide_eq_true c13
             clear c13
             obtain ⟨ji14, hji14⟩ : ∃ j_ : Int, (wrap64 (x19_1 + x26_2)) = j_ := ⟨_, rfl⟩
             replace H : (if 0 ≤ (ji14) then (if (ji14) < (x5_2.length : Int) then (bignat_Nat_Mul.l1 k2 l1 (x5_2.set ((ji14) : Int).toNat ((IntKind.u64.wrap (x8_2 + (IntKind.u64.wrap ((IntKind.u64.wrap ((IntKind.u64.wrap ((rd l0 x19_1))) * (IntKind.u64.wrap (rd l1 x26_2)))) + (IntKind.u64.wrap (rd x5_2 (ji14))))))) % 4294967296)) x19_1 (rd l0 x19_1) ((IntKind.u64.wrap (x8_2 + (IntKind.u64.wrap ((IntKind.u64.wrap ((IntKind.u64.wrap ((rd l0 x19_1))) * (IntKind.u64.wrap (rd l1 x26_2)))) + (IntKind.u64.wrap (rd x5_2 (ji14))))))) / 4294967296) l0 (l0.length : Int) x19_1 l1 (l1.length : Int) (wrap64 (x26_2 + 1))) else (none)) else (none)) = some r := by first | (rw [hji14] at H; exact H) | (simp only [hji14] at H ⊢; exact H)
             have hji14w : (IntKind.i64.wrap (x19_1 + x26_2)) = ji14 := (i64_w _).trans hji14
             by_cases c15 : 0 ≤ (ji14)
             ·rw [if_pos c15] at H
              have c15b0 : decide (0 ≤ (ji14)) = true := decide_eq_true c15
              clear c15
              by_cases c16 : (ji14) < (x5_2.length : Int)
              ·rw [if_pos c16] at H
               have c16b0 : decide ((ji14) < (x5_2.length : Int)) = true := decide_eq_true c16
               clear c16
               obtain ⟨y320, hy320⟩ : ∃ y_ : List Int, y_ = (x5_2.set ((ji14) : Int).toNat ((IntKind.u64.wrap (x8_2 + (IntKind.u64.wrap ((IntKind.u64.wrap ((IntKind.u64.wrap ((rd l0 x19_1))) * (IntKind.u64.wrap (rd l1 x26_2)))) + (IntKind.u64.wrap (rd x5_2 (ji14))))))) % 4294967296)) := ⟨_, rfl⟩
               replace H : (bignat_Nat_Mul.l1 k2 l1 y320 x19_1 (rd l0 x19_1) ((IntKind.u64.wrap (x8_2 + (IntKind.u64.wrap ((IntKind.u64.wrap ((IntKind.u64.wrap ((rd l0 x19_1))) * (IntKind.u64.wrap (rd l1 x26_2)))) + (IntKind.u64.wrap (rd x5_2 (ji14))))))) / 4294967296) l0 (l0.length : Int) x19_1 l1 (l1.length : Int) (wrap64 (x26_2 + 1))) = some r := by first | (rw [hy320]; with_reducible exact H) | (have H2_ := (Option.bind_some _ _).symm.trans H; rw [hy320]; with_reducible exact H2_) | (have H2_ := (Option.bind_some _ _).symm.trans H; with_reducible exact H2_) | with_reducible exact H | (rw [hy320]; exact H) | exact H
               have Ny320 := Aside0.mk hy320
               clear hy320
               have H' := Aside0.mk H
               clear H
               have p318 : 0 ≤ (x26_2 : Int) := dt
               have q318 : x26_2 < (l1.length : Int) := dt
               obtain ⟨ad318, e318, hx318_0⟩ := Kd.at_int HR1.out x26_2 p318 q318
               cases e318
               replace hx318_0 := (HB.out.cell (World.block_lt_of_cell? w _ hx318_0)).trans hx318_0
               replace p318 := eq_true p318
               replace q318 := eq_true q318
               obtain ⟨Ao18, co18, eo18⟩ := Kd.R_slice HO_5.out
               subst eo18
               have p319 : 0 ≤ ((ji14) : Int) := dt
               have q319 : (ji14) < (x5_2.length : Int) := dt
               obtain ⟨ad319, e319, hx319_0⟩ := Kd.at_int (Kd.R_reads' HO_5.out).2.2 (ji14) p319 q319
               cases e319
               replace p319 := eq_true p319
               replace q319 := eq_true q319
               have p17 : 0 ≤ ((ji14) : Int) := dt
               have q17 : ((ji14) : Int) < ((x5_2.length : Int) : Int) := dt
               obtain ⟨go17, co17, eo17, gb17, gl17, cl17, HG17⟩ := Kd.R_form HO_5.out (by omega)
               (first | cases eo17 | (injection eo17 with ea_ en_ ec_; (first | subst ea_ | (injection ea_ with ea_; subst ea_)); subst ec_; clear en_))
               have GB17 := Aside0.mk gb17
               have GG17 := Aside0.mk HG17
               clear gb17 gl17 HG17
               (first | simp only [add_plain] at hx319_0 | skip)
               obtain ⟨hx17_0, hf17_0⟩ := Kd.R_celln 0 HO_5.out ((ji14) : Int) p17 q17
               replace p17 := eq_true p17
               replace q17 := eq_true q17
               have HP19 := Kd.R_putg HO_5.out ((ji14) : Int) ((IntKind.u64.wrap (x8_2 + (IntKind.u64.wrap ((IntKind.u64.wrap ((IntKind.u64.wrap ((rd l0 x19_1))) * (IntKind.u64.wrap (rd l1 x26_2)))) + (IntKind.u64.wrap (rd x5_2 (ji14))))))) % 4294967296)
               go_wp2_with (first | ((with_reducible refine gate_store (t := 117) (p := 52) rfl ?_); refine store_event (t := 117) (p := 52) (v := ?vo_w20) (w1 := (wr.setCell ⟨go17, ((ji14) : Int).toNat, none⟩ (.int .u32 ((IntKind.u64.wrap (x8_2 + (IntKind.u64.wrap ((IntKind.u64.wrap ((IntKind.u64.wrap ((rd l0 x19_1))) * (IntKind.u64.wrap (rd l1 x26_2)))) + (IntKind.u64.wrap (rd x5_2 (ji14))))))) % 4294967296)))) ?hg ?ho ?hn ?hr ?_; (case ho => rfl); (case hg => rfl); (case hn => rfl); (case hr => first | (go_simp; done) | (go_simp; rfl)); intro w20 hw; have hg : wr.grownBy w20 (some go17) := (by rw [hw]; exact HP19.2); have hp_ : Kd.R (Kd.int .u32) 117 w20 w.heap.size (fun k_ => (w.heap.size ≤ k_)) (.slice (some ⟨go17, 0, none⟩) x5_2.length co18) y320 := (by rw [hw, Ny320.out]; exact HP19.1); clear HP19; replace HO_5 := Aside0.mk (hp_); replace HB := Aside0.mk ((by rw [hw]; exact below_set (HB.out) GB17.out : Below w.heap.size w w20)); clear hg hw hp_))
               go_roundg k2
               case measure => have := HK1.out; have := HK2.out; omega
               case rel => exact ⟨(y320), ((IntKind.u64.wrap (x8_2 + (IntKind.u64.wrap ((IntKind.u64.wrap ((IntKind.u64.wrap ((rd l0 x19_1))) * (IntKind.u64.wrap (rd l1 x26_2)))) + (IntKind.u64.wrap (rd x5_2 (ji14))))))) / 4294967296), (wrap64 (x26_2 + 1)), (by first | rfl | (simp; done) | (simp only [← hji14] <;> (first | rfl | simp)) | (simp [*]; done)), sv, (by first | exact H' | (simp only [hji3, hji14]; exact H')), ⟨by have := HK1.out; have := HK2.out; omega⟩, ⟨by exact rl HO_5⟩, ⟨by first | exact bl HB | exact HB.out⟩⟩
              ·rw [if_neg c16] at H
               exact absurd H (by simp)
             ·rw [if_neg c15] at H
              exact absurd H (by simp)
            ·rw [if_neg c13] at H
             exact absurd H (by simp)
           ·rw [if_neg c12] at H
            exact absurd H (by simp)
          ·rw [if_neg c11] at H
           have c11b0 : decide (x26_2 < (l1.length : Int)) = false := decide_eq_false c11
           clear c11
           obtain ⟨ji21, hji21⟩ : ∃ j_ : Int, (wrap64 (x19_1 + (l1.length : Int))) = j_ := ⟨_, rfl⟩
           replace H : (if 0 ≤ (ji21) then (if (ji21) < (x5_2.length : Int) then (bignat_Nat_Mul.l0 k2 l1 (x5_2.set ((ji21) : Int).toNat ((x8_2) % 4294967296)) l0 (l0.length : Int) (wrap64 (x19_1 + 1))) else (none)) else (none)) = some r := by first | (rw [hji21] at H; exact H) | (simp only [hji21] at H ⊢; exact H)
           have hji21w : (IntKind.i64.wrap (x19_1 + (l1.length : Int))) = ji21 := (i64_w _).trans hji21
           by_cases c22 : 0 ≤ (ji21)
           ·rw [if_pos c22] at H
            have c22b0 : decide (0 ≤ (ji21)) = true := decide_eq_true c22
            clear c22
            by_cases c23 : (ji21) < (x5_2.length : Int)
            ·rw [if_pos c23] at H
             have c23b0 : decide ((ji21) < (x5_2.length : Int)) = true := decide_eq_true c23
             clear c23
             obtain ⟨y321, hy321⟩ : ∃ y_ : List Int, y_ = (x5_2.set ((ji21) : Int).toNat ((x8_2) % 4294967296)) := ⟨_, rfl⟩
             replace H : (bignat_Nat_Mul.l0 k2 l1 y321 l0 (l0.length : Int) (wrap64 (x19_1 + 1))) = some r := by first | (rw [hy321]; with_reducible exact H) | (have H2_ := (Option.bind_some _ _).symm.trans H; rw [hy321]; with_reducible exact H2_) | (have H2_ := (Option.bind_some _ _).symm.trans H; with_reducible exact H2_) | with_reducible exact H | (rw [hy321]; exact H) | exact H
             have Ny321 := Aside0.mk hy321
             clear hy321
             have H' := Aside0.mk H
             clear H
             have p24 : 0 ≤ ((ji21) : Int) := dt
             have q24 : ((ji21) : Int) < ((x5_2.length : Int) : Int) := dt
             obtain ⟨go24, co24, eo24, gb24, gl24, cl24, HG24⟩ := Kd.R_form HO_5.out (by omega)
             (first | cases eo24 | (injection eo24 with ea_ en_ ec_; (first | subst ea_ | (injection ea_ with ea_; subst ea_)); subst ec_; clear en_))
             have GB24 := Aside0.mk gb24
             have GG24 := Aside0.mk HG24
             clear gb24 gl24 HG24
             obtain ⟨hx24_0, hf24_0⟩ := Kd.R_celln 0 HO_5.out ((ji21) : Int) p24 q24
             replace p24 := eq_true p24
             replace q24 := eq_true q24
             have HP25 := Kd.R_putg HO_5.out ((ji21) : Int) ((x8_2) % 4294967296)
             go_wp2_with (first | ((with_reducible refine gate_store (t := 117) (p := 63) rfl ?_); refine store_event (t := 117) (p := 63) (v := ?vo_w26) (w1 := (wr.setCell ⟨go24, ((ji21) : Int).toNat, none⟩ (.int .u32 ((x8_2) % 4294967296)))) ?hg ?ho ?hn ?hr ?_; (case ho => rfl); (case hg => rfl); (case hn => rfl); (case hr => first | (go_simp; done) | (go_simp; rfl)); intro w26 hw; have hg : wr.grownBy w26 (some go24) := (by rw [hw]; exact HP25.2); have hp_ : Kd.R (Kd.int .u32) 117 w26 w.heap.size (fun k_ => (w.heap.size ≤ k_)) (.slice (some ⟨go24, 0, none⟩) x5_2.length co24) y321 := (by rw [hw, Ny321.out]; exact HP25.1); clear HP25; replace HO_5 := Aside0.mk (hp_); replace HB := Aside0.mk ((by rw [hw]; exact below_set (HB.out) GB24.out : Below w.heap.size w w26)); clear hg hw hp_))
             go_roundg k2
             case measure => have := HK1.out; have := HK2.out; omega
             case rel => exact ⟨(y321), (wrap64 (x19_1 + 1)), sv, (by first | exact H' | (simp only [hji3, hji21]; exact H')), ⟨by have := HK1.out; have := HK2.out; omega⟩, ⟨by exact rl HO_5⟩, ⟨by first | exact bl HB | exact HB.out⟩⟩
            ·rw [if_neg c23] at H
             exact absurd H (by simp)
           ·rw [if_neg c22] at H
            exact absurd H (by simp)
       ·rw [if_neg c10] at H
        exact absurd H (by simp)
      ·rw [if_neg c9] at H
       exact absurd H (by simp)
     ·rw [if_neg c8] at H
      have c8b0 : decide (x19_1 < (l0.length : Int)) = false := decide_eq_false c8
      clear c8
      replace H := Option.bind_eq_some_iff.mp H
      obtain ⟨t314, A270, H⟩ := H
      replace H : (some t314) = some r := H
      have A27 := Aside0.mk A270
      clear A270
      obtain rfl := Option.some.inj H
      obtain ⟨Ao28, co28, eo28⟩ := Kd.R_slice HO_5.out
      subst eo28
      go_wp2_with (first | ((with_reducible refine gate_callee (f := 119) rfl ?_); refine goesL_ (some 66) rfl rfl Try.func119 (by kernel_rfl) rfl #[.slice Ao28 x5_1.length co28] rfl ga ?_; (with_reducible refine (bignat_norm.calls k1 (fun k_ => some k_ = (.slice Ao28 x5_1.length co28 : Value).ownBlock) _ _ x5_1 t314 _ ?side1 A27.out).mono ?_); (case side1 => exact Kd.R_V (Kd.R_tight rfl (HO_5.out))); rintro e w29 ⟨v315, rfl, ho0, hb⟩; refine ⟨_, rfl, ?_⟩; have HO316 := Aside0.mk (Kd.V_lower (Kd.V_mono (ok' := fun k_ => (w.heap.size ≤ k_)) ho0 (fun k_ hk_ => Or.elim hk_ (fun hs_ => ((HO_5.out).1 k_ hs_.symm)) (fun hn_ => (Nat.le_trans (below_size (by first | exact bl HB | exact HB.out)) hn_)))) (below_size (by first | exact bl HB | exact HB.out))); replace HO_5 := Aside0.mk (Kd.R_below (rl HO_5) hb); replace HB := hs HB hb; (try clear hb); (try clear ho0)))
      go_ret
      exact ⟨_, by first | rfl | (simp [errW_none, errW_some] <;> rfl) | (simp only [← hji3]; first | rfl | (simp [errW_none, errW_some] <;> rfl)) | (simp [*, errW_none, errW_some] <;> rfl), by (with_reducible repeat (first | apply Kd.V_alloc | apply Kd.V_drewN | apply Kd.V_drew)); exact HO316.out, by first | exact bl HB | exact HB.out⟩
  ·rw [if_neg c5] at H
   exact absurd H (by simp)
 ·rw [if_neg c4] at H
  exact absurd H (by simp)
set_option maxHeartbeats 8000000 in
set_option maxRecDepth 100000 in
theorem bignat_Nat_Sub.calls (k : Nat) (A0 : Option Addr) (c0 : Nat) (l0 : List Int) (A1 : Option Addr) (c1 : Nat) (l1 : List Int) (r : List Int) (w : World) (hr0 : Kd.C (Kd.int .u32) w A0 l0.length l0) (hc0 : l0.length ≤ c0) (hr1 : Kd.C (Kd.int .u32) w A1 l1.length l1) (hc1 : l1.length ≤ c1) (h : bignat_Nat_Sub.f k l0 l1 = some r) :
  Calls Try.prog 96 #[.slice A0 l0.length c0, .slice A1 l1.length c1] w fun e w' => ∃ v0_ : Value, e = .returned (v0_) ∧ Kd.V (Kd.int .u32) 117 w' w.heap.size (fun k_ => (w.heap.size ≤ k_)) v0_ r ∧ Below w.heap.size w w' := by
 have HR0 := Aside0.mk hr0
 have HC0 := Aside0.mk hc0
 clear hr0 hc0
 have HR1 := Aside0.mk hr1
 have HC1 := Aside0.mk hc1
 clear hr1 hc1
 have HB := Aside0.mk (Below.refl w.heap.size w)
 have H : (if 0 ≤ (l0.length : Int) then _ else _) = _ := h
 clear h
 by_cases c3 : 0 ≤ (l0.length : Int)
 ·rw [if_pos c3] at H
  have c3b0 := eq_true c3
  have c3b1 : decide (0 ≤ (l0.length : Int)) = true := decide_eq_true c3
  clear c3
  by_cases c4 : ((l0.length : Int) : Int).toNat ≤ 70368744177664
  ·rw [if_pos c4] at H
   have c4b0 := eq_true c4
   have c4b1 : decide (((l0.length : Int) : Int).toNat ≤ 70368744177664) = true := decide_eq_true c4
   clear c4
   obtain ⟨y816, hy816⟩ : ∃ y_ : List Int, y_ = (List.replicate ((l0.length : Int) : Int).toNat 0) := ⟨_, rfl⟩
   replace H : (bignat_Nat_Sub.l0 k l0 l1 y816 0 (l0.length : Int) 0) = some r := by first | (rw [hy816]; with_reducible exact H) | (have H2_ := (Option.bind_some _ _).symm.trans H; rw [hy816]; with_reducible exact H2_) | (have H2_ := (Option.bind_some _ _).symm.trans H; with_reducible exact H2_) | with_reducible exact H | (rw [hy816]; exact H) | exact H
   have Ny816 := Aside0.mk hy816
   clear hy816
   have H' := Aside0.mk H
   clear H
   go_enter Try.func96, Try.ntmps96
   go_wp2_with (first | ((with_reducible refine gate_dst (N := 10) rfl ?_); refine Kd.R_make (Kd.int .u32) _ 117 rfl (N := 10) rfl 71 _ _ rfl (l0.length : Int) rfl rfl Try.underlying71 (.int .u32 0) 4 info117 rfl (by decide) (by omega) 0 (ok := fun _ => True) (okp := fun _ => True) rfl (fun _ hk => hk) trivial (dt) (Nat.le_trans (Nat.mul_le_mul_right _ (dt : (l0.length : Int).toNat ≤ 70368744177664)) (by omega)) (Below.refl _ _) (Nat.le_refl _) ?_; intro v817 w5 ho6 hb hg_ hnew_; clear hg_ hnew_; (first | rw [← Ny816.out] at ho6 | (simp only [Int.reduceToNat] at ho6; rw [← Ny816.out] at ho6)); have HO818 := Aside0.mk (Kd.R_lower (Kd.R_newM (M := fun k_ => (w.heap.size ≤ k_)) ho6 (below_size (by first | exact bl HB | exact HB.out)) (fun k_ h_ => h_)) (below_size (by first | exact bl HB | exact HB.out))); replace HB := hs HB hb; clear hb ho6))
   go_loopg [6, 13] k (fun kq v6 v13 w' => ∃ (x5_1 : List Int) (x6_1 : Int) (x13_1 : Int), v6 = .int .i64 x6_1 ∧ v13 = .int .i64 x13_1 ∧ Aside0 (bignat_Nat_Sub.l0 kq l0 l1 x5_1 x6_1 (l0.length : Int) x13_1 = some r) ∧ Aside0 (kq ≤ k) ∧ Aside0 (Kd.R (Kd.int .u32) 117 w' w.heap.size (fun k_ => (w.heap.size ≤ k_)) v817 x5_1) ∧ Aside0 (Below w.heap.size w w'))
   case atStart => exact ⟨(y816), (0), (0), sv, sv, H', ⟨Nat.le_refl _⟩, ⟨by (with_reducible repeat (first | apply Kd.R_alloc | apply Kd.R_drewN | apply Kd.R_drew)); exact Kd.R_mono HO818.out (fun _ hk => hk.1)⟩, ⟨by first | exact bl HB | exact HB.out⟩⟩
   case round =>
    clear H'
    try clear c1
    try clear c3b0
    try clear c3b1
    try clear c4b0
    try clear c4b1
    obtain ⟨x5_1, x6_1, x13_1, rfl, rfl, HA, HK1, HO_5, HB⟩ := hrel
    cases gk with
    | zero => exact absurd HA.out (by simp [bignat_Nat_Sub.l0])
    | succ k1 =>
     have H := HA.out
     clear HA
     simp only [bignat_Nat_Sub.l0] at H
     by_cases c7 : x13_1 < (l0.length : Int)
     ·rw [if_pos c7] at H
      have c7b0 : decide (x13_1 < (l0.length : Int)) = true := decide_eq_true c7
      clear c7
      by_cases c8 : 0 ≤ x13_1
      ·rw [if_pos c8] at H
       have c8b0 : decide (0 ≤ x13_1) = true := decide_eq_true c8
       clear c8
       by_cases c9 : x13_1 < (l0.length : Int)
       ·rw [if_pos c9] at H
        have c9b0 : decide (x13_1 < (l0.length : Int)) = true := decide_eq_true c9
        clear c9
        by_cases c10 : x13_1 < (l1.length : Int)
        ·rw [if_pos c10] at H
         have c10b0 : decide (x13_1 < (l1.length : Int)) = true := decide_eq_true c10
         clear c10
         by_cases c11 : x13_1 < (x5_1.length : Int)
         ·rw [if_pos c11] at H
          have c11b0 : decide (x13_1 < (x5_1.length : Int)) = true := decide_eq_true c11
          clear c11
          obtain ⟨y821, hy821⟩ : ∃ y_ : List Int, y_ = (x5_1.set (x13_1 : Int).toNat ((wrap64 ((wrap64 (x6_1 + (wrap64 (rd l0 x13_1)))) - (wrap64 (rd l1 x13_1)))) % 4294967296)) := ⟨_, rfl⟩
          replace H : (bignat_Nat_Sub.l0 k1 l0 l1 y821 ((wrap64 ((wrap64 (x6_1 + (wrap64 (rd l0 x13_1)))) - (wrap64 (rd l1 x13_1)))) / 4294967296) (l0.length : Int) (wrap64 (x13_1 + 1))) = some r := by first | (rw [hy821]; with_reducible exact H) | (have H2_ := (Option.bind_some _ _).symm.trans H; rw [hy821]; with_reducible exact H2_) | (have H2_ := (Option.bind_some _ _).symm.trans H; with_reducible exact H2_) | with_reducible exact H | (rw [hy821]; exact H) | exact H
          have Ny821 := Aside0.mk hy821
          clear hy821
          have H' := Aside0.mk H
          clear H
          have p819 : 0 ≤ (x13_1 : Int) := dt
          have q819 : x13_1 < (l0.length : Int) := dt
          obtain ⟨ad819, e819, hx819_0⟩ := Kd.at_int HR0.out x13_1 p819 q819
          cases e819
          replace hx819_0 := (HB.out.cell (World.block_lt_of_cell? w _ hx819_0)).trans hx819_0
          replace p819 := eq_true p819
          replace q819 := eq_true q819
          have p820 : 0 ≤ (x13_1 : Int) := dt
          have q820 : x13_1 < (l1.length : Int) := dt
          obtain ⟨ad820, e820, hx820_0⟩ := Kd.at_int HR1.out x13_1 p820 q820
          cases e820
          replace hx820_0 := (HB.out.cell (World.block_lt_of_cell? w _ hx820_0)).trans hx820_0
          replace p820 := eq_true p820
          replace q820 := eq_true q820
          have p12 : 0 ≤ (x13_1 : Int) := dt
          have q12 : (x13_1 : Int) < ((x5_1.length : Int) : Int) := dt
          obtain ⟨go12, co12, eo12, gb12, gl12, cl12, HG12⟩ := Kd.R_form HO_5.out (by omega)
          (first | cases eo12 | (injection eo12 with ea_ en_ ec_; (first | subst ea_ | (injection ea_ with ea_; subst ea_)); subst ec_; clear en_))
          have GB12 := Aside0.mk gb12
          have GG12 := Aside0.mk HG12
          clear gb12 gl12 HG12
          obtain ⟨hx12_0, hf12_0⟩ := Kd.R_celln 0 HO_5.out (x13_1 : Int) p12 q12
          replace p12 := eq_true p12
          replace q12 := eq_true q12
          have HP13 := Kd.R_putg HO_5.out (x13_1 : Int) ((wrap64 ((wrap64 (x6_1 + (wrap64 (rd l0 x13_1)))) - (wrap64 (rd l1 x13_1)))) % 4294967296)
          go_wp2_with (first | ((with_reducible refine gate_store (t := 117) (p := 38) rfl ?_); refine store_event (t := 117) (p := 38) (v := ?vo_w14) (w1 := (wr.setCell ⟨go12, (x13_1 : Int).toNat, none⟩ (.int .u32 ((wrap64 ((wrap64 (x6_1 + (wrap64 (rd l0 x13_1)))) - (wrap64 (rd l1 x13_1)))) % 4294967296)))) ?hg ?ho ?hn ?hr ?_; (case ho => rfl); (case hg => rfl); (case hn => rfl); (case hr => first | (go_simp; done) | (go_simp; rfl)); intro w14 hw; have hg : wr.grownBy w14 (some go12) := (by rw [hw]; exact HP13.2); have hp_ : Kd.R (Kd.int .u32) 117 w14 w.heap.size (fun k_ => (w.heap.size ≤ k_)) (.slice (some ⟨go12, 0, none⟩) x5_1.length co12) y821 := (by rw [hw, Ny821.out]; exact HP13.1); clear HP13; replace HO_5 := Aside0.mk (hp_); replace HB := Aside0.mk ((by rw [hw]; exact below_set (HB.out) GB12.out : Below w.heap.size w w14)); clear hg hw hp_))
          go_roundg k1
          case measure => have := HK1.out; omega
          case rel => exact ⟨(y821), ((wrap64 ((wrap64 (x6_1 + (wrap64 (rd l0 x13_1)))) - (wrap64 (rd l1 x13_1)))) / 4294967296), (wrap64 (x13_1 + 1)), sv, sv, H', ⟨by have := HK1.out; omega⟩, ⟨by exact rl HO_5⟩, ⟨by first | exact bl HB | exact HB.out⟩⟩
         ·rw [if_neg c11] at H
          exact absurd H (by simp)
        ·rw [if_neg c10] at H
         have c10b0 : decide (x13_1 < (l1.length : Int)) = false := decide_eq_false c10
         clear c10
         by_cases c15 : x13_1 < (x5_1.length : Int)
         ·rw [if_pos c15] at H
          have c15b0 : decide (x13_1 < (x5_1.length : Int)) = true := decide_eq_true c15
          clear c15
          obtain ⟨y822, hy822⟩ : ∃ y_ : List Int, y_ = (x5_1.set (x13_1 : Int).toNat ((wrap64 (x6_1 + (wrap64 (rd l0 x13_1)))) % 4294967296)) := ⟨_, rfl⟩
          replace H : (bignat_Nat_Sub.l0 k1 l0 l1 y822 ((wrap64 (x6_1 + (wrap64 (rd l0 x13_1)))) / 4294967296) (l0.length : Int) (wrap64 (x13_1 + 1))) = some r := by first | (rw [hy822]; with_reducible exact H) | (have H2_ := (Option.bind_some _ _).symm.trans H; rw [hy822]; with_reducible exact H2_) | (have H2_ := (Option.bind_some _ _).symm.trans H; with_reducible exact H2_) | with_reducible exact H | (rw [hy822]; exact H) | exact H
          have Ny822 := Aside0.mk hy822
          clear hy822
          have H' := Aside0.mk H
          clear H
          have p819 : 0 ≤ (x13_1 : Int) := dt
          have q819 : x13_1 < (l0.length : Int) := dt
          obtain ⟨ad819, e819, hx819_0⟩ := Kd.at_int HR0.out x13_1 p819 q819
          cases e819
          replace hx819_0 := (HB.out.cell (World.block_lt_of_cell? w _ hx819_0)).trans hx819_0
          replace p819 := eq_true p819
          replace q819 := eq_true q819
          have p16 : 0 ≤ (x13_1 : Int) := dt
          have q16 : (x13_1 : Int) < ((x5_1.length : Int) : Int) := dt
          obtain ⟨go16, co16, eo16, gb16, gl16, cl16, HG16⟩ := Kd.R_form HO_5.out (by omega)
          (first | cases eo16 | (injection eo16 with ea_ en_ ec_; (first | subst ea_ | (injection ea_ with ea_; subst ea_)); subst ec_; clear en_))
          have GB16 := Aside0.mk gb16
          have GG16 := Aside0.mk HG16
          clear gb16 gl16 HG16
          obtain ⟨hx16_0, hf16_0⟩ := Kd.R_celln 0 HO_5.out (x13_1 : Int) p16 q16
          replace p16 := eq_true p16
          replace q16 := eq_true q16
          have HP17 := Kd.R_putg HO_5.out (x13_1 : Int) ((wrap64 (x6_1 + (wrap64 (rd l0 x13_1)))) % 4294967296)
          go_wp2_with (first | ((with_reducible refine gate_store (t := 117) (p := 38) rfl ?_); refine store_event (t := 117) (p := 38) (v := ?vo_w18) (w1 := (wr.setCell ⟨go16, (x13_1 : Int).toNat, none⟩ (.int .u32 ((wrap64 (x6_1 + (wrap64 (rd l0 x13_1)))) % 4294967296)))) ?hg ?ho ?hn ?hr ?_; (case ho => rfl); (case hg => rfl); (case hn => rfl); (case hr => first | (go_simp; done) | (go_simp; rfl)); intro w18 hw; have hg : wr.grownBy w18 (some go16) := (by rw [hw]; exact HP17.2); have hp_ : Kd.R (Kd.int .u32) 117 w18 w.heap.size (fun k_ => (w.heap.size ≤ k_)) (.slice (some ⟨go16, 0, none⟩) x5_1.length co16) y822 := (by rw [hw, Ny822.out]; exact HP17.1); clear HP17; replace HO_5 := Aside0.mk (hp_); replace HB := Aside0.mk ((by rw [hw]; exact below_set (HB.out) GB16.out : Below w.heap.size w w18)); clear hg hw hp_))
          go_roundg k1
          case measure => have := HK1.out; omega
          case rel => exact ⟨(y822), ((wrap64 (x6_1 + (wrap64 (rd l0 x13_1)))) / 4294967296), (wrap64 (x13_1 + 1)), sv, sv, H', ⟨by have := HK1.out; omega⟩, ⟨by exact rl HO_5⟩, ⟨by first | exact bl HB | exact HB.out⟩⟩
         ·rw [if_neg c15] at H
          exact absurd H (by simp)
       ·rw [if_neg c9] at H
        exact absurd H (by simp)
      ·rw [if_neg c8] at H
       exact absurd H (by simp)
     ·rw [if_neg c7] at H
      have c7b0 : decide (x13_1 < (l0.length : Int)) = false := decide_eq_false c7
      clear c7
      replace H := Option.bind_eq_some_iff.mp H
      obtain ⟨t823, A190, H⟩ := H
      replace H : (some t823) = some r := H
      have A19 := Aside0.mk A190
      clear A190
      obtain rfl := Option.some.inj H
      obtain ⟨Ao20, co20, eo20⟩ := Kd.R_slice HO_5.out
      subst eo20
      go_wp2_with (first | ((with_reducible refine gate_callee (f := 119) rfl ?_); refine goesL_ (some 43) rfl rfl Try.func119 (by kernel_rfl) rfl #[.slice Ao20 x5_1.length co20] rfl ga ?_; (with_reducible refine (bignat_norm.calls k1 (fun k_ => some k_ = (.slice Ao20 x5_1.length co20 : Value).ownBlock) _ _ x5_1 t823 _ ?side1 A19.out).mono ?_); (case side1 => exact Kd.R_V (Kd.R_tight rfl (HO_5.out))); rintro e w21 ⟨v824, rfl, ho0, hb⟩; refine ⟨_, rfl, ?_⟩; have HO825 := Aside0.mk (Kd.V_lower (Kd.V_mono (ok' := fun k_ => (w.heap.size ≤ k_)) ho0 (fun k_ hk_ => Or.elim hk_ (fun hs_ => ((HO_5.out).1 k_ hs_.symm)) (fun hn_ => (Nat.le_trans (below_size (by first | exact bl HB | exact HB.out)) hn_)))) (below_size (by first | exact bl HB | exact HB.out))); replace HO_5 := Aside0.mk (Kd.R_below (rl HO_5) hb); replace HB := hs HB hb; (try clear hb); (try clear ho0)))
      go_ret
      exact ⟨_, er, by (with_reducible repeat (first | apply Kd.V_alloc | apply Kd.V_drewN | apply Kd.V_drew)); exact HO825.out, by first | exact bl HB | exact HB.out⟩
  ·rw [if_neg c4] at H
   exact absurd H (by simp)
 ·rw [if_neg c3] at H
  exact absurd H (by simp)
end Go.Proofs.Ytccgfmjcldifcaa.P
