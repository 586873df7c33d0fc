/- Walks of Go functions: what they compute; each theorem's conditions stand in it. -/
import Derived.Test.YtccgfmjcldifcaaT
import Derived.Test.YtccgfmjcldifcaaCCmp
import Derived.Test.YtccgfmjcldifcaaDA
namespace Go.Proofs.Ytccgfmjcldifcaa.P
open Go.RowKit Go.Proofs.YtccgfmjcldifcaaW.PrintWords Go.Proofs.YtccgfmjcldifcaaW.PrintLast Go.Proofs.YtccgfmjcldifcaaW.PrintMore
attribute [local go_sem] max2_int min2_int max_two min_two max_three min_three max_four min_four
set_option linter.unusedVariables false
set_option linter.unusedSimpArgs false
set_option maxHeartbeats 8000000 in
set_option maxRecDepth 100000 in
theorem bignat_Nat_Add.callsT (k : Nat) (A0 : Option Addr) (c0 : Nat) (l0 : List Int) (A1 : Option Addr) (c1 : Nat) (l1 : List Int) (r : List Int) (w : World) (hr0 : Kd.C (Kd.int .u32) w A0 l0.length l0) (hc0 : l0.length ≤ c0) (hr1 : Kd.C (Kd.int .u32) w A1 l1.length l1) (hc1 : l1.length ≤ c1) (hp : (l0.length : Int) < (l1.length : Int)) (h : bignat_Nat_Add.g k l1 l0 = some r) :
  Calls Try.prog 79 #[.slice A0 l0.length c0, .slice A1 l1.length c1] w fun e w' => ∃ v0_ : Value, e = .returned (v0_) ∧ Kd.V (Kd.int .u32) 117 w' w.heap.size (fun k_ => (w.heap.size ≤ k_)) v0_ r ∧ Below w.heap.size w w' := by
 have HR0 := Aside0.mk hr0
 have HC0 := Aside0.mk hc0
 clear hr0 hc0
 have HR1 := Aside0.mk hr1
 have HC1 := Aside0.mk hc1
 clear hr1 hc1
 have HB := Aside0.mk (Below.refl w.heap.size w)
 have c0b0 : decide ((l0.length : Int) < (l1.length : Int)) = true := decide_eq_true hp
 have c0b1 : decide (l0.length < l1.length) = true := decide_eq_true (Int.ofNat_lt.1 hp)
 clear hp
 have H : (if 0 ≤ (wrap64 ((l1.length : Int) + 1)) then _ else _) = _ := h
 clear h
 obtain ⟨ji3, hji3⟩ : ∃ j_ : Int, (wrap64 ((l1.length : Int) + 1)) = j_ := ⟨_, rfl⟩
 replace H : (if 0 ≤ (ji3) then (if (ji3 : Int).toNat ≤ 70368744177664 then (bignat_Nat_Add.l0 k l1 l0 (List.replicate (ji3 : Int).toNat 0) 0 (l1.length : Int) 0) else (none)) else (none)) = some r := by first | (rw [hji3] at H; exact H) | (simp only [hji3] at H ⊢; exact H)
 have hji3w : (IntKind.i64.wrap ((l1.length : Int) + 1)) = ji3 := (i64_w _).trans hji3
 by_cases c4 : 0 ≤ (ji3)
 ·rw [if_pos c4] at H
  have c4b0 := eq_true c4
  have c4b1 : decide (0 ≤ (ji3)) = true := decide_eq_true c4
  clear c4
  by_cases c5 : (ji3 : Int).toNat ≤ 70368744177664
  ·rw [if_pos c5] at H
   have c5b0 := eq_true c5
   have c5b1 : decide ((ji3 : Int).toNat ≤ 70368744177664) = true := decide_eq_true c5
   clear c5
   obtain ⟨y322, hy322⟩ : ∃ y_ : List Int, y_ = (List.replicate (ji3 : Int).toNat 0) := ⟨_, rfl⟩
   replace H : (bignat_Nat_Add.l0 k l1 l0 y322 0 (l1.length : Int) 0) = some r := by first | (rw [hy322]; with_reducible exact H) | (have H2_ := (Option.bind_some _ _).symm.trans H; rw [hy322]; with_reducible exact H2_) | (have H2_ := (Option.bind_some _ _).symm.trans H; with_reducible exact H2_) | with_reducible exact H | (rw [hy322]; exact H) | exact H
   have Ny322 := Aside0.mk hy322
   clear hy322
   have H' := Aside0.mk H
   clear H
   go_enter Try.func79, Try.ntmps79
   go_wp2_with (first | ((with_reducible refine gate_dst (N := 18) rfl ?_); refine Kd.R_make (Kd.int .u32) _ 117 rfl (N := 18) rfl 71 _ _ rfl ji3 rfl rfl Try.underlying71 (.int .u32 0) 4 info117 rfl (by decide) (by omega) 0 (ok := fun _ => True) (okp := fun _ => True) rfl (fun _ hk => hk) trivial (dt) (Nat.le_trans (Nat.mul_le_mul_right _ (dt : ji3.toNat ≤ 70368744177664)) (by omega)) (Below.refl _ _) (Nat.le_refl _) ?_; intro v323 w6 ho7 hb hg_ hnew_; clear hg_ hnew_; (first | rw [← Ny322.out] at ho7 | (simp only [Int.reduceToNat] at ho7; rw [← Ny322.out] at ho7)); have HO324 := Aside0.mk (Kd.R_lower (Kd.R_newM (M := fun k_ => (w.heap.size ≤ k_)) ho7 (below_size (by first | exact bl HB | exact HB.out)) (fun k_ h_ => h_)) (below_size (by first | exact bl HB | exact HB.out))); replace HB := hs HB hb; clear hb ho7))
   go_loopg [6, 21] k (fun kq v6 v21 w' => ∃ (x5_1 : List Int) (x6_1 : Int) (x21_1 : Int), v6 = .int .u64 x6_1 ∧ v21 = .int .i64 x21_1 ∧ Aside0 (bignat_Nat_Add.l0 kq l1 l0 x5_1 x6_1 (l1.length : Int) x21_1 = some r) ∧ Aside0 (kq ≤ k) ∧ Aside0 (Kd.R (Kd.int .u32) 117 w' w.heap.size (fun k_ => (w.heap.size ≤ k_)) v323 x5_1) ∧ Aside0 (Below w.heap.size w w'))
   case atStart => exact ⟨(y322), (0), (0), sv, sv, H', ⟨Nat.le_refl _⟩, ⟨by (with_reducible repeat (first | apply Kd.R_alloc | apply Kd.R_drewN | apply Kd.R_drew)); exact Kd.R_mono HO324.out (fun _ hk => hk.1)⟩, ⟨by first | exact bl HB | exact HB.out⟩⟩
   case round =>
    clear H'
    try clear c1
    try clear c4b0
    try clear c4b1
    try clear c5b0
    try clear c5b1
    obtain ⟨x5_1, x6_1, x21_1, rfl, rfl, HA, HK1, HO_5, HB⟩ := hrel
    cases gk with
    | zero => exact absurd HA.out (by simp [bignat_Nat_Add.l0])
    | succ k1 =>
     have H := HA.out
     clear HA
     simp only [bignat_Nat_Add.l0] at H
     by_cases c8 : x21_1 < (l1.length : Int)
     ·rw [if_pos c8] at H
      have c8b0 : decide (x21_1 < (l1.length : Int)) = true := decide_eq_true c8
      clear c8
      by_cases c9 : 0 ≤ x21_1
      ·rw [if_pos c9] at H
       have c9b0 : decide (0 ≤ x21_1) = true := decide_eq_true c9
       clear c9
       by_cases c10 : x21_1 < (l1.length : Int)
       ·rw [if_pos c10] at H
        have c10b0 : decide (x21_1 < (l1.length : Int)) = true := decide_eq_true c10
        clear c10
        by_cases c11 : x21_1 < (l0.length : Int)
        ·rw [if_pos c11] at H
         have c11b0 : decide (x21_1 < (l0.length : Int)) = true := decide_eq_true c11
         clear c11
         by_cases c12 : x21_1 < (x5_1.length : Int)
         ·rw [if_pos c12] at H
          have c12b0 : decide (x21_1 < (x5_1.length : Int)) = true := decide_eq_true c12
          clear c12
          obtain ⟨y327, hy327⟩ : ∃ y_ : List Int, y_ = (x5_1.set (x21_1 : Int).toNat ((IntKind.u64.wrap ((IntKind.u64.wrap (x6_1 + (IntKind.u64.wrap (rd l1 x21_1)))) + (IntKind.u64.wrap (rd l0 x21_1)))) % 4294967296)) := ⟨_, rfl⟩
          replace H : (bignat_Nat_Add.l0 k1 l1 l0 y327 ((IntKind.u64.wrap ((IntKind.u64.wrap (x6_1 + (IntKind.u64.wrap (rd l1 x21_1)))) + (IntKind.u64.wrap (rd l0 x21_1)))) / 4294967296) (l1.length : Int) (wrap64 (x21_1 + 1))) = some r := by first | (rw [hy327]; with_reducible exact H) | (have H2_ := (Option.bind_some _ _).symm.trans H; rw [hy327]; with_reducible exact H2_) | (have H2_ := (Option.bind_some _ _).symm.trans H; with_reducible exact H2_) | with_reducible exact H | (rw [hy327]; exact H) | exact H
          have Ny327 := Aside0.mk hy327
          clear hy327
          have H' := Aside0.mk H
          clear H
          have p325 : 0 ≤ (x21_1 : Int) := dt
          have q325 : x21_1 < (l1.length : Int) := dt
          obtain ⟨ad325, e325, hx325_0⟩ := Kd.at_int HR1.out x21_1 p325 q325
          cases e325
          replace hx325_0 := (HB.out.cell (World.block_lt_of_cell? w _ hx325_0)).trans hx325_0
          replace p325 := eq_true p325
          replace q325 := eq_true q325
          have p326 : 0 ≤ (x21_1 : Int) := dt
          have q326 : x21_1 < (l0.length : Int) := dt
          obtain ⟨ad326, e326, hx326_0⟩ := Kd.at_int HR0.out x21_1 p326 q326
          cases e326
          replace hx326_0 := (HB.out.cell (World.block_lt_of_cell? w _ hx326_0)).trans hx326_0
          replace p326 := eq_true p326
          replace q326 := eq_true q326
          have p13 : 0 ≤ (x21_1 : Int) := dt
          have q13 : (x21_1 : Int) < ((x5_1.length : Int) : Int) := dt
          obtain ⟨go13, co13, eo13, gb13, gl13, cl13, HG13⟩ := Kd.R_form HO_5.out (by omega)
          (first | cases eo13 | (injection eo13 with ea_ en_ ec_; (first | subst ea_ | (injection ea_ with ea_; subst ea_)); subst ec_; clear en_))
          have GB13 := Aside0.mk gb13
          have GG13 := Aside0.mk HG13
          clear gb13 gl13 HG13
          obtain ⟨hx13_0, hf13_0⟩ := Kd.R_celln 0 HO_5.out (x21_1 : Int) p13 q13
          replace p13 := eq_true p13
          replace q13 := eq_true q13
          have HP14 := Kd.R_putg HO_5.out (x21_1 : Int) ((IntKind.u64.wrap ((IntKind.u64.wrap (x6_1 + (IntKind.u64.wrap (rd l1 x21_1)))) + (IntKind.u64.wrap (rd l0 x21_1)))) % 4294967296)
          go_wp2_with (first | ((with_reducible refine gate_store (t := 117) (p := 46) rfl ?_); refine store_event (t := 117) (p := 46) (v := ?vo_w15) (w1 := (wr.setCell ⟨go13, (x21_1 : Int).toNat, none⟩ (.int .u32 ((IntKind.u64.wrap ((IntKind.u64.wrap (x6_1 + (IntKind.u64.wrap (rd l1 x21_1)))) + (IntKind.u64.wrap (rd l0 x21_1)))) % 4294967296)))) ?hg ?ho ?hn ?hr ?_; (case ho => rfl); (case hg => rfl); (case hn => rfl); (case hr => first | (go_simp; done) | (go_simp; rfl)); intro w15 hw; have hg : wr.grownBy w15 (some go13) := (by rw [hw]; exact HP14.2); have hp_ : Kd.R (Kd.int .u32) 117 w15 w.heap.size (fun k_ => (w.heap.size ≤ k_)) (.slice (some ⟨go13, 0, none⟩) x5_1.length co13) y327 := (by rw [hw, Ny327.out]; exact HP14.1); clear HP14; replace HO_5 := Aside0.mk (hp_); replace HB := Aside0.mk ((by rw [hw]; exact below_set (HB.out) GB13.out : Below w.heap.size w w15)); clear hg hw hp_))
          go_roundg k1
          case measure => have := HK1.out; omega
          case rel => exact ⟨(y327), ((IntKind.u64.wrap ((IntKind.u64.wrap (x6_1 + (IntKind.u64.wrap (rd l1 x21_1)))) + (IntKind.u64.wrap (rd l0 x21_1)))) / 4294967296), (wrap64 (x21_1 + 1)), sv, sv, (by first | exact H' | (simp only [hji3]; exact H')), ⟨by have := HK1.out; omega⟩, ⟨by exact rl HO_5⟩, ⟨by first | exact bl HB | exact HB.out⟩⟩
         ·rw [if_neg c12] at H
          exact absurd H (by simp)
        ·rw [if_neg c11] at H
         have c11b0 : decide (x21_1 < (l0.length : Int)) = false := decide_eq_false c11
         clear c11
         by_cases c16 : x21_1 < (x5_1.length : Int)
         ·rw [if_pos c16] at H
          have c16b0 : decide (x21_1 < (x5_1.length : Int)) = true := decide_eq_true c16
          clear c16
          obtain ⟨y328, hy328⟩ : ∃ y_ : List Int, y_ = (x5_1.set (x21_1 : Int).toNat ((IntKind.u64.wrap (x6_1 + (IntKind.u64.wrap (rd l1 x21_1)))) % 4294967296)) := ⟨_, rfl⟩
          replace H : (bignat_Nat_Add.l0 k1 l1 l0 y328 ((IntKind.u64.wrap (x6_1 + (IntKind.u64.wrap (rd l1 x21_1)))) / 4294967296) (l1.length : Int) (wrap64 (x21_1 + 1))) = some r := by first | (rw [hy328]; with_reducible exact H) | (have H2_ := (Option.bind_some _ _).symm.trans H; rw [hy328]; with_reducible exact H2_) | (have H2_ := (Option.bind_some _ _).symm.trans H; with_reducible exact H2_) | with_reducible exact H | (rw [hy328]; exact H) | exact H
          have Ny328 := Aside0.mk hy328
          clear hy328
          have H' := Aside0.mk H
          clear H
          have p325 : 0 ≤ (x21_1 : Int) := dt
          have q325 : x21_1 < (l1.length : Int) := dt
          obtain ⟨ad325, e325, hx325_0⟩ := Kd.at_int HR1.out x21_1 p325 q325
          cases e325
          replace hx325_0 := (HB.out.cell (World.block_lt_of_cell? w _ hx325_0)).trans hx325_0
          replace p325 := eq_true p325
          replace q325 := eq_true q325
          have p17 : 0 ≤ (x21_1 : Int) := dt
          have q17 : (x21_1 : Int) < ((x5_1.length : Int) : Int) := dt
          obtain ⟨go17, co17, eo17, gb17, gl17, cl17, HG17⟩ := Kd.R_form HO_5.out (by omega)
          (first | cases eo17 | (injection eo17 with ea_ en_ ec_; (first | subst ea_ | (injection ea_ with ea_; subst ea_)); subst ec_; clear en_))
          have GB17 := Aside0.mk gb17
          have GG17 := Aside0.mk HG17
          clear gb17 gl17 HG17
          obtain ⟨hx17_0, hf17_0⟩ := Kd.R_celln 0 HO_5.out (x21_1 : Int) p17 q17
          replace p17 := eq_true p17
          replace q17 := eq_true q17
          have HP18 := Kd.R_putg HO_5.out (x21_1 : Int) ((IntKind.u64.wrap (x6_1 + (IntKind.u64.wrap (rd l1 x21_1)))) % 4294967296)
          go_wp2_with (first | ((with_reducible refine gate_store (t := 117) (p := 46) rfl ?_); refine store_event (t := 117) (p := 46) (v := ?vo_w19) (w1 := (wr.setCell ⟨go17, (x21_1 : Int).toNat, none⟩ (.int .u32 ((IntKind.u64.wrap (x6_1 + (IntKind.u64.wrap (rd l1 x21_1)))) % 4294967296)))) ?hg ?ho ?hn ?hr ?_; (case ho => rfl); (case hg => rfl); (case hn => rfl); (case hr => first | (go_simp; done) | (go_simp; rfl)); intro w19 hw; have hg : wr.grownBy w19 (some go17) := (by rw [hw]; exact HP18.2); have hp_ : Kd.R (Kd.int .u32) 117 w19 w.heap.size (fun k_ => (w.heap.size ≤ k_)) (.slice (some ⟨go17, 0, none⟩) x5_1.length co17) y328 := (by rw [hw, Ny328.out]; exact HP18.1); clear HP18; replace HO_5 := Aside0.mk (hp_); replace HB := Aside0.mk ((by rw [hw]; exact below_set (HB.out) GB17.out : Below w.heap.size w w19)); clear hg hw hp_))
          go_roundg k1
          case measure => have := HK1.out; omega
          case rel => exact ⟨(y328), ((IntKind.u64.wrap (x6_1 + (IntKind.u64.wrap (rd l1 x21_1)))) / 4294967296), (wrap64 (x21_1 + 1)), sv, sv, (by first | exact H' | (simp only [hji3]; exact H')), ⟨by have := HK1.out; omega⟩, ⟨by exact rl HO_5⟩, ⟨by first | exact bl HB | exact HB.out⟩⟩
         ·rw [if_neg c16] at H
          exact absurd H (by simp)
       ·rw [if_neg c10] at H
        exact absurd H (by simp)
      ·rw [if_neg c9] at H
       exact absurd H (by simp)
     ·rw [if_neg c8] at H
      have c8b0 : decide (x21_1 < (l1.length : Int)) = false := decide_eq_false c8
      clear c8
      by_cases c20 : 0 ≤ (l1.length : Int)
      ·rw [if_pos c20] at H
       have c20b0 : decide (0 ≤ (l1.length : Int)) = true := decide_eq_true c20
       have c20b1 : decide (0 ≤ l1.length) = true := decide_eq_true (by omega)
       clear c20
       by_cases c21 : (l1.length : Int) < (x5_1.length : Int)
       ·rw [if_pos c21] at H
        have c21b0 : decide ((l1.length : Int) < (x5_1.length : Int)) = true := decide_eq_true c21
        have c21b1 : decide (l1.length < x5_1.length) = true := decide_eq_true (Int.ofNat_lt.mp c21)
        clear c21
        obtain ⟨y329, hy329⟩ : ∃ y_ : List Int, y_ = (x5_1.set ((l1.length : Int) : Int).toNat ((x6_1) % 4294967296)) := ⟨_, rfl⟩
        replace H : ((bignat_norm.f k1 y329).bind fun t330 => (some t330)) = some r := by first | (rw [hy329]; with_reducible exact H) | (have H2_ := (Option.bind_some _ _).symm.trans H; rw [hy329]; with_reducible exact H2_) | (have H2_ := (Option.bind_some _ _).symm.trans H; with_reducible exact H2_) | with_reducible exact H | (rw [hy329]; exact H) | exact H
        have Ny329 := Aside0.mk hy329
        clear hy329
        replace H := Option.bind_eq_some_iff.mp H
        obtain ⟨t330, A230, H⟩ := H
        replace H : (some t330) = some r := H
        have A23 := Aside0.mk A230
        clear A230
        obtain rfl := Option.some.inj H
        have p22 : 0 ≤ ((l1.length : Int) : Int) := dt
        have q22 : ((l1.length : Int) : Int) < ((x5_1.length : Int) : Int) := dt
        obtain ⟨go22, co22, eo22, gb22, gl22, cl22, HG22⟩ := Kd.R_form HO_5.out (by omega)
        (first | cases eo22 | (injection eo22 with ea_ en_ ec_; (first | subst ea_ | (injection ea_ with ea_; subst ea_)); subst ec_; clear en_))
        have GB22 := Aside0.mk gb22
        have GG22 := Aside0.mk HG22
        clear gb22 gl22 HG22
        obtain ⟨hx22_0, hf22_0⟩ := Kd.R_celln 0 HO_5.out ((l1.length : Int) : Int) p22 q22
        (try simp only [Int.toNat_natCast] at hx22_0 hf22_0)
        (try simp only [Int.toNat_natCast] at hx22_0 hf22_0)
        replace p22 := eq_true p22
        replace q22 := eq_true q22
        have HP24 := Kd.R_putg HO_5.out ((l1.length : Int) : Int) ((x6_1) % 4294967296)
        go_wp2_with (first | ((with_reducible refine gate_store (t := 117) (p := 55) rfl ?_); refine store_event (t := 117) (p := 55) (v := ?vo_w25) (w1 := (wr.setCell ⟨go22, ((l1.length : Int) : Int).toNat, none⟩ (.int .u32 ((x6_1) % 4294967296)))) ?hg ?ho ?hn ?hr ?_; (case ho => rfl); (case hg => rfl); (case hn => rfl); (case hr => first | (go_simp; done) | (go_simp; rfl)); intro w25 hw; have hg : wr.grownBy w25 (some go22) := (by rw [hw]; exact HP24.2); have hp_ : Kd.R (Kd.int .u32) 117 w25 w.heap.size (fun k_ => (w.heap.size ≤ k_)) (.slice (some ⟨go22, 0, none⟩) x5_1.length co22) y329 := (by rw [hw, Ny329.out]; exact HP24.1); clear HP24; replace HO_5 := Aside0.mk (hp_); replace HB := Aside0.mk ((by rw [hw]; exact below_set (HB.out) GB22.out : Below w.heap.size w w25)); clear hg hw hp_) | ((with_reducible refine gate_callee (f := 119) rfl ?_); refine goesL_ (some 57) rfl rfl Try.func119 (by kernel_rfl) rfl #[.slice (some ⟨go22, 0, none⟩) y329.length co22] rfl (by (try simp only [List.map_toArray, List.map_cons, List.map_nil]); first | done | (rw [show y329.length = x5_1.length from (Kd.R_reads' HO_5.out).1.symm] <;> rfl) | rfl | (simp only [List.length_drop, List.length_take]; rfl)) ?_; (with_reducible refine (bignat_norm.calls k1 (fun k_ => some k_ = (.slice (some ⟨go22, 0, none⟩) x5_1.length co22 : Value).ownBlock) _ _ y329 t330 _ ?side1 A23.out).mono ?_); (case side1 => rw [show y329.length = x5_1.length from (Kd.R_reads' HO_5.out).1.symm]; exact Kd.R_V (Kd.R_tight rfl (HO_5.out))); rintro e w26 ⟨v331, rfl, ho0, hb⟩; refine ⟨_, rfl, ?_⟩; have HO332 := Aside0.mk (Kd.V_lower (Kd.V_mono (ok' := fun k_ => (w.heap.size ≤ k_)) ho0 (fun k_ hk_ => Or.elim hk_ (fun hs_ => ((HO_5.out).1 k_ hs_.symm)) (fun hn_ => (Nat.le_trans (below_size (by first | exact bl HB | exact HB.out)) hn_)))) (below_size (by first | exact bl HB | exact HB.out))); replace HO_5 := Aside0.mk (Kd.R_below (rl HO_5) hb); replace HB := hs HB hb; (try clear hb); (try clear ho0)))
        go_ret
        exact ⟨_, by first | rfl | (simp [errW_none, errW_some] <;> rfl) | (simp only [← hji3]; first | rfl | (simp [errW_none, errW_some] <;> rfl)) | (simp [*, errW_none, errW_some] <;> rfl), by (with_reducible repeat (first | apply Kd.V_alloc | apply Kd.V_drewN | apply Kd.V_drew)); exact HO332.out, by first | exact bl HB | exact HB.out⟩
       ·rw [if_neg c21] at H
        exact absurd H (by simp)
      ·rw [if_neg c20] at H
       exact absurd H (by simp)
  ·rw [if_neg c5] at H
   exact absurd H (by simp)
 ·rw [if_neg c4] at H
  exact absurd H (by simp)
set_option maxHeartbeats 8000000 in
set_option maxRecDepth 100000 in
theorem bignat_Nat_Add.callsF (k : Nat) (A0 : Option Addr) (c0 : Nat) (l0 : List Int) (A1 : Option Addr) (c1 : Nat) (l1 : List Int) (r : List Int) (w : World) (hr0 : Kd.C (Kd.int .u32) w A0 l0.length l0) (hc0 : l0.length ≤ c0) (hr1 : Kd.C (Kd.int .u32) w A1 l1.length l1) (hc1 : l1.length ≤ c1) (hp : ¬ ((l0.length : Int) < (l1.length : Int))) (h : bignat_Nat_Add.g k l0 l1 = some r) :
  Calls Try.prog 79 #[.slice A0 l0.length c0, .slice A1 l1.length c1] w fun e w' => ∃ v0_ : Value, e = .returned (v0_) ∧ Kd.V (Kd.int .u32) 117 w' w.heap.size (fun k_ => (w.heap.size ≤ k_)) v0_ r ∧ Below w.heap.size w w' := by
 have HR0 := Aside0.mk hr0
 have HC0 := Aside0.mk hc0
 clear hr0 hc0
 have HR1 := Aside0.mk hr1
 have HC1 := Aside0.mk hc1
 clear hr1 hc1
 have HB := Aside0.mk (Below.refl w.heap.size w)
 have c0b0 : decide ((l0.length : Int) < (l1.length : Int)) = false := decide_eq_false hp
 have c0b1 : decide (l0.length < l1.length) = false := decide_eq_false (fun h_ => hp (Int.ofNat_lt.2 h_))
 clear hp
 have H : (if 0 ≤ (wrap64 ((l0.length : Int) + 1)) then _ else _) = _ := h
 clear h
 obtain ⟨ji3, hji3⟩ : ∃ j_ : Int, (wrap64 ((l0.length : Int) + 1)) = j_ := ⟨_, rfl⟩
 replace H : (if 0 ≤ (ji3) then (if (ji3 : Int).toNat ≤ 70368744177664 then (bignat_Nat_Add.l0 k l0 l1 (List.replicate (ji3 : Int).toNat 0) 0 (l0.length : Int) 0) else (none)) else (none)) = some r := by first | (rw [hji3] at H; exact H) | (simp only [hji3] at H ⊢; exact H)
 have hji3w : (IntKind.i64.wrap ((l0.length : Int) + 1)) = ji3 := (i64_w _).trans hji3
 by_cases c4 : 0 ≤ (ji3)
 ·rw [if_pos c4] at H
  have c4b0 := eq_true c4
  have c4b1 : decide (0 ≤ (ji3)) = true := decide_eq_true c4
  clear c4
  by_cases c5 : (ji3 : Int).toNat ≤ 70368744177664
  ·rw [if_pos c5] at H
   have c5b0 := eq_true c5
   have c5b1 : decide ((ji3 : Int).toNat ≤ 70368744177664) = true := decide_eq_true c5
   clear c5
   obtain ⟨y322, hy322⟩ : ∃ y_ : List Int, y_ = (List.replicate (ji3 : Int).toNat 0) := ⟨_, rfl⟩
   replace H : (bignat_Nat_Add.l0 k l0 l1 y322 0 (l0.length : Int) 0) = some r := by first | (rw [hy322]; with_reducible exact H) | (have H2_ := (Option.bind_some _ _).symm.trans H; rw [hy322]; with_reducible exact H2_) | (have H2_ := (Option.bind_some _ _).symm.trans H; with_reducible exact H2_) | with_reducible exact H | (rw [hy322]; exact H) | exact H
   have Ny322 := Aside0.mk hy322
   clear hy322
   have H' := Aside0.mk H
   clear H
   go_enter Try.func79, Try.ntmps79
   go_wp2_with (first | ((with_reducible refine gate_dst (N := 18) rfl ?_); refine Kd.R_make (Kd.int .u32) _ 117 rfl (N := 18) rfl 71 _ _ rfl ji3 rfl rfl Try.underlying71 (.int .u32 0) 4 info117 rfl (by decide) (by omega) 0 (ok := fun _ => True) (okp := fun _ => True) rfl (fun _ hk => hk) trivial (dt) (Nat.le_trans (Nat.mul_le_mul_right _ (dt : ji3.toNat ≤ 70368744177664)) (by omega)) (Below.refl _ _) (Nat.le_refl _) ?_; intro v323 w6 ho7 hb hg_ hnew_; clear hg_ hnew_; (first | rw [← Ny322.out] at ho7 | (simp only [Int.reduceToNat] at ho7; rw [← Ny322.out] at ho7)); have HO324 := Aside0.mk (Kd.R_lower (Kd.R_newM (M := fun k_ => (w.heap.size ≤ k_)) ho7 (below_size (by first | exact bl HB | exact HB.out)) (fun k_ h_ => h_)) (below_size (by first | exact bl HB | exact HB.out))); replace HB := hs HB hb; clear hb ho7))
   go_loopg [6, 21] k (fun kq v6 v21 w' => ∃ (x5_1 : List Int) (x6_1 : Int) (x21_1 : Int), v6 = .int .u64 x6_1 ∧ v21 = .int .i64 x21_1 ∧ Aside0 (bignat_Nat_Add.l0 kq l0 l1 x5_1 x6_1 (l0.length : Int) x21_1 = some r) ∧ Aside0 (kq ≤ k) ∧ Aside0 (Kd.R (Kd.int .u32) 117 w' w.heap.size (fun k_ => (w.heap.size ≤ k_)) v323 x5_1) ∧ Aside0 (Below w.heap.size w w'))
   case atStart => exact ⟨(y322), (0), (0), sv, sv, H', ⟨Nat.le_refl _⟩, ⟨by (with_reducible repeat (first | apply Kd.R_alloc | apply Kd.R_drewN | apply Kd.R_drew)); exact Kd.R_mono HO324.out (fun _ hk => hk.1)⟩, ⟨by first | exact bl HB | exact HB.out⟩⟩
   case round =>
    clear H'
    try clear c1
    try clear c4b0
    try clear c4b1
    try clear c5b0
    try clear c5b1
    obtain ⟨x5_1, x6_1, x21_1, rfl, rfl, HA, HK1, HO_5, HB⟩ := hrel
    cases gk with
    | zero => exact absurd HA.out (by simp [bignat_Nat_Add.l0])
    | succ k1 =>
     have H := HA.out
     clear HA
     simp only [bignat_Nat_Add.l0] at H
     by_cases c8 : x21_1 < (l0.length : Int)
     ·rw [if_pos c8] at H
      have c8b0 : decide (x21_1 < (l0.length : Int)) = true := decide_eq_true c8
      clear c8
      by_cases c9 : 0 ≤ x21_1
      ·rw [if_pos c9] at H
       have c9b0 : decide (0 ≤ x21_1) = true := decide_eq_true c9
       clear c9
       by_cases c10 : x21_1 < (l0.length : Int)
       ·rw [if_pos c10] at H
        have c10b0 : decide (x21_1 < (l0.length : Int)) = true := decide_eq_true c10
        clear c10
        by_cases c11 : x21_1 < (l1.length : Int)
        ·rw [if_pos c11] at H
         have c11b0 : decide (x21_1 < (l1.length : Int)) = true := decide_eq_true c11
         clear c11
         by_cases c12 : x21_1 < (x5_1.length : Int)
         ·rw [if_pos c12] at H
          have c12b0 : decide (x21_1 < (x5_1.length : Int)) = true := decide_eq_true c12
          clear c12
          obtain ⟨y327, hy327⟩ : ∃ y_ : List Int, y_ = (x5_1.set (x21_1 : Int).toNat ((IntKind.u64.wrap ((IntKind.u64.wrap (x6_1 + (IntKind.u64.wrap (rd l0 x21_1)))) + (IntKind.u64.wrap (rd l1 x21_1)))) % 4294967296)) := ⟨_, rfl⟩
          replace H : (bignat_Nat_Add.l0 k1 l0 l1 y327 ((IntKind.u64.wrap ((IntKind.u64.wrap (x6_1 + (IntKind.u64.wrap (rd l0 x21_1)))) + (IntKind.u64.wrap (rd l1 x21_1)))) / 4294967296) (l0.length : Int) (wrap64 (x21_1 + 1))) = some r := by first | (rw [hy327]; with_reducible exact H) | (have H2_ := (Option.bind_some _ _).symm.trans H; rw [hy327]; with_reducible exact H2_) | (have H2_ := (Option.bind_some _ _).symm.trans H; with_reducible exact H2_) | with_reducible exact H | (rw [hy327]; exact H) | exact H
          have Ny327 := Aside0.mk hy327
          clear hy327
          have H' := Aside0.mk H
          clear H
          have p325 : 0 ≤ (x21_1 : Int) := dt
          have q325 : x21_1 < (l0.length : Int) := dt
          obtain ⟨ad325, e325, hx325_0⟩ := Kd.at_int HR0.out x21_1 p325 q325
          cases e325
          replace hx325_0 := (HB.out.cell (World.block_lt_of_cell? w _ hx325_0)).trans hx325_0
          replace p325 := eq_true p325
          replace q325 := eq_true q325
          have p326 : 0 ≤ (x21_1 : Int) := dt
          have q326 : x21_1 < (l1.length : Int) := dt
          obtain ⟨ad326, e326, hx326_0⟩ := Kd.at_int HR1.out x21_1 p326 q326
          cases e326
          replace hx326_0 := (HB.out.cell (World.block_lt_of_cell? w _ hx326_0)).trans hx326_0
          replace p326 := eq_true p326
          replace q326 := eq_true q326
          have p13 : 0 ≤ (x21_1 : Int) := dt
          have q13 : (x21_1 : Int) < ((x5_1.length : Int) : Int) := dt
          obtain ⟨go13, co13, eo13, gb13, gl13, cl13, HG13⟩ := Kd.R_form HO_5.out (by omega)
          (first | cases eo13 | (injection eo13 with ea_ en_ ec_; (first | subst ea_ | (injection ea_ with ea_; subst ea_)); subst ec_; clear en_))
          have GB13 := Aside0.mk gb13
          have GG13 := Aside0.mk HG13
          clear gb13 gl13 HG13
          obtain ⟨hx13_0, hf13_0⟩ := Kd.R_celln 0 HO_5.out (x21_1 : Int) p13 q13
          replace p13 := eq_true p13
          replace q13 := eq_true q13
          have HP14 := Kd.R_putg HO_5.out (x21_1 : Int) ((IntKind.u64.wrap ((IntKind.u64.wrap (x6_1 + (IntKind.u64.wrap (rd l0 x21_1)))) + (IntKind.u64.wrap (rd l1 x21_1)))) % 4294967296)
          go_wp2_with (first | ((with_reducible refine gate_store (t := 117) (p := 46) rfl ?_); refine store_event (t := 117) (p := 46) (v := ?vo_w15) (w1 := (wr.setCell ⟨go13, (x21_1 : Int).toNat, none⟩ (.int .u32 ((IntKind.u64.wrap ((IntKind.u64.wrap (x6_1 + (IntKind.u64.wrap (rd l0 x21_1)))) + (IntKind.u64.wrap (rd l1 x21_1)))) % 4294967296)))) ?hg ?ho ?hn ?hr ?_; (case ho => rfl); (case hg => rfl); (case hn => rfl); (case hr => first | (go_simp; done) | (go_simp; rfl)); intro w15 hw; have hg : wr.grownBy w15 (some go13) := (by rw [hw]; exact HP14.2); have hp_ : Kd.R (Kd.int .u32) 117 w15 w.heap.size (fun k_ => (w.heap.size ≤ k_)) (.slice (some ⟨go13, 0, none⟩) x5_1.length co13) y327 := (by rw [hw, Ny327.out]; exact HP14.1); clear HP14; replace HO_5 := Aside0.mk (hp_); replace HB := Aside0.mk ((by rw [hw]; exact below_set (HB.out) GB13.out : Below w.heap.size w w15)); clear hg hw hp_))
          go_roundg k1
          case measure => have := HK1.out; omega
          case rel => exact ⟨(y327), ((IntKind.u64.wrap ((IntKind.u64.wrap (x6_1 + (IntKind.u64.wrap (rd l0 x21_1)))) + (IntKind.u64.wrap (rd l1 x21_1)))) / 4294967296), (wrap64 (x21_1 + 1)), sv, sv, (by first | exact H' | (simp only [hji3]; exact H')), ⟨by have := HK1.out; omega⟩, ⟨by exact rl HO_5⟩, ⟨by first | exact bl HB | exact HB.out⟩⟩
         ·rw [if_neg c12] at H
          exact absurd H (by simp)
        ·rw [if_neg c11] at H
         have c11b0 : decide (x21_1 < (l1.length : Int)) = false := decide_eq_false c11
         clear c11
         by_cases c16 : x21_1 < (x5_1.length : Int)
         ·rw [if_pos c16] at H
          have c16b0 : decide (x21_1 < (x5_1.length : Int)) = true := decide_eq_true c16
          clear c16
          obtain ⟨y328, hy328⟩ : ∃ y_ : List Int, y_ = (x5_1.set (x21_1 : Int).toNat ((IntKind.u64.wrap (x6_1 + (IntKind.u64.wrap (rd l0 x21_1)))) % 4294967296)) := ⟨_, rfl⟩
          replace H : (bignat_Nat_Add.l0 k1 l0 l1 y328 ((IntKind.u64.wrap (x6_1 + (IntKind.u64.wrap (rd l0 x21_1)))) / 4294967296) (l0.length : Int) (wrap64 (x21_1 + 1))) = some r := by first | (rw [hy328]; with_reducible exact H) | (have H2_ := (Option.bind_some _ _).symm.trans H; rw [hy328]; with_reducible exact H2_) | (have H2_ := (Option.bind_some _ _).symm.trans H; with_reducible exact H2_) | with_reducible exact H | (rw [hy328]; exact H) | exact H
          have Ny328 := Aside0.mk hy328
          clear hy328
          have H' := Aside0.mk H
          clear H
          have p325 : 0 ≤ (x21_1 : Int) := dt
          have q325 : x21_1 < (l0.length : Int) := dt
          obtain ⟨ad325, e325, hx325_0⟩ := Kd.at_int HR0.out x21_1 p325 q325
          cases e325
          replace hx325_0 := (HB.out.cell (World.block_lt_of_cell? w _ hx325_0)).trans hx325_0
          replace p325 := eq_true p325
          replace q325 := eq_true q325
          have p17 : 0 ≤ (x21_1 : Int) := dt
          have q17 : (x21_1 : Int) < ((x5_1.length : Int) : Int) := dt
          obtain ⟨go17, co17, eo17, gb17, gl17, cl17, HG17⟩ := Kd.R_form HO_5.out (by omega)
          (first | cases eo17 | (injection eo17 with ea_ en_ ec_; (first | subst ea_ | (injection ea_ with ea_; subst ea_)); subst ec_; clear en_))
          have GB17 := Aside0.mk gb17
          have GG17 := Aside0.mk HG17
          clear gb17 gl17 HG17
          obtain ⟨hx17_0, hf17_0⟩ := Kd.R_celln 0 HO_5.out (x21_1 : Int) p17 q17
          replace p17 := eq_true p17
          replace q17 := eq_true q17
          have HP18 := Kd.R_putg HO_5.out (x21_1 : Int) ((IntKind.u64.wrap (x6_1 + (IntKind.u64.wrap (rd l0 x21_1)))) % 4294967296)
          go_wp2_with (first | ((with_reducible refine gate_store (t := 117) (p := 46) rfl ?_); refine store_event (t := 117) (p := 46) (v := ?vo_w19) (w1 := (wr.setCell ⟨go17, (x21_1 : Int).toNat, none⟩ (.int .u32 ((IntKind.u64.wrap (x6_1 + (IntKind.u64.wrap (rd l0 x21_1)))) % 4294967296)))) ?hg ?ho ?hn ?hr ?_; (case ho => rfl); (case hg => rfl); (case hn => rfl); (case hr => first | (go_simp; done) | (go_simp; rfl)); intro w19 hw; have hg : wr.grownBy w19 (some go17) := (by rw [hw]; exact HP18.2); have hp_ : Kd.R (Kd.int .u32) 117 w19 w.heap.size (fun k_ => (w.heap.size ≤ k_)) (.slice (some ⟨go17, 0, none⟩) x5_1.length co17) y328 := (by rw [hw, Ny328.out]; exact HP18.1); clear HP18; replace HO_5 := Aside0.mk (hp_); replace HB := Aside0.mk ((by rw [hw]; exact below_set (HB.out) GB17.out : Below w.heap.size w w19)); clear hg hw hp_))
          go_roundg k1
          case measure => have := HK1.out; omega
          case rel => exact ⟨(y328), ((IntKind.u64.wrap (x6_1 + (IntKind.u64.wrap (rd l0 x21_1)))) / 4294967296), (wrap64 (x21_1 + 1)), sv, sv, (by first | exact H' | (simp only [hji3]; exact H')), ⟨by have := HK1.out; omega⟩, ⟨by exact rl HO_5⟩, ⟨by first | exact bl HB | exact HB.out⟩⟩
         ·rw [if_neg c16] at H
          exact absurd H (by simp)
       ·rw [if_neg c10] at H
        exact absurd H (by simp)
      ·rw [if_neg c9] at H
       exact absurd H (by simp)
     ·rw [if_neg c8] at H
      have c8b0 : decide (x21_1 < (l0.length : Int)) = false := decide_eq_false c8
      clear c8
      by_cases c20 : 0 ≤ (l0.length : Int)
      ·rw [if_pos c20] at H
       have c20b0 : decide (0 ≤ (l0.length : Int)) = true := decide_eq_true c20
       have c20b1 : decide (0 ≤ l0.length) = true := decide_eq_true (by omega)
       clear c20
       by_cases c21 : (l0.length : Int) < (x5_1.length : Int)
       ·rw [if_pos c21] at H
        have c21b0 : decide ((l0.length : Int) < (x5_1.length : Int)) = true := decide_eq_true c21
        have c21b1 : decide (l0.length < x5_1.length) = true := decide_eq_true (Int.ofNat_lt.mp c21)
        clear c21
        obtain ⟨y329, hy329⟩ : ∃ y_ : List Int, y_ = (x5_1.set ((l0.length : Int) : Int).toNat ((x6_1) % 4294967296)) := ⟨_, rfl⟩
        replace H : ((bignat_norm.f k1 y329).bind fun t330 => (some t330)) = some r := by first | (rw [hy329]; with_reducible exact H) | (have H2_ := (Option.bind_some _ _).symm.trans H; rw [hy329]; with_reducible exact H2_) | (have H2_ := (Option.bind_some _ _).symm.trans H; with_reducible exact H2_) | with_reducible exact H | (rw [hy329]; exact H) | exact H
        have Ny329 := Aside0.mk hy329
        clear hy329
        replace H := Option.bind_eq_some_iff.mp H
        obtain ⟨t330, A230, H⟩ := H
        replace H : (some t330) = some r := H
        have A23 := Aside0.mk A230
        clear A230
        obtain rfl := Option.some.inj H
        have p22 : 0 ≤ ((l0.length : Int) : Int) := dt
        have q22 : ((l0.length : Int) : Int) < ((x5_1.length : Int) : Int) := dt
        obtain ⟨go22, co22, eo22, gb22, gl22, cl22, HG22⟩ := Kd.R_form HO_5.out (by omega)
        (first | cases eo22 | (injection eo22 with ea_ en_ ec_; (first | subst ea_ | (injection ea_ with ea_; subst ea_)); subst ec_; clear en_))
        have GB22 := Aside0.mk gb22
        have GG22 := Aside0.mk HG22
        clear gb22 gl22 HG22
        obtain ⟨hx22_0, hf22_0⟩ := Kd.R_celln 0 HO_5.out ((l0.length : Int) : Int) p22 q22
        (try simp only [Int.toNat_natCast] at hx22_0 hf22_0)
        (try simp only [Int.toNat_natCast] at hx22_0 hf22_0)
        replace p22 := eq_true p22
        replace q22 := eq_true q22
        have HP24 := Kd.R_putg HO_5.out ((l0.length : Int) : Int) ((x6_1) % 4294967296)
        go_wp2_with (first | ((with_reducible refine gate_store (t := 117) (p := 55) rfl ?_); refine store_event (t := 117) (p := 55) (v := ?vo_w25) (w1 := (wr.setCell ⟨go22, ((l0.length : Int) : Int).toNat, none⟩ (.int .u32 ((x6_1) % 4294967296)))) ?hg ?ho ?hn ?hr ?_; (case ho => rfl); (case hg => rfl); (case hn => rfl); (case hr => first | (go_simp; done) | (go_simp; rfl)); intro w25 hw; have hg : wr.grownBy w25 (some go22) := (by rw [hw]; exact HP24.2); have hp_ : Kd.R (Kd.int .u32) 117 w25 w.heap.size (fun k_ => (w.heap.size ≤ k_)) (.slice (some ⟨go22, 0, none⟩) x5_1.length co22) y329 := (by rw [hw, Ny329.out]; exact HP24.1); clear HP24; replace HO_5 := Aside0.mk (hp_); replace HB := Aside0.mk ((by rw [hw]; exact below_set (HB.out) GB22.out : Below w.heap.size w w25)); clear hg hw hp_) | ((with_reducible refine gate_callee (f := 119) rfl ?_); refine goesL_ (some 57) rfl rfl Try.func119 (by kernel_rfl) rfl #[.slice (some ⟨go22, 0, none⟩) y329.length co22] rfl (by (try simp only [List.map_toArray, List.map_cons, List.map_nil]); first | done | (rw [show y329.length = x5_1.length from (Kd.R_reads' HO_5.out).1.symm] <;> rfl) | rfl | (simp only [List.length_drop, List.length_take]; rfl)) ?_; (with_reducible refine (bignat_norm.calls k1 (fun k_ => some k_ = (.slice (some ⟨go22, 0, none⟩) x5_1.length co22 : Value).ownBlock) _ _ y329 t330 _ ?side1 A23.out).mono ?_); (case side1 => rw [show y329.length = x5_1.length from (Kd.R_reads' HO_5.out).1.symm]; exact Kd.R_V (Kd.R_tight rfl (HO_5.out))); rintro e w26 ⟨v331, rfl, ho0, hb⟩; refine ⟨_, rfl, ?_⟩; have HO332 := Aside0.mk (Kd.V_lower (Kd.V_mono (ok' := fun k_ => (w.heap.size ≤ k_)) ho0 (fun k_ hk_ => Or.elim hk_ (fun hs_ => ((HO_5.out).1 k_ hs_.symm)) (fun hn_ => (Nat.le_trans (below_size (by first | exact bl HB | exact HB.out)) hn_)))) (below_size (by first | exact bl HB | exact HB.out))); replace HO_5 := Aside0.mk (Kd.R_below (rl HO_5) hb); replace HB := hs HB hb; (try clear hb); (try clear ho0)))
        go_ret
        exact ⟨_, by first | rfl | (simp [errW_none, errW_some] <;> rfl) | (simp only [← hji3]; first | rfl | (simp [errW_none, errW_some] <;> rfl)) | (simp [*, errW_none, errW_some] <;> rfl), by (with_reducible repeat (first | apply Kd.V_alloc | apply Kd.V_drewN | apply Kd.V_drew)); exact HO332.out, by first | exact bl HB | exact HB.out⟩
       ·rw [if_neg c21] at H
        exact absurd H (by simp)
      ·rw [if_neg c20] at H
       exact absurd H (by simp)
  ·rw [if_neg c5] at H
   exact absurd H (by simp)
 ·rw [if_neg c4] at H
  exact absurd H (by simp)
theorem bignat_Nat_Add.calls (k : Nat) (A0 : Option Addr) (c0 : Nat) (l0 : List Int) (A1 : Option Addr) (c1 : Nat) (l1 : List Int) (r : List Int) (w : World) (hr0 : Kd.C (Kd.int .u32) w A0 l0.length l0) (hc0 : l0.length ≤ c0) (hr1 : Kd.C (Kd.int .u32) w A1 l1.length l1) (hc1 : l1.length ≤ c1) (h : bignat_Nat_Add.f k l0 l1 = some r) :
  Calls Try.prog 79 #[.slice A0 l0.length c0, .slice A1 l1.length c1] w fun e w' => ∃ v0_ : Value, e = .returned (v0_) ∧ Kd.V (Kd.int .u32) 117 w' w.heap.size (fun k_ => (w.heap.size ≤ k_)) v0_ r ∧ Below w.heap.size w w' := by
 unfold bignat_Nat_Add.f at h
 by_cases c : (l0.length : Int) < (l1.length : Int)
 ·rw [if_pos c] at h
  exact bignat_Nat_Add.callsT k _ _ _ _ _ _ r w hr0 hc0 hr1 hc1 c h
 ·rw [if_neg c] at h
  exact bignat_Nat_Add.callsF k _ _ _ _ _ _ r w hr0 hc0 hr1 hc1 c h
end Go.Proofs.Ytccgfmjcldifcaa.P
