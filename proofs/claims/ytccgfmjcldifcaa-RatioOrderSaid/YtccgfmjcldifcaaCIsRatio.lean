/- Walks of Go functions: what they compute; each theorem's conditions stand in it. -/
import Derived.Test.YtccgfmjcldifcaaT
import Derived.Test.YtccgfmjcldifcaaCCmp
import Derived.Test.YtccgfmjcldifcaaCNatDiv
import Derived.Test.YtccgfmjcldifcaaCValid
import Derived.Test.YtccgfmjcldifcaaDA
import Derived.Test.YtccgfmjcldifcaaDE
namespace Go.Proofs.Ytccgfmjcldifcaa.P
open Go.RowKit Go.Proofs.YtccgfmjcldifcaaW.PrintWords Go.Proofs.YtccgfmjcldifcaaW.PrintLast Go.Proofs.YtccgfmjcldifcaaW.PrintMore
attribute [local go_sem] max2_int min2_int max_two min_two max_three min_three max_four min_four
set_option linter.unusedVariables false
set_option linter.unusedSimpArgs false
set_option maxHeartbeats 8000000 in
set_option maxRecDepth 100000 in
theorem ratio_IsRatio.calls (k : Nat) (a0_0 : Bool) (a0_1 : ByteArray) (a0_2 : ByteArray) (r : Bool) (w : World) (h : ratio_IsRatio.f k a0_0 a0_1 a0_2 = some r) :
  Calls Try.prog 44 #[.agg #[.bool a0_0, .string a0_1, .string a0_2]] w fun e w' => e = .returned (.bool r) ∧ Below w.heap.size w w' := by
 have hu35 := Try.underlying35
 have HB := Aside0.mk (Below.refl w.heap.size w)
 have H : Option.bind (ratio_both.f k a0_1 a0_2) _ = _ := h
 clear h
 replace H := Option.bind_eq_some_iff.mp H
 obtain ⟨⟨t510, t511, t512⟩, A20, H⟩ := H
 replace H : (if t512 = true then _ else _) = _ := H
 have A2 := Aside0.mk A20
 clear A20
 have HC3 := Aside0.mk H
 clear H
 go_enter Try.func44, Try.ntmps44
 go_upto_region 2 with (first | ((with_reducible refine gate_dst (N := 1) rfl ?_); (try (refine gate_guard (by rfl) ?_; dsimp only)); refine be (N := 1) (cs := #[.bool a0_0, .string a0_1, .string a0_2]) (t := 35) ?_; intro gb509 hg w4 hbox hb; have BK509 := Aside0.mk (hbox); have GW509 := gw HB hg; have GE509 := GW509; replace HB := hs HB hb; clear hb hbox hg; obtain ⟨hcz5_0, hcz5_1, hcz5_2, hfz5_0, hfz5_1, hfz5_2⟩ := z3 BK509) | ((with_reducible refine gate_callee (f := 73) rfl ?_); refine goesL_ (some 11) rfl rfl Try.func73 (by kernel_rfl) rfl #[.string a0_1, .string a0_2] rfl ga ?_; (with_reducible refine (ratio_both.calls k a0_1 a0_2 t510 t511 t512 _ A2.out).mono ?_); rintro e w6 ⟨v513, v515, rfl, ho0, ho1, hb⟩; refine ⟨_, rfl, ?_⟩; have HO514 := Aside0.mk (Kd.R_lower ho0 (below_size bs)); have HO516 := Aside0.mk (Kd.R_lower ho1 (below_size bs)); replace BK509 := bb BK509 hb; replace HB := hs HB hb; (try clear hb); (try clear ho0); (try clear ho1)))
 (try simp only [Act.put, List.setIfInBounds_toArray, List.set_cons_zero, List.set_cons_succ])
 go_cut [30] (fun v30 wc => ∃ (kq : Nat) (x30_2 : Bool), v30 = .bool x30_2 ∧ Aside0 (ratio_IsRatio.j0 kq t510 t511 x30_2 = some r) ∧ Aside0 (kq ≤ k) ∧ Aside0 (Kd.R (Kd.int .u32) 117 wc w.heap.size (fun k_ => some k_ ≠ (v515 : Value).ownBlock) v513 t510) ∧ Aside0 (Kd.R (Kd.int .u32) 117 wc w.heap.size (fun k_ => some k_ ≠ (v513 : Value).ownBlock) v515 t511) ∧ Aside0 (wc.heap[gb509]? = some (.cells #[.bool a0_0, .string a0_1, .string a0_2] 35 (0, 0))) ∧ Aside0 (Below w.heap.size w wc))
 case first =>
  have H := HC3.out
  clear HC3
  by_cases c7 : t512 = true
  ·subst c7
   have H1 : (if (t511.length : Int) = 0 then _ else _) = _ := (if_pos rfl).symm.trans H
   clear H
   have H := H1
   clear H1
   by_cases c8 : (t511.length : Int) = 0
   ·rw [if_pos c8] at H
    have c8b0 : ((t511.length : Int) == 0) = true := beq_iff_eq.mpr c8
    have c8b1 : ((t511.length : Int) != 0) = false := bne_eq_false_iff_eq.mpr c8
    clear c8
    (first | rw [c8b0] | (simp only [i64_w, i32_w]; rw [c8b0]) | skip)
    have H' := Aside0.mk H
    clear H
    obtain ⟨Ao9, co9, eo9⟩ := Kd.R_slice HO516.out
    subst eo9
    go_wp2
    go_meet
    case rel => exact ⟨_, (true), sv, H', ⟨by first | omega | exact Nat.le_refl _⟩, ⟨by exact rl HO514⟩, ⟨by exact rl HO516⟩, ⟨bk⟩, ⟨bs⟩⟩
   ·rw [if_neg c8] at H
    have c8b0 : ((t511.length : Int) == 0) = false := beq_eq_false_iff_ne.mpr c8
    have c8b1 : ((t511.length : Int) != 0) = true := bne_iff_ne.mpr c8
    have c8b2 : ¬ (t511 = []) := fun h_ => c8 (by rw [h_]; rfl)
    (first | rw [c8b0] | (simp only [i64_w, i32_w]; rw [c8b0]) | skip)
    by_cases c10 : a0_0 = true
    ·subst c10
     have H1 : (ratio_IsRatio.j0 k t510 t511 ((t510.length : Int) == 0)) = some r := by rw [if_pos rfl] at H; exact H
     clear H
     have H := H1
     clear H1
     have H' := Aside0.mk H
     clear H
     obtain ⟨Ao11, co11, eo11⟩ := Kd.R_slice HO516.out
     subst eo11
     obtain ⟨hcz12_0, hcz12_1, hcz12_2, hfz12_0, hfz12_1, hfz12_2⟩ := z3 BK509
     obtain ⟨Ao13, co13, eo13⟩ := Kd.R_slice HO514.out
     subst eo13
     go_wp2
     go_meet
     case rel => exact ⟨_, (((t510.length : Int) == 0)), sv, H', ⟨by first | omega | exact Nat.le_refl _⟩, ⟨by exact rl HO514⟩, ⟨by exact rl HO516⟩, ⟨bk⟩, ⟨bs⟩⟩
    ·replace c10 := Bool.eq_false_iff.mpr c10
     subst c10
     have H1 : (ratio_IsRatio.j0 k t510 t511 false) = some r := by rw [if_neg (show ¬ (false = true) by decide)] at H; exact H
     clear H
     have H := H1
     clear H1
     have H' := Aside0.mk H
     clear H
     obtain ⟨Ao14, co14, eo14⟩ := Kd.R_slice HO516.out
     subst eo14
     obtain ⟨hcz15_0, hcz15_1, hcz15_2, hfz15_0, hfz15_1, hfz15_2⟩ := z3 BK509
     go_wp2
     go_meet
     case rel => exact ⟨_, (false), sv, H', ⟨by first | omega | exact Nat.le_refl _⟩, ⟨by exact rl HO514⟩, ⟨by exact rl HO516⟩, ⟨bk⟩, ⟨bs⟩⟩
  ·replace c7 := Bool.eq_false_iff.mpr c7
   subst c7
   have H1 : (ratio_IsRatio.j0 k t510 t511 true) = some r := by rw [if_neg (show ¬ (false = true) by decide)] at H; exact H
   clear H
   have H := H1
   clear H1
   have H' := Aside0.mk H
   clear H
   go_wp2
   go_meet
   case rel => exact ⟨_, (true), sv, H', ⟨by first | omega | exact Nat.le_refl _⟩, ⟨by exact rl HO514⟩, ⟨by exact rl HO516⟩, ⟨bk⟩, ⟨bs⟩⟩
 case rest =>
  clear HC3
  try clear c7
  try clear c8b0
  try clear c8b1
  try clear c8b2
  try clear c10
  try clear hcz12_0
  try clear hcz12_1
  try clear hcz12_2
  try clear hcz15_0
  try clear hcz15_1
  try clear hcz15_2
  try clear hcz5_0
  try clear hcz5_1
  try clear hcz5_2
  try clear hfz12_0
  try clear hfz12_1
  try clear hfz12_2
  try clear hfz15_0
  try clear hfz15_1
  try clear hfz15_2
  try clear hfz5_0
  try clear hfz5_1
  try clear hfz5_2
  obtain ⟨kq, x30_2, rfl, HA, HJ2, HO_3, HO_4, BK509, HB⟩ := hcut
  cases kq with
  | zero => exact absurd HA.out (by simp [ratio_IsRatio.j0])
  | succ kj2 =>
   have H := HA.out
   clear HA
   simp only [ratio_IsRatio.j0] at H
   by_cases c16 : x30_2 = true
   ·subst c16
    have H1 : (some false) = some r := by rw [if_pos rfl] at H; exact H
    clear H
    have H := H1
    clear H1
    obtain rfl := Option.some.inj H
    go_wp2
    go_ret
    exact ⟨er, bs⟩
   ·replace c16 := Bool.eq_false_iff.mpr c16
    subst c16
    have H1 : Option.bind (bignat_Gcd.f kj2 t510 t511) _ = _ := (if_neg (show ¬ (false = true) by decide)).symm.trans H
    clear H
    have H := H1
    clear H1
    replace H := Option.bind_eq_some_iff.mp H
    obtain ⟨t517, A170, H⟩ := H
    replace H : ((bignat_Of.f kj2 1).bind fun t520 => ((bignat_Nat_Cmp.f kj2 t517 t520).bind fun t523 => (some (t523 == 0)))) = some r := H
    have A17 := Aside0.mk A170
    clear A170
    replace H := Option.bind_eq_some_iff.mp H
    obtain ⟨t520, A180, H⟩ := H
    replace H : ((bignat_Nat_Cmp.f kj2 t517 t520).bind fun t523 => (some (t523 == 0))) = some r := H
    have A18 := Aside0.mk A180
    clear A180
    replace H := Option.bind_eq_some_iff.mp H
    obtain ⟨t523, A190, H⟩ := H
    replace H : (some (t523 == 0)) = some r := H
    have A19 := Aside0.mk A190
    clear A190
    obtain rfl := Option.some.inj H
    obtain ⟨Ao20, co20, eo20⟩ := Kd.R_slice HO_3.out
    subst eo20
    obtain ⟨Ao21, co21, eo21⟩ := Kd.R_slice HO_4.out
    subst eo21
    go_wp2_with (first | ((with_reducible refine gate_callee (f := 97) rfl ?_); refine goesL_ (some 33) rfl rfl Try.func97 (by kernel_rfl) rfl #[.slice Ao20 t510.length co20, .slice Ao21 t511.length co21] rfl ga ?_; (with_reducible refine (bignat_Gcd.calls kj2 (fun k_ => some k_ = (.slice Ao20 t510.length co20 : Value).ownBlock) _ _ t510 (fun k_ => some k_ = (.slice Ao21 t511.length co21 : Value).ownBlock) _ _ t511 t517 _ ?side1 ?side2 A17.out).mono ?_); (case side1 => exact Kd.R_V (Kd.R_tight rfl (Kd.R_types (HO_3.out) BK509.out (by decide)))); (case side2 => exact Kd.R_V (Kd.R_tight rfl (Kd.R_types (HO_4.out) BK509.out (by decide)))); rintro e w22 ⟨v518, rfl, ho0, hb⟩; refine ⟨_, rfl, ?_⟩; have HO519 := Aside0.mk (Kd.V_lower (Kd.V_mono (ok' := fun k_ => k_ ≠ gb509) ho0 (fun k_ hk_ => Or.elim hk_ (fun hs_ => Or.elim hs_ (fun hs_ => ((Kd.R_types (HO_3.out) BK509.out (by decide)).1 k_ hs_.symm).2) (fun hs_ => ((Kd.R_types (HO_4.out) BK509.out (by decide)).1 k_ hs_.symm).2)) (fun hn_ => (fb BK509 k_ hn_)))) (below_size bs)); replace HO_3 := Aside0.mk (Kd.R_below (rl HO_3) hb); replace HO_4 := Aside0.mk (Kd.R_below (rl HO_4) hb); replace BK509 := bb BK509 hb; replace HB := hs HB hb; (try clear hb); (try clear ho0)) | ((with_reducible refine gate_callee (f := 106) rfl ?_); refine goesL_ (some 34) rfl rfl Try.func106 (by kernel_rfl) rfl #[.int .u64 1] rfl ga ?_; (with_reducible refine (bignat_Of.calls kj2 1 t520 _ A18.out).mono ?_); rintro e w23 ⟨v521, rfl, ho0, hb⟩; refine ⟨_, rfl, ?_⟩; replace HO519 := Aside0.mk (Kd.V_below (vl HO519) hb); have HO522 := Aside0.mk (Kd.V_lower (Kd.V_mono (ok' := fun k_ => some k_ ≠ (.slice Ao20 t510.length co20 : Value).ownBlock ∧ some k_ ≠ (.slice Ao21 t511.length co21 : Value).ownBlock ∧ k_ ≠ gb509) ho0 (fun k_ hk_ => ⟨(Kd.fresh' (Kd.R_lt (rl HO_3)) k_ hk_), (Kd.fresh' (Kd.R_lt (rl HO_4)) k_ hk_), (fb BK509 k_ hk_)⟩)) (below_size bs)); replace HO_3 := Aside0.mk (Kd.R_below (rl HO_3) hb); replace HO_4 := Aside0.mk (Kd.R_below (rl HO_4) hb); replace BK509 := bb BK509 hb; replace HB := hs HB hb; (try clear hb); (try clear ho0); obtain ⟨Ao24, co24, eo24⟩ := Kd.V_slice HO519.out; subst eo24; obtain ⟨Ao25, co25, eo25⟩ := Kd.V_slice HO522.out; subst eo25) | ((with_reducible refine gate_callee (f := 94) rfl ?_); refine goesL_ (some 35) rfl rfl Try.func94 (by kernel_rfl) rfl #[.slice Ao24 t517.length co24, .slice Ao25 t520.length co25] rfl ga ?_; (with_reducible refine (bignat_Nat_Cmp.calls kj2 _ _ t517 _ _ t520 t523 _ ?side1 ?side2 ?side3 ?side4 A19.out).mono ?_); (case side1 => exact cl ((Kd.V_reads' HO519.out).2.2)); (case side2 => exact (Kd.V_reads' HO519.out).2.1); (case side3 => exact cl ((Kd.V_reads' HO522.out).2.2)); (case side4 => exact (Kd.V_reads' HO522.out).2.1); rintro e w' ⟨rfl, ⟨nd, rfl⟩⟩; refine ⟨_, rfl, ?_⟩))
    go_ret
    exact ⟨er, bs⟩
def ratio_read.T7 : Bool × List (List Nat × List Nat) := (true, [([], []), ([], []), ([1], [1]), ([], []), ([3], [3]), ([4], [4]), ([], []), ([6], [6]), ([7, 5], [7]), ([2, 5, 8], [2, 5, 8]), ([9], [9]), ([0, 10, 8], [0, 10]), ([11, 11, 0, 1, 2, 3, 4, 5, 6, 7, 8, 9, 10, 11], [0, 11])])
def ratio_read.B7 : List Nat := [0, 0, 2, 0, 8, 24, 0, 64, 248, 510, 1022, 2047, 4095]
theorem ratio_read.tab7 : rtab .any (opsOf Try.f82 7) = ratio_read.T7 := by kernel_rfl
theorem ratio_read.bits7 : waitsOk ratio_read.T7.2 ratio_read.B7 = true := by kernel_rfl
set_option maxHeartbeats 8000000 in
set_option maxRecDepth 100000 in
theorem ratio_read.calls (k : Nat) (A0 : Option Addr) (c0 : Nat) (l0 : List (S35)) (r1 : List (S88)) (r2 : Bool) (w : World) (hr0 : Kd.C k35 w A0 l0.length l0) (hc0 : l0.length ≤ c0) (h : ratio_read.f k l0 = some (r1, r2)) :
  Calls Try.prog 82 #[.slice A0 l0.length c0] w fun e w' => ∃ v0_ : Value, e = .returned (.tuple #[v0_, .bool r2]) ∧ Kd.S k88 88 w' w.heap.size (fun _ => True) v0_ r1 ∧ Below w.heap.size w w' := by
 have hu35 := Try.underlying35
 have hu88 := Try.underlying88
 have HR0 := Aside0.mk hr0
 have HC0 := Aside0.mk hc0
 clear hr0 hc0
 have HB := Aside0.mk (Below.refl w.heap.size w)
 have H : (ratio_read.l0 k ([] : List (S88)) l0 (l0.length : Int) 0) = some (r1, r2) := h
 clear h
 have H' := Aside0.mk H
 clear H
 go_enter Try.func82, Try.ntmps82
 go_wp2
 go_loopg [4, 9] k (fun kq v4 v9 w' => ∃ (x4_1 : List (S88)) (x9_1 : Int), v9 = .int .i64 x9_1 ∧ Aside0 (ratio_read.l0 kq x4_1 l0 (l0.length : Int) x9_1 = some (r1, r2)) ∧ Aside0 (kq ≤ k) ∧ Aside0 (Kd.S k88 88 w' w.heap.size (fun _ => True) v4 x4_1) ∧ Aside0 (Below w.heap.size w w'))
 case atStart => exact ⟨(([] : List (S88))), (0), sv, H', ⟨Nat.le_refl _⟩, ⟨by first | exact Kd.S_nil _ _ _ _ _ | exact Kd.N_nil _ _ _ _ _ | exact Kd.V_nil _ _ _ _ _ | exact Kd.Q_nil _ _ _ _ _ | exact Kd.R_nil _ _ _ _ _⟩, ⟨by first | exact bl HB | exact HB.out⟩⟩
 case round =>
  clear H'
  obtain ⟨x4_1, x9_1, rfl, HA, HK1, HO_4, HB⟩ := hrel
  cases gk with
  | zero => exact absurd HA.out (by simp [ratio_read.l0])
  | succ k1 =>
   have H := HA.out
   clear HA
   simp only [ratio_read.l0] at H
   by_cases c2 : x9_1 < (l0.length : Int)
   ·rw [if_pos c2] at H
    have c2b0 : decide (x9_1 < (l0.length : Int)) = true := decide_eq_true c2
    clear c2
    by_cases c3 : 0 ≤ x9_1
    ·rw [if_pos c3] at H
     have c3b0 : decide (0 ≤ x9_1) = true := decide_eq_true c3
     clear c3
     by_cases c4 : x9_1 < (l0.length : Int)
     ·rw [if_pos c4] at H
      have c4b0 : decide (x9_1 < (l0.length : Int)) = true := decide_eq_true c4
      clear c4
      replace H := Option.bind_eq_some_iff.mp H
      obtain ⟨t526, A50, H⟩ := H
      replace H : (if t526 = true then _ else _) = _ := H
      have A5 := Aside0.mk A50
      clear A50
      by_cases c6 : t526 = true
      ·subst c6
       have H1 : Option.bind (bignat_Parse.f k1 ((rd_T35 l0 x9_1).f1)) _ = _ := (if_pos rfl).symm.trans H
       clear H
       have H := H1
       clear H1
       replace H := Option.bind_eq_some_iff.mp H
       obtain ⟨t527, A70, H⟩ := H
       replace H : Option.bind (bignat_Parse.f k1 ((rd_T35 l0 x9_1).f2)) _ = _ := H
       have A7 := Aside0.mk A70
       clear A70
       replace H := Option.bind_eq_some_iff.mp H
       obtain ⟨t530, A80, H⟩ := H
       replace H : (if x4_1.length < 2513169434916 then _ else _) = _ := H
       have A8 := Aside0.mk A80
       clear A80
       by_cases c9 : x4_1.length < 2513169434916
       ·rw [if_pos c9] at H
        have LMc9 := Aside0.mk c9
        clear c9
        obtain ⟨y533, hy533⟩ : ∃ y_ : List (S88), y_ = (x4_1 ++ [(⟨(rd_T35 l0 x9_1).f0, t527, t530⟩ : S88)]) := ⟨_, rfl⟩
        replace H : (ratio_read.l0 k1 y533 l0 (l0.length : Int) (wrap64 (x9_1 + 1))) = some (r1, r2) := by first | (rw [hy533]; with_reducible exact H) | (have H2_ := (Option.bind_some _ _).symm.trans H; rw [hy533]; with_reducible exact H2_) | (have H2_ := (Option.bind_some _ _).symm.trans H; with_reducible exact H2_) | with_reducible exact H | (rw [hy533]; exact H) | exact H
        have Ny533 := Aside0.mk hy533
        clear hy533
        have H' := Aside0.mk H
        clear H
        have p524 : 0 ≤ (x9_1 : Int) := dt
        have q524 : x9_1 < (l0.length : Int) := dt
        obtain ⟨ad524, e524, hx524_0, hx524_1, hx524_2⟩ := at_T35 HR0.out x9_1 p524 q524
        cases e524
        replace hx524_0 := (HB.out.cell (World.block_lt_of_cell? w _ hx524_0)).trans hx524_0
        replace hx524_1 := (HB.out.cell (World.block_lt_of_cell? w _ hx524_1)).trans hx524_1
        replace hx524_2 := (HB.out.cell (World.block_lt_of_cell? w _ hx524_2)).trans hx524_2
        replace p524 := eq_true p524
        replace q524 := eq_true q524
        try go_wp2_with (first | ((with_reducible refine gate_dst (N := 6) rfl ?_); refine be (N := 6) (cs := #[.bool false, .string (⟨#[]⟩ : ByteArray), .string (⟨#[]⟩ : ByteArray)]) (t := 35) ?_; intro gb525 hg w10 hbox hb; replace HO_4 := Aside0.mk (Kd.S_below (by (with_reducible repeat (first | apply Kd.S_alloc | apply Kd.S_drewN | apply Kd.S_drew)); exact HO_4.out) hb); have BK525 := Aside0.mk (hbox); have GW525 := gw HB hg; have GE525 := GW525; replace HB := hs HB hb; clear hb hbox hg; obtain ⟨hcz11_0, hcz11_1, hcz11_2, hfz11_0, hfz11_1, hfz11_2⟩ := z3 BK525) | ((with_reducible refine gate_callee (f := 44) rfl ?_); refine goesL_ (some 14) rfl rfl Try.func44 (by kernel_rfl) rfl #[.agg #[.bool ((rd_T35 l0 x9_1).f0), .string ((rd_T35 l0 x9_1).f1), .string ((rd_T35 l0 x9_1).f2)]] rfl ga ?_; (with_reducible refine (ratio_IsRatio.calls k1 ((rd_T35 l0 x9_1).f0) ((rd_T35 l0 x9_1).f1) ((rd_T35 l0 x9_1).f2) true _ A5.out).mono ?_); rintro e w12 ⟨rfl, hb⟩; refine ⟨_, rfl, ?_⟩; replace HO_4 := Aside0.mk (Kd.S_below (by (with_reducible repeat (first | apply Kd.S_alloc | apply Kd.S_drewN | apply Kd.S_drew)); exact (Kd.S_mono (Kd.S_far (p := ⟨gb525, 2, none⟩) (Kd.S_far (p := ⟨gb525, 1, none⟩) (Kd.S_far (p := ⟨gb525, 0, none⟩) (Kd.S_types HO_4.out BK525.out (by decide)) (fun _ hk => hk.2) (.bool ((rd_T35 l0 x9_1).f0))) (fun _ hk => hk.2) (.string ((rd_T35 l0 x9_1).f1))) (fun _ hk => hk.2) (.string ((rd_T35 l0 x9_1).f2))) (fun _ h_ => h_.1))) hb); replace BK525 := bq BK525 #[.bool ((rd_T35 l0 x9_1).f0), .string ((rd_T35 l0 x9_1).f1), .string ((rd_T35 l0 x9_1).f2)] hb; replace HB := hs HB hb; (try clear hb)))
        replace HO_4 := Aside0.mk (Kd.S_drew HO_4.out)
        replace BK525 := Aside0.mk (blk_drew BK525.out)
        replace HB := Aside0.mk (below_drew1 HB.out)
        refine start_ (n := 13) (S := fun w' => w'.cell? ⟨gb525, 0, none⟩ = some (.bool ((rd_T35 l0 x9_1).f0)) ∧ w'.cell? ⟨gb525, 1, none⟩ = some (.string ((rd_T35 l0 x9_1).f1)) ∧ w'.cell? ⟨gb525, 2, none⟩ = some (.string ((rd_T35 l0 x9_1).f2))) (ds := []) #[false, false, false, false, false, false, false, false, false, false, false, false, false] (by kernel_rfl) rfl rfl ⟨(blk_cell BK525.out 0).trans rfl, (blk_cell BK525.out 1).trans rfl, (blk_cell BK525.out 2).trans rfl⟩ (fun hHeld => ?_); refine with_tabW ratio_read.tab7 ratio_read.bits7 (fun HT_ HW_ => ?_)
        generalize w12.drew = w13 at HO_4 BK525 HB hHeld ⊢
        refine pu (i := 0) (N := some 16) ?_
        refine pu (i := 1) (N := some 17) ?_
        refine pu (i := 3) (N := some 19) ?_
        refine pu (i := 6) (N := some 22) ?_
        refine ta (i := 2) (N := some 18) hHeld ?_
        refine ta (i := 4) (N := some 20) hHeld ?_
        refine ta (i := 7) (N := some 23) hHeld ?_
        refine on (i := 5) (N := some 21) (fun K hK => ?_)
        refine goes_ Try.func113 (by kernel_rfl) rfl #[.string ((rd_T35 l0 x9_1).f1)] (by rfl) rfl rfl ga ?_
        with_reducible refine (bignat_Parse.calls k1 ((rd_T35 l0 x9_1).f1) t527 _ A7.out).mono ?_
        rintro e w14 ⟨v528, rfl, ho0, hb⟩
        refine ⟨_, rfl, ?_⟩
        replace HO_4 := Aside0.mk (Kd.S_elder' (by (with_reducible repeat (first | apply Kd.S_alloc | apply Kd.S_drewN | apply Kd.S_drew)); exact HO_4.out) (Kd.R_base ho0) hb)
        have HO529 := Aside0.mk (Kd.R_lower ho0 (below_size bs))
        replace BK525 := bb BK525 hb
        replace HB := hs HB hb
        (try clear hb)
        (try clear hb2)
        (try clear hk)
        (try clear hi)
        (try clear ho0)
        refine hK.out _ _ ⟨(blk_cell BK525.out 0).trans rfl, (blk_cell BK525.out 1).trans rfl, (blk_cell BK525.out 2).trans rfl⟩ (fun hHeld => ?_)
        clear hK K
        refine norm_ (a' := ?_) ?_ ?_
        rotate_left
        ·show Act.put _ (some 21) _ = _
         simp only [Act.put, List.setIfInBounds_toArray, List.set_cons_zero, List.set_cons_succ, i64_w, i32_w]
         rfl
        refine on (i := 8) (N := some 24) (fun K hK => ?_)
        refine goes_ Try.func113 (by kernel_rfl) rfl #[.string ((rd_T35 l0 x9_1).f2)] (by rfl) rfl rfl ga ?_
        with_reducible refine (bignat_Parse.calls k1 ((rd_T35 l0 x9_1).f2) t530 _ A8.out).mono ?_
        rintro e w15 ⟨v531, rfl, ho0, hb⟩
        refine ⟨_, rfl, ?_⟩
        replace HO_4 := Aside0.mk (Kd.S_elder' (by (with_reducible repeat (first | apply Kd.S_alloc | apply Kd.S_drewN | apply Kd.S_drew)); exact HO_4.out) (Kd.R_base ho0) hb)
        have HO532 := Aside0.mk (Kd.R_lower (Kd.R_new' ho0 (Kd.R_lt (rl HO529))) (below_size bs))
        replace HO529 := Aside0.mk (Kd.R_elder' (rl HO529) (Kd.R_base ho0) hb)
        replace BK525 := bb BK525 hb
        replace HB := hs HB hb
        (try clear hb)
        (try clear hb2)
        (try clear hk)
        (try clear hi)
        (try clear ho0)
        obtain ⟨Ao16, co16, eo16⟩ := Kd.R_slice HO532.out
        (first | subst eo16 | (injection eo16 with f1_ f2_ f3_; have f4_ := f1_.symm; have f5_ := f3_.symm; clear f1_ f2_ f3_; subst f4_; subst f5_))
        obtain ⟨Ao17, co17, eo17⟩ := Kd.R_slice HO529.out
        (first | subst eo17 | (injection eo17 with f1_ f2_ f3_; have f4_ := f1_.symm; have f5_ := f3_.symm; clear f1_ f2_ f3_; subst f4_; subst f5_))
        refine hK.out _ _ ⟨(blk_cell BK525.out 0).trans rfl, (blk_cell BK525.out 1).trans rfl, (blk_cell BK525.out 2).trans rfl⟩ (fun hHeld => ?_)
        clear hK K
        refine norm_ (a' := ?_) ?_ ?_
        rotate_left
        ·show Act.put _ (some 24) _ = _
         simp only [Act.put, List.setIfInBounds_toArray, List.set_cons_zero, List.set_cons_succ, i64_w, i32_w]
         rfl
        refine pu (i := 9) (N := some 25) ?_
        refine on (i := 10) (N := some 26) (fun K hK => ?_)
        refine value_ (w1 := ?_) (v := ?_) (by rfl) rfl ?_ ?_
        rotate_left 2
        ·go_simp
         constructor
         ·rfl
         ·rfl
        refine hK.out _ _ ⟨(blk_cell (blk_alloc BK525.out _) 0).trans rfl, (blk_cell (blk_alloc BK525.out _) 1).trans rfl, (blk_cell (blk_alloc BK525.out _) 2).trans rfl⟩ (fun hHeld => ?_)
        clear hK K
        refine norm_ (a' := ?_) ?_ ?_
        rotate_left
        ·show Act.put _ (some 26) _ = _
         simp only [Act.put, List.setIfInBounds_toArray, List.set_cons_zero, List.set_cons_succ, i64_w, i32_w]
         rfl
        refine on (i := 11) (N := some 27) (fun K hK => ?_)
        refine Kd.S_append_step k88 (w0 := w) w.heap.size (by rfl) (.tmp 16) (.tmp 26) 84 88 (.agg #[(.bool false), (.slice none 0 0), (.slice none 0 0)]) 56 rfl Try.underlying84 info88 rfl (by decide) (by omega) u4 x4_1 (⟨(rd_T35 l0 x9_1).f0, t527, t530⟩ : S88) [.bool ((rd_T35 l0 x9_1).f0), .slice Ao17 t527.length co17, .slice Ao16 t530.length co16] (fun _ => True) (fun k_ => some k_ = (.slice Ao17 t527.length co17 : Value).ownBlock ∨ some k_ = (.slice Ao16 t530.length co16 : Value).ownBlock) rfl rfl ?aP (fun k_ hk_ => hk_.elim (fun h_ => ((Kd.R_mono (ok' := fun k_ => ((fun _ => True)) k_ ∧ some k_ ≠ (u4 : Value).ownBlock) (Kd.R_apart' (HO529.out) (Kd.S_typed HO_4.out) (by decide)) (fun k_ hk => ⟨trivial, hk.2⟩))).1 k_ h_.symm) (fun h_ => ((Kd.R_mono (ok' := fun k_ => ((fun _ => True)) k_ ∧ some k_ ≠ (u4 : Value).ownBlock) (Kd.R_apart' (HO532.out) (Kd.S_typed HO_4.out) (by decide)) (fun k_ hk => ⟨trivial, hk.2⟩))).1 k_ h_.symm)) ?aF ?aO ?aB ?aS ?aL ?_
        (case aP => exact k88_mkM _ _ _ (⟨(rd_T35 l0 x9_1).f0, t527, t530⟩ : S88) (Kd.R_mono (Kd.R_tight rfl (Kd.R_mono (ok' := fun k_ => ((fun _ => True)) k_ ∧ some k_ ≠ (u4 : Value).ownBlock) (Kd.R_apart' (HO529.out) (Kd.S_typed HO_4.out) (by decide)) (fun k_ hk => ⟨trivial, hk.2⟩))) (fun _ h_ => Or.inl h_)) (Kd.R_mono (Kd.R_tight rfl (Kd.R_mono (ok' := fun k_ => ((fun _ => True)) k_ ∧ some k_ ≠ (u4 : Value).ownBlock) (Kd.R_apart' (HO532.out) (Kd.S_typed HO_4.out) (by decide)) (fun k_ hk => ⟨trivial, hk.2⟩))) (fun _ h_ => Or.inr (h_))))
        (case aB => exact bs)
        (case aF => exact (fun _ _ => trivial))
        (case aO => exact (by (with_reducible repeat (first | apply Kd.S_alloc | apply Kd.S_drewN | apply Kd.S_drew)); exact Kd.S_mono HO_4.out (fun k_ hk => ⟨trivial, fun e_ => e_.elim (fun h_ => hk.1.2 h_) (fun h_ => hk.2 h_)⟩)))
        (case aS => exact (below_size bs))
        (case aL => have := LMc9.out; omega)
        intro v534 w18 ho hb hg hat
        rw [← Ny533.out] at ho
        have n0_ := Aside0.mk (blk_grown (g := gb525) (o := .cells #[.bool ((rd_T35 l0 x9_1).f0), .string ((rd_T35 l0 x9_1).f1), .string ((rd_T35 l0 x9_1).f2)] 35 (0, 0)) bk hg (Kd.S_ne HO_4.out BK525.out (by decide)))
        have n1_ := Aside0.mk (hb)
        have n2_ := Aside0.mk (ho)
        clear BK525 HB HO_4 HO529 HO532
        have BK525 := n0_
        have HB := n1_
        have HO535 := n2_
        clear n0_ n1_ n2_ ho hb hg hat
        refine hK.out _ _ ⟨(blk_cell BK525.out 0).trans rfl, (blk_cell BK525.out 1).trans rfl, (blk_cell BK525.out 2).trans rfl⟩ (fun hHeld => ?_)
        clear hK K
        refine norm_ (a' := ?_) ?_ ?_
        rotate_left
        ·show Act.put _ (some 27) _ = _
         simp only [Act.put, List.setIfInBounds_toArray, List.set_cons_zero, List.set_cons_succ, i64_w, i32_w]
         rfl
        refine pu (i := 12) (N := some 4) ?_
        refine done_ (done_of HT_.out (by kernel_rfl)) ?_
        try go_wp2
        go_roundg k1
        case measure => have := HK1.out; omega
        case rel => exact ⟨(y533), (wrap64 (x9_1 + 1)), sv, H', ⟨by have := HK1.out; omega⟩, ⟨by (with_reducible repeat (first | apply Kd.S_alloc | apply Kd.S_drewN | apply Kd.S_drew)); exact HO535.out⟩, ⟨bs⟩⟩
       ·rw [if_neg c9] at H
        exact absurd H (by simp)
      ·replace c6 := Bool.eq_false_iff.mpr c6
       subst c6
       have H1 : (some (([] : List (S88)), false)) = some (r1, r2) := by rw [if_neg (show ¬ (false = true) by decide)] at H; exact H
       clear H
       have H := H1
       clear H1
       simp only [Option.some.injEq, Prod.mk.injEq] at H
       obtain ⟨rfl, rfl⟩ := H
       have p524 : 0 ≤ (x9_1 : Int) := dt
       have q524 : x9_1 < (l0.length : Int) := dt
       obtain ⟨ad524, e524, hx524_0, hx524_1, hx524_2⟩ := at_T35 HR0.out x9_1 p524 q524
       cases e524
       replace hx524_0 := (HB.out.cell (World.block_lt_of_cell? w _ hx524_0)).trans hx524_0
       replace hx524_1 := (HB.out.cell (World.block_lt_of_cell? w _ hx524_1)).trans hx524_1
       replace hx524_2 := (HB.out.cell (World.block_lt_of_cell? w _ hx524_2)).trans hx524_2
       replace p524 := eq_true p524
       replace q524 := eq_true q524
       go_wp2_with (first | ((with_reducible refine gate_dst (N := 6) rfl ?_); refine be (N := 6) (cs := #[.bool false, .string (⟨#[]⟩ : ByteArray), .string (⟨#[]⟩ : ByteArray)]) (t := 35) ?_; intro gb525 hg w19 hbox hb; replace HO_4 := Aside0.mk (Kd.S_below (by (with_reducible repeat (first | apply Kd.S_alloc | apply Kd.S_drewN | apply Kd.S_drew)); exact HO_4.out) hb); have BK525 := Aside0.mk (hbox); have GW525 := gw HB hg; have GE525 := GW525; replace HB := hs HB hb; clear hb hbox hg; obtain ⟨hcz20_0, hcz20_1, hcz20_2, hfz20_0, hfz20_1, hfz20_2⟩ := z3 BK525) | ((with_reducible refine gate_callee (f := 44) rfl ?_); refine goesL_ (some 14) rfl rfl Try.func44 (by kernel_rfl) rfl #[.agg #[.bool ((rd_T35 l0 x9_1).f0), .string ((rd_T35 l0 x9_1).f1), .string ((rd_T35 l0 x9_1).f2)]] rfl ga ?_; (with_reducible refine (ratio_IsRatio.calls k1 ((rd_T35 l0 x9_1).f0) ((rd_T35 l0 x9_1).f1) ((rd_T35 l0 x9_1).f2) false _ A5.out).mono ?_); rintro e w21 ⟨rfl, hb⟩; refine ⟨_, rfl, ?_⟩; replace HO_4 := Aside0.mk (Kd.S_below (by (with_reducible repeat (first | apply Kd.S_alloc | apply Kd.S_drewN | apply Kd.S_drew)); exact (Kd.S_mono (Kd.S_far (p := ⟨gb525, 2, none⟩) (Kd.S_far (p := ⟨gb525, 1, none⟩) (Kd.S_far (p := ⟨gb525, 0, none⟩) (Kd.S_types HO_4.out BK525.out (by decide)) (fun _ hk => hk.2) (.bool ((rd_T35 l0 x9_1).f0))) (fun _ hk => hk.2) (.string ((rd_T35 l0 x9_1).f1))) (fun _ hk => hk.2) (.string ((rd_T35 l0 x9_1).f2))) (fun _ h_ => h_.1))) hb); replace BK525 := bq BK525 #[.bool ((rd_T35 l0 x9_1).f0), .string ((rd_T35 l0 x9_1).f1), .string ((rd_T35 l0 x9_1).f2)] hb; replace HB := hs HB hb; (try clear hb)))
       go_ret2
       exact ⟨_, er, by first | exact Kd.S_nil _ _ _ _ _ | exact Kd.N_nil _ _ _ _ _ | exact Kd.V_nil _ _ _ _ _ | exact Kd.Q_nil _ _ _ _ _ | exact Kd.R_nil _ _ _ _ _, bs⟩
     ·rw [if_neg c4] at H
      exact absurd H (by simp)
    ·rw [if_neg c3] at H
     exact absurd H (by simp)
   ·rw [if_neg c2] at H
    have c2b0 : decide (x9_1 < (l0.length : Int)) = false := decide_eq_false c2
    clear c2
    simp only [Option.some.injEq, Prod.mk.injEq] at H
    obtain ⟨rfl, rfl⟩ := H
    go_wp2
    go_ret2
    exact ⟨_, er, by (with_reducible repeat (first | apply Kd.S_alloc | apply Kd.S_drewN | apply Kd.S_drew)); exact HO_4.out, by first | exact bl HB | exact HB.out⟩
end Go.Proofs.Ytccgfmjcldifcaa.P
