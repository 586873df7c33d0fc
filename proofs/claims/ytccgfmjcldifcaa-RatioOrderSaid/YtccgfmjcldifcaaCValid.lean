/- Walks of Go functions: what they compute; each theorem's conditions stand in it. -/
import Derived.Test.YtccgfmjcldifcaaT
import Derived.Test.YtccgfmjcldifcaaDA
namespace Go.Proofs.Ytccgfmjcldifcaa.P
open Go.RowKit Go.Proofs.YtccgfmjcldifcaaW.PrintWords Go.Proofs.YtccgfmjcldifcaaW.PrintLast Go.Proofs.YtccgfmjcldifcaaW.PrintMore
attribute [local go_sem] max2_int min2_int max_two min_two max_three min_three max_four min_four
set_option linter.unusedVariables false
set_option linter.unusedSimpArgs false
set_option maxHeartbeats 8000000 in
set_option maxRecDepth 100000 in
theorem ratio_Valid.calls (k : Nat) (a0 : ByteArray) (r : Bool) (w : World) (h : ratio_Valid.f k a0 = some r) :
  Calls Try.prog 80 #[.string a0] w fun e w' => e = .returned (.bool r) ∧ Drawn0 w w' := by
 have H : (if (a0.size : Int) = 0 then _ else _) = _ := h
 clear h
 have HC2 := Aside0.mk H
 clear H
 go_enter Try.func80, Try.ntmps80
 go_upto_region 1 with (fail)
 go_cut [21] (fun v21 wc => ∃ (kq : Nat) (x21_1 : Bool), v21 = .bool x21_1 ∧ Aside0 (ratio_Valid.j0 kq a0 x21_1 = some r) ∧ Aside0 (kq ≤ k) ∧ Drawn0 w wc)
 case first =>
  have H := HC2.out
  clear HC2
  by_cases c3 : (a0.size : Int) = 0
  ·rw [if_pos c3] at H
   have c3b0 : ((a0.size : Int) == 0) = true := beq_iff_eq.mpr c3
   have c3b1 : ((a0.size : Int) != 0) = false := bne_eq_false_iff_eq.mpr c3
   clear c3
   (first | rw [c3b0] | (simp only [i64_w, i32_w]; rw [c3b0]) | skip)
   have H' := Aside0.mk H
   clear H
   go_wp2
   go_meet
   case rel => exact ⟨_, (true), sv, H', ⟨by first | omega | exact Nat.le_refl _⟩, by repeat (first | exact Drawn0.refl _ | apply Drawn0.step)⟩
  ·rw [if_neg c3] at H
   have c3b0 : ((a0.size : Int) == 0) = false := beq_eq_false_iff_ne.mpr c3
   have c3b1 : ((a0.size : Int) != 0) = true := bne_iff_ne.mpr c3
   (first | rw [c3b0] | (simp only [i64_w, i32_w]; rw [c3b0]) | skip)
   by_cases c4 : (a0.size : Int) > 20000
   ·rw [if_pos c4] at H
    have c4b0 : decide (20000 < (a0.size : Int)) = true := decide_eq_true c4
    have c4b1 : decide (20000 < a0.size) = true := decide_eq_true (by omega)
    clear c4
    have H' := Aside0.mk H
    clear H
    go_wp2
    go_meet
    case rel => exact ⟨_, (true), sv, H', ⟨by first | omega | exact Nat.le_refl _⟩, by repeat (first | exact Drawn0.refl _ | apply Drawn0.step)⟩
   ·rw [if_neg c4] at H
    have c4b0 : decide (20000 < (a0.size : Int)) = false := decide_eq_false c4
    have c4b1 : decide (20000 < a0.size) = false := decide_eq_false (by omega)
    clear c4
    by_cases c5 : (a0.size : Int) > 1
    ·rw [if_pos c5] at H
     have c5b0 : decide (1 < (a0.size : Int)) = true := decide_eq_true c5
     have c5b1 : decide (1 < a0.size) = true := decide_eq_true (by omega)
     clear c5
     by_cases c6 : 0 < (a0.size : Int)
     ·rw [if_pos c6] at H
      have c6b0 : decide (0 < (a0.size : Int)) = true := decide_eq_true c6
      have c6b1 : decide (0 < a0.size) = true := decide_eq_true (by omega)
      clear c6
      have H' := Aside0.mk H
      clear H
      have p7 : 0 ≤ (0 : Int) := (by omega)
      have q7 : 0 < a0.size := (by have : (0 : Int) < (a0.size : Int) := dt; omega)
      have hx7 : ∀ h : 0 < a0.size, ((a0[0]'h).toNat : Int) = bt a0 0 := bt_at a0 0
      clear p7
      have qi7 : (0 < (a0.size : Int)) = True := eq_true (dt)
      replace q7 := eq_true q7
      go_wp2
      go_meet
      case rel => exact ⟨_, (((bt a0 0) == 48)), sv, H', ⟨by first | omega | exact Nat.le_refl _⟩, by repeat (first | exact Drawn0.refl _ | apply Drawn0.step)⟩
     ·rw [if_neg c6] at H
      exact absurd H (by simp)
    ·rw [if_neg c5] at H
     have c5b0 : decide (1 < (a0.size : Int)) = false := decide_eq_false c5
     have c5b1 : decide (1 < a0.size) = false := decide_eq_false (by omega)
     clear c5
     have H' := Aside0.mk H
     clear H
     go_wp2
     go_meet
     case rel => exact ⟨_, (false), sv, H', ⟨by first | omega | exact Nat.le_refl _⟩, by repeat (first | exact Drawn0.refl _ | apply Drawn0.step)⟩
 case rest =>
  clear HC2
  try clear c3b0
  try clear c3b1
  try clear c4b0
  try clear c4b1
  try clear c5b0
  try clear c5b1
  try clear c6b0
  try clear c6b1
  try clear p7
  try clear q7
  try clear hx7
  try clear qi7
  try clear p7
  try clear q7
  obtain ⟨kq, x21_1, rfl, HA, HJ1, ⟨mc1, rfl⟩⟩ := hcut
  cases kq with
  | zero => exact absurd HA.out (by simp [ratio_Valid.j0])
  | succ kj1 =>
   have H := HA.out
   clear HA
   simp only [ratio_Valid.j0] at H
   by_cases c8 : x21_1 = true
   ·subst c8
    have H1 : (some false) = some r := by rw [if_pos rfl] at H; exact H
    clear H
    have H := H1
    clear H1
    obtain rfl := Option.some.inj H
    go_wp2
    go_ret
    exact ⟨by first | rfl | (simp; done) | (simp [*]; done), by repeat (first | exact Drawn0.refl _ | apply Drawn0.step)⟩
   ·replace c8 := Bool.eq_false_iff.mpr c8
    subst c8
    have H1 : (ratio_Valid.l0 kj1 a0 0) = some r := by rw [if_neg (show ¬ (false = true) by decide)] at H; exact H
    clear H
    have H := H1
    clear H1
    have H' := Aside0.mk H
    clear H
    go_wp2
    go_loopg [3] kj1 (fun kq v3 w' => ∃ (x3_2 : Int), v3 = .int .i64 x3_2 ∧ Aside0 (ratio_Valid.l0 kq a0 x3_2 = some r) ∧ Aside0 (kq ≤ kj1) ∧ Drawn0 w w')
    case atStart => exact ⟨(0), sv, H', ⟨Nat.le_refl _⟩, by repeat (first | exact Drawn0.refl _ | apply Drawn0.step)⟩
    case round =>
     clear H'
     try clear c3b0
     try clear c3b1
     try clear c4b0
     try clear c4b1
     try clear c5b0
     try clear c5b1
     try clear c6b0
     try clear c6b1
     try clear p7
     try clear q7
     try clear hx7
     try clear qi7
     try clear c8
     try clear p7
     try clear q7
     obtain ⟨x3_2, rfl, HA, HK2, ⟨m2, rfl⟩⟩ := hrel
     cases gk with
     | zero => exact absurd HA.out (by simp [ratio_Valid.l0])
     | succ k2 =>
      have H := HA.out
      clear HA
      simp only [ratio_Valid.l0] at H
      by_cases c9 : x3_2 < (a0.size : Int)
      ·rw [if_pos c9] at H
       have c9b0 : decide (x3_2 < (a0.size : Int)) = true := decide_eq_true c9
       clear c9
       by_cases c10 : 0 ≤ x3_2
       ·rw [if_pos c10] at H
        have c10b0 : decide (0 ≤ x3_2) = true := decide_eq_true c10
        clear c10
        by_cases c12 : (bt a0 x3_2) < 48
        ·rw [if_pos c12] at H
         have c12b0 : decide ((bt a0 x3_2) < 48) = true := decide_eq_true c12
         clear c12
         obtain rfl := Option.some.inj H
         have p11 : 0 ≤ (x3_2 : Int) := dt
         have q11 : x3_2 < (a0.size : Int) := dt
         have hx11 := bt_at a0 x3_2
         replace p11 := eq_true p11
         replace q11 := eq_true q11
         go_wp2
         go_ret
         exact ⟨by first | rfl | (simp; done) | (simp [*]; done), by repeat (first | exact Drawn0.refl _ | apply Drawn0.step)⟩
        ·rw [if_neg c12] at H
         have c12b0 : decide ((bt a0 x3_2) < 48) = false := decide_eq_false c12
         clear c12
         by_cases c14 : (bt a0 x3_2) > 57
         ·rw [if_pos c14] at H
          have c14b0 : decide (57 < (bt a0 x3_2)) = true := decide_eq_true c14
          clear c14
          obtain rfl := Option.some.inj H
          have p11 : 0 ≤ (x3_2 : Int) := dt
          have q11 : x3_2 < (a0.size : Int) := dt
          have hx11 := bt_at a0 x3_2
          replace p11 := eq_true p11
          replace q11 := eq_true q11
          have p13 : 0 ≤ (x3_2 : Int) := dt
          have q13 : x3_2 < (a0.size : Int) := dt
          have hx13 := bt_at a0 x3_2
          replace p13 := eq_true p13
          replace q13 := eq_true q13
          go_wp2
          go_ret
          exact ⟨by first | rfl | (simp; done) | (simp [*]; done), by repeat (first | exact Drawn0.refl _ | apply Drawn0.step)⟩
         ·rw [if_neg c14] at H
          have c14b0 : decide (57 < (bt a0 x3_2)) = false := decide_eq_false c14
          clear c14
          have H' := Aside0.mk H
          clear H
          have p11 : 0 ≤ (x3_2 : Int) := dt
          have q11 : x3_2 < (a0.size : Int) := dt
          have hx11 := bt_at a0 x3_2
          replace p11 := eq_true p11
          replace q11 := eq_true q11
          have p13 : 0 ≤ (x3_2 : Int) := dt
          have q13 : x3_2 < (a0.size : Int) := dt
          have hx13 := bt_at a0 x3_2
          replace p13 := eq_true p13
          replace q13 := eq_true q13
          go_wp2
          go_roundg k2
          case measure => have := HJ1.out; have := HK2.out; omega
          case rel => exact ⟨(wrap64 (x3_2 + 1)), sv, H', ⟨by have := HJ1.out; have := HK2.out; omega⟩, by repeat (first | exact Drawn0.refl _ | apply Drawn0.step)⟩
       ·rw [if_neg c10] at H
        exact absurd H (by simp)
      ·rw [if_neg c9] at H
       have c9b0 : decide (x3_2 < (a0.size : Int)) = false := decide_eq_false c9
       clear c9
       obtain rfl := Option.some.inj H
       go_wp2
       go_ret
       exact ⟨by first | rfl | (simp; done) | (simp [*]; done), by repeat (first | exact Drawn0.refl _ | apply Drawn0.step)⟩
set_option maxHeartbeats 8000000 in
set_option maxRecDepth 100000 in
theorem bignat_Parse.calls (k : Nat) (a0 : ByteArray) (r : List Int) (w : World) (h : bignat_Parse.f k a0 = some r) :
  Calls Try.prog 113 #[.string a0] w fun e w' => ∃ v0_ : Value, e = .returned (v0_) ∧ Kd.R (Kd.int .u32) 117 w' w.heap.size (fun _ => True) v0_ r ∧ Below w.heap.size w w' := by
 have HB := Aside0.mk (Below.refl w.heap.size w)
 have H : (bignat_Parse.l0 k a0 ([] : List Int) 0) = some r := h
 clear h
 have H' := Aside0.mk H
 clear H
 go_enter Try.func113, Try.ntmps113
 go_wp2
 go_loopg [3, 4] k (fun kq v3 v4 w' => ∃ (x3_1 : List Int) (x4_1 : Int), v4 = .int .i64 x4_1 ∧ Aside0 (bignat_Parse.l0 kq a0 x3_1 x4_1 = some r) ∧ Aside0 (kq ≤ k) ∧ Aside0 (Kd.R (Kd.int .u32) 117 w' w.heap.size (fun _ => True) v3 x3_1) ∧ Aside0 (Below w.heap.size w w'))
 case atStart => exact ⟨(([] : List Int)), (0), sv, H', ⟨Nat.le_refl _⟩, ⟨by first | exact Kd.R_nil _ _ _ _ _ | exact Kd.N_nil _ _ _ _ _ | exact Kd.V_nil _ _ _ _ _ | exact Kd.Q_nil _ _ _ _ _ | exact Kd.S_nil _ _ _ _ _⟩, ⟨by first | exact bl HB | exact HB.out⟩⟩
 case round =>
  clear H'
  obtain ⟨x3_1, x4_1, rfl, HA, HK1, HO_3, HB⟩ := hrel
  cases gk with
  | zero => exact absurd HA.out (by simp [bignat_Parse.l0])
  | succ k1 =>
   have H := HA.out
   clear HA
   simp only [bignat_Parse.l0] at H
   by_cases c2 : x4_1 < (a0.size : Int)
   ·rw [if_pos c2] at H
    have c2b0 : decide (x4_1 < (a0.size : Int)) = true := decide_eq_true c2
    clear c2
    have HC3 := Aside0.mk H
    clear H
    go_upto_block 2 with (fail)
    go_cut [4, 5, 6] (fun v4 v5 v6 wc => ∃ (kq : Nat) (x4_2 : Int) (x5_2 : Int) (x6_2 : Int), v4 = .int .i64 x4_2 ∧ v5 = .int .u64 x5_2 ∧ v6 = .int .u64 x6_2 ∧ Aside0 (bignat_Parse.j2 kq a0 x3_1 x4_2 x5_2 x6_2 = some r) ∧ Aside0 (kq ≤ k1) ∧ Aside0 (Kd.R (Kd.int .u32) 117 wc w.heap.size (fun _ => True) u3 x3_1) ∧ Aside0 (Below w.heap.size w wc))
    case first =>
     have H := HC3.out
     clear HC3
     have H' := Aside0.mk H
     clear H
     go_wp2
     go_loopg [4, 5, 6] k1 (fun kq v4 v5 v6 w' => ∃ (x4_2 : Int) (x5_2 : Int) (x6_2 : Int), v4 = .int .i64 x4_2 ∧ v5 = .int .u64 x5_2 ∧ v6 = .int .u64 x6_2 ∧ Aside0 (bignat_Parse.l1 kq a0 x3_1 x4_2 x5_2 x6_2 = some r) ∧ Aside0 (kq ≤ k1) ∧ Aside0 (Kd.R (Kd.int .u32) 117 w' w.heap.size (fun _ => True) u3 x3_1) ∧ Aside0 (Below w.heap.size w w'))
     case atStart => exact ⟨(x4_1), (0), (1), sv, sv, sv, H', ⟨Nat.le_refl _⟩, ⟨by exact rl HO_3⟩, ⟨by first | exact bl HB | exact HB.out⟩⟩
     case round =>
      clear H'
      try clear c2b0
      obtain ⟨x4_2, x5_2, x6_2, rfl, rfl, rfl, HA, HK2, HO_3, HB⟩ := hrel
      cases gk with
      | zero => exact absurd HA.out (by simp [bignat_Parse.l1])
      | succ k2 =>
       have H := HA.out
       clear HA
       simp only [bignat_Parse.l1] at H
       by_cases c4 : x4_2 < (a0.size : Int)
       ·rw [if_pos c4] at H
        have c4b0 : decide (x4_2 < (a0.size : Int)) = true := decide_eq_true c4
        clear c4
        (first | rw [c4b0] | (simp only [i64_w, i32_w]; rw [c4b0]) | skip)
        by_cases c5 : x6_2 < 1000000000
        ·rw [if_pos c5] at H
         have c5b0 : decide (x6_2 < 1000000000) = true := decide_eq_true c5
         clear c5
         by_cases c6 : 0 ≤ x4_2
         ·rw [if_pos c6] at H
          have c6b0 : decide (0 ≤ x4_2) = true := decide_eq_true c6
          clear c6
          have H' := Aside0.mk H
          clear H
          have p7 : 0 ≤ (x4_2 : Int) := dt
          have q7 : x4_2 < (a0.size : Int) := dt
          have hx7 := bt_at a0 x4_2
          replace p7 := eq_true p7
          replace q7 := eq_true q7
          go_wp2
          go_roundg k2
          case measure => have := HK1.out; have := HK2.out; omega
          case rel => exact ⟨(wrap64 (x4_2 + 1)), (IntKind.u64.wrap ((IntKind.u64.wrap (10 * x5_2)) + (((bt a0 x4_2) - 48) % 256))), (IntKind.u64.wrap (10 * x6_2)), sv, sv, sv, H', ⟨by have := HK1.out; have := HK2.out; omega⟩, ⟨by exact rl HO_3⟩, ⟨by first | exact bl HB | exact HB.out⟩⟩
         ·rw [if_neg c6] at H
          exact absurd H (by simp)
        ·rw [if_neg c5] at H
         have c5b0 : decide (x6_2 < 1000000000) = false := decide_eq_false c5
         clear c5
         have H' := Aside0.mk H
         clear H
         go_wp2
         go_meet
         case rel => exact ⟨_, (x4_2), (x5_2), (x6_2), sv, sv, sv, H', ⟨by have := HK1.out; have := HK2.out; first | omega | exact Nat.le_refl _⟩, ⟨by exact rl HO_3⟩, ⟨by first | exact bl HB | exact HB.out⟩⟩
       ·rw [if_neg c4] at H
        have c4b0 : decide (x4_2 < (a0.size : Int)) = false := decide_eq_false c4
        clear c4
        (first | rw [c4b0] | (simp only [i64_w, i32_w]; rw [c4b0]) | skip)
        have H' := Aside0.mk H
        clear H
        go_wp2
        go_meet
        case rel => exact ⟨_, (x4_2), (x5_2), (x6_2), sv, sv, sv, H', ⟨by have := HK1.out; have := HK2.out; first | omega | exact Nat.le_refl _⟩, ⟨by exact rl HO_3⟩, ⟨by first | exact bl HB | exact HB.out⟩⟩
    case rest =>
     clear HC3
     try clear c2b0
     try clear c4b0
     try clear c5b0
     try clear c6b0
     try clear p7
     try clear q7
     try clear hx7
     try clear p7
     try clear q7
     obtain ⟨kq, x4_2, x5_2, x6_2, rfl, rfl, rfl, HA, HJ2, HO_3, HB⟩ := hcut
     cases kq with
     | zero => exact absurd HA.out (by simp [bignat_Parse.j2])
     | succ kj2 =>
      have H := HA.out
      clear HA
      simp only [bignat_Parse.j2] at H
      have H' := Aside0.mk H
      clear H
      obtain ⟨Ao8, co8, eo8⟩ := Kd.R_slice HO_3.out
      subst eo8
      go_wp2
      go_loopg [5, 34] kj2 (fun kq v5 v34 w' => ∃ (x3_3 : List Int) (x5_3 : Int) (x34_3 : Int), v5 = .int .u64 x5_3 ∧ v34 = .int .i64 x34_3 ∧ Aside0 (bignat_Parse.l2 kq a0 x3_3 x4_2 x5_3 x6_2 (x3_1.length : Int) x34_3 = some r) ∧ Aside0 (kq ≤ kj2) ∧ Aside0 (Kd.R (Kd.int .u32) 117 w' w.heap.size (fun _ => True) (.slice Ao8 x3_1.length co8) x3_3) ∧ Aside0 (Below w.heap.size w w'))
      case atStart => exact ⟨(x3_1), (x5_2), (0), sv, sv, H', ⟨Nat.le_refl _⟩, ⟨by exact rl HO_3⟩, ⟨by first | exact bl HB | exact HB.out⟩⟩
      case round =>
       clear H'
       try clear c2b0
       try clear c4b0
       try clear c5b0
       try clear c6b0
       try clear p7
       try clear q7
       try clear hx7
       try clear p7
       try clear q7
       obtain ⟨x3_3, x5_3, x34_3, rfl, rfl, HA, HK3, HO_3, HB⟩ := hrel
       have hl3_3 := (Kd.R_reads' HO_3.out).1
       rw [hl3_3] at HO_3
       (try simp only [hl3_3])
       cases gk with
       | zero => exact absurd HA.out (by simp [bignat_Parse.l2])
       | succ k3 =>
        have H := HA.out
        clear HA
        simp only [bignat_Parse.l2] at H
        by_cases c9 : x34_3 < (x3_1.length : Int)
        ·rw [if_pos c9] at H
         have c9b0 : decide (x34_3 < (x3_1.length : Int)) = true := decide_eq_true c9
         have c9b0z := c9b0
         (try simp only [hl3_3] at c9b0z)
         clear c9
         by_cases c10 : 0 ≤ x34_3
         ·rw [if_pos c10] at H
          have c10b0 : decide (0 ≤ x34_3) = true := decide_eq_true c10
          clear c10
          by_cases c11 : x34_3 < (x3_3.length : Int)
          ·rw [if_pos c11] at H
           have c11b0 : decide (x34_3 < (x3_3.length : Int)) = true := decide_eq_true c11
           have c11b0z := c11b0
           (try simp only [hl3_3] at c11b0z)
           clear c11
           obtain ⟨y116, hy116⟩ : ∃ y_ : List Int, y_ = (x3_3.set (x34_3 : Int).toNat ((IntKind.u64.wrap (x5_3 + (IntKind.u64.wrap ((IntKind.u64.wrap (rd x3_3 x34_3)) * x6_2)))) % 4294967296)) := ⟨_, rfl⟩
           replace H : (bignat_Parse.l2 k3 a0 y116 x4_2 ((IntKind.u64.wrap (x5_3 + (IntKind.u64.wrap ((IntKind.u64.wrap (rd x3_3 x34_3)) * x6_2)))) / 4294967296) x6_2 (x3_1.length : Int) (wrap64 (x34_3 + 1))) = some r := by first | (rw [hy116]; with_reducible exact H) | (have H2_ := (Option.bind_some _ _).symm.trans H; rw [hy116]; with_reducible exact H2_) | (have H2_ := (Option.bind_some _ _).symm.trans H; with_reducible exact H2_) | with_reducible exact H | (rw [hy116]; exact H) | exact H
           have Ny116 := Aside0.mk hy116
           clear hy116
           have H' := Aside0.mk H
           clear H
           have p115 : 0 ≤ (x34_3 : Int) := dt
           have q115 : x34_3 < (x3_3.length : Int) := dt
           obtain ⟨ad115, e115, hx115_0⟩ := Kd.at_int (Kd.R_reads' HO_3.out).2.2 x34_3 p115 q115
           cases e115
           replace p115 := eq_true p115
           replace q115 := eq_true q115
           have p12 : 0 ≤ (x34_3 : Int) := dt
           have q12 : (x34_3 : Int) < ((x3_3.length : Int) : Int) := dt
           obtain ⟨go12, co12, eo12, gb12, gl12, cl12, HG12⟩ := Kd.R_form HO_3.out (by omega)
           (first | cases eo12 | (injection eo12 with ea_ en_ ec_; (first | subst ea_ | (injection ea_ with ea_; subst ea_)); subst ec_; clear en_))
           have GB12 := Aside0.mk gb12
           have GG12 := Aside0.mk HG12
           clear gb12 gl12 HG12
           (first | simp only [add_plain] at hx115_0 | skip)
           obtain ⟨hx12_0, hf12_0⟩ := Kd.R_celln 0 HO_3.out (x34_3 : Int) p12 q12
           replace p12 := eq_true p12
           replace q12 := eq_true q12
           have HP13 := Kd.R_putg HO_3.out (x34_3 : Int) ((IntKind.u64.wrap (x5_3 + (IntKind.u64.wrap ((IntKind.u64.wrap (rd x3_3 x34_3)) * x6_2)))) % 4294967296)
           go_wp2_with (first | ((with_reducible refine gate_store (t := 117) (p := 50) rfl ?_); refine store_event (t := 117) (p := 50) (v := ?vo_w14) (w1 := (wr.setCell ⟨go12, (x34_3 : Int).toNat, none⟩ (.int .u32 ((IntKind.u64.wrap (x5_3 + (IntKind.u64.wrap ((IntKind.u64.wrap (rd x3_3 x34_3)) * x6_2)))) % 4294967296)))) ?hg ?ho ?hn ?hr ?_; (case ho => rfl); (case hg => rfl); (case hn => rfl); (case hr => first | (go_simp; done) | (go_simp; rfl)); intro w14 hw; have hg : wr.grownBy w14 (some go12) := (by rw [hw]; exact HP13.2); have hp_ : Kd.R (Kd.int .u32) 117 w14 w.heap.size (fun _ => True) (.slice (some ⟨go12, 0, none⟩) x3_3.length co8) y116 := (by rw [hw, Ny116.out]; exact HP13.1); clear HP13; replace HO_3 := Aside0.mk (hp_); replace HB := Aside0.mk ((by rw [hw]; exact below_set (HB.out) GB12.out : Below w.heap.size w w14)); clear hg hw hp_))
           (try simp only [← hl3_3])
           go_roundg k3
           case measure => have := HK1.out; have := HJ2.out; have := HK3.out; omega
           case rel => exact ⟨(y116), ((IntKind.u64.wrap (x5_3 + (IntKind.u64.wrap ((IntKind.u64.wrap (rd x3_3 x34_3)) * x6_2)))) / 4294967296), (wrap64 (x34_3 + 1)), sv, sv, H', ⟨by have := HK1.out; have := HJ2.out; have := HK3.out; omega⟩, ⟨by (try simp only [hl3_3]); exact rl HO_3⟩, ⟨by first | exact bl HB | exact HB.out⟩⟩
          ·rw [if_neg c11] at H
           exact absurd H (by simp)
         ·rw [if_neg c10] at H
          exact absurd H (by simp)
        ·rw [if_neg c9] at H
         have c9b0 : decide (x34_3 < (x3_1.length : Int)) = false := decide_eq_false c9
         have c9b0z := c9b0
         (try simp only [hl3_3] at c9b0z)
         clear c9
         by_cases c15 : x5_3 > 0
         ·rw [if_pos c15] at H
          have c15b0 : decide (0 < x5_3) = true := decide_eq_true c15
          clear c15
          by_cases c16 : x3_3.length < 35184372088832
          ·rw [if_pos c16] at H
           have LMc16 := Aside0.mk c16
           clear c16
           obtain ⟨y117, hy117⟩ : ∃ y_ : List Int, y_ = (x3_3 ++ [(x5_3) % 4294967296]) := ⟨_, rfl⟩
           replace H : (bignat_Parse.l0 k3 a0 y117 x4_2) = some r := by first | (rw [hy117]; with_reducible exact H) | (have H2_ := (Option.bind_some _ _).symm.trans H; rw [hy117]; with_reducible exact H2_) | (have H2_ := (Option.bind_some _ _).symm.trans H; with_reducible exact H2_) | with_reducible exact H | (rw [hy117]; exact H) | exact H
           have Ny117 := Aside0.mk hy117
           clear hy117
           have H' := Aside0.mk H
           clear H
           go_wp2_with (first | ((with_reducible refine gate_builtin (b := .append) (xs := #[.tmp 56, .tmp 59]) rfl ?_); at_builtin; refine Kd.R_append (Kd.int .u32) (w0 := w) w.heap.size rfl (.tmp 56) (.tmp 59) 71 117 (.int .u32 0) 4 rfl Try.underlying71 info117 rfl (by decide) (by omega) (.slice Ao8 x3_3.length co8) x3_3 ((x5_3) % 4294967296) [.int .u32 ((x5_3) % 4294967296)] (fun _ => True) (fun _ => False) rfl rfl ?aP (fun _ hk => hk.elim) ?aF ?aO ?aB ?aS ?aL ?_; (case aP => exact rfl); (case aB => exact (by first | exact bl HB | exact HB.out)); (case aF => exact (fun _ _ => trivial)); (case aO => exact (rl HO_3)); (case aS => exact (below_size (by first | exact bl HB | exact HB.out))); (case aL => have := LMc16.out; omega); intro v118 w17 ho hb hg hat; rw [← Ny117.out] at ho; have n0_ := Aside0.mk (hb); have n1_ := Aside0.mk (ho); clear HB; clear HO_3; have HB := n0_; have HO119 := n1_; clear n0_ n1_; clear ho hb hg hat))
           (try simp only [← hl3_3])
           go_roundg k3
           case measure => have := HK1.out; have := HJ2.out; have := HK3.out; omega
           case rel => exact ⟨(y117), (x4_2), sv, H', ⟨by have := HK1.out; have := HJ2.out; have := HK3.out; omega⟩, ⟨by (try simp only [hl3_3]); exact rl HO119⟩, ⟨by first | exact bl HB | exact HB.out⟩⟩
          ·rw [if_neg c16] at H
           exact absurd H (by simp)
         ·rw [if_neg c15] at H
          have c15b0 : decide (0 < x5_3) = false := decide_eq_false c15
          clear c15
          have H' := Aside0.mk H
          clear H
          go_wp2
          (try simp only [← hl3_3])
          go_roundg k3
          case measure => have := HK1.out; have := HJ2.out; have := HK3.out; omega
          case rel => exact ⟨(x3_3), (x4_2), sv, H', ⟨by have := HK1.out; have := HJ2.out; have := HK3.out; omega⟩, ⟨by (try simp only [hl3_3]); exact rl HO_3⟩, ⟨by first | exact bl HB | exact HB.out⟩⟩
   ·rw [if_neg c2] at H
    have c2b0 : decide (x4_1 < (a0.size : Int)) = false := decide_eq_false c2
    clear c2
    obtain rfl := Option.some.inj H
    go_wp2
    go_ret
    exact ⟨_, er, by (with_reducible repeat (first | apply Kd.R_alloc | apply Kd.R_drewN | apply Kd.R_drew)); exact HO_3.out, by first | exact bl HB | exact HB.out⟩
set_option maxHeartbeats 8000000 in
set_option maxRecDepth 100000 in
theorem ratio_both.calls (k : Nat) (a0 : ByteArray) (a1 : ByteArray) (r1 : List Int) (r2 : List Int) (r3 : Bool) (w : World) (h : ratio_both.f k a0 a1 = some (r1, r2, r3)) :
  Calls Try.prog 73 #[.string a0, .string a1] w fun e w' => ∃ v0_ v1_ : Value, e = .returned (.tuple #[v0_, v1_, .bool r3]) ∧ Kd.R (Kd.int .u32) 117 w' w.heap.size (fun k_ => some k_ ≠ (v1_ : Value).ownBlock) v0_ r1 ∧ Kd.R (Kd.int .u32) 117 w' w.heap.size (fun k_ => some k_ ≠ (v0_ : Value).ownBlock) v1_ r2 ∧ Below w.heap.size w w' := by
 have HB := Aside0.mk (Below.refl w.heap.size w)
 have H : Option.bind (ratio_Valid.f k a0) _ = _ := h
 clear h
 have HC3 := Aside0.mk H
 clear H
 go_enter Try.func73, Try.ntmps73
 go_upto_region 1 with (fail)
 go_cut [14] (fun v14 wc => ∃ (kq : Nat) (x14_2 : Bool), v14 = .bool x14_2 ∧ Aside0 (ratio_both.j0 kq a0 a1 x14_2 = some (r1, r2, r3)) ∧ Aside0 (kq ≤ k) ∧ Aside0 (Below w.heap.size w wc))
 case first =>
  have H := HC3.out
  clear HC3
  replace H := Option.bind_eq_some_iff.mp H
  obtain ⟨t120, A40, H⟩ := H
  replace H : (if t120 = true then _ else _) = _ := H
  have A4 := Aside0.mk A40
  clear A40
  by_cases c5 : t120 = true
  ·subst c5
   have H1 : ((ratio_Valid.f k a1).bind fun t121 => (ratio_both.j0 k a0 a1 (!t121))) = some (r1, r2, r3) := by rw [if_pos rfl] at H; exact H
   clear H
   have H := H1
   clear H1
   replace H := Option.bind_eq_some_iff.mp H
   obtain ⟨t121, A60, H⟩ := H
   replace H : (ratio_both.j0 k a0 a1 (!t121)) = some (r1, r2, r3) := H
   have A6 := Aside0.mk A60
   clear A60
   have H' := Aside0.mk H
   clear H
   go_wp2_with (first | ((with_reducible refine gate_callee (f := 80) rfl ?_); refine goesL_ (some 8) rfl rfl Try.func80 (by kernel_rfl) rfl #[.string a0] rfl ga ?_; (with_reducible refine (ratio_Valid.calls k a0 true _ A4.out).mono ?_); rintro e w' ⟨rfl, ⟨nd, rfl⟩⟩; refine ⟨_, rfl, ?_⟩) | (go_at_call 80; (with_reducible refine (ratio_Valid.calls k a1 t121 _ A6.out).mono ?_); rintro e w' ⟨rfl, ⟨nd, rfl⟩⟩))
   go_meet
   case rel => exact ⟨_, (!t121), sv, H', ⟨by first | omega | exact Nat.le_refl _⟩, ⟨by first | exact bl HB | exact HB.out⟩⟩
  ·replace c5 := Bool.eq_false_iff.mpr c5
   subst c5
   have H1 : (ratio_both.j0 k a0 a1 true) = some (r1, r2, r3) := by rw [if_neg (show ¬ (false = true) by decide)] at H; exact H
   clear H
   have H := H1
   clear H1
   have H' := Aside0.mk H
   clear H
   go_wp2_with (first | ((with_reducible refine gate_callee (f := 80) rfl ?_); refine goesL_ (some 8) rfl rfl Try.func80 (by kernel_rfl) rfl #[.string a0] rfl ga ?_; (with_reducible refine (ratio_Valid.calls k a0 false _ A4.out).mono ?_); rintro e w' ⟨rfl, ⟨nd, rfl⟩⟩; refine ⟨_, rfl, ?_⟩))
   go_meet
   case rel => exact ⟨_, (true), sv, H', ⟨by first | omega | exact Nat.le_refl _⟩, ⟨by first | exact bl HB | exact HB.out⟩⟩
 case rest =>
  clear HC3
  obtain ⟨kq, x14_2, rfl, HA, HJ2, HB⟩ := hcut
  cases kq with
  | zero => exact absurd HA.out (by simp [ratio_both.j0])
  | succ kj2 =>
   have H := HA.out
   clear HA
   simp only [ratio_both.j0] at H
   by_cases c7 : x14_2 = true
   ·subst c7
    have H1 : (some (([] : List Int), ([] : List Int), false)) = some (r1, r2, r3) := by rw [if_pos rfl] at H; exact H
    clear H
    have H := H1
    clear H1
    simp only [Option.some.injEq, Prod.mk.injEq] at H
    obtain ⟨rfl, rfl, rfl⟩ := H
    go_wp2
    go_ret3
    exact ⟨_, _, er, by first | exact Kd.R_nil _ _ _ _ _ | exact Kd.N_nil _ _ _ _ _ | exact Kd.V_nil _ _ _ _ _ | exact Kd.Q_nil _ _ _ _ _ | exact Kd.S_nil _ _ _ _ _, by first | exact Kd.R_nil _ _ _ _ _ | exact Kd.N_nil _ _ _ _ _ | exact Kd.V_nil _ _ _ _ _ | exact Kd.Q_nil _ _ _ _ _ | exact Kd.S_nil _ _ _ _ _, by first | exact bl HB | exact HB.out⟩
   ·replace c7 := Bool.eq_false_iff.mpr c7
    subst c7
    have H1 : Option.bind (bignat_Parse.f kj2 a0) _ = _ := (if_neg (show ¬ (false = true) by decide)).symm.trans H
    clear H
    have H := H1
    clear H1
    replace H := Option.bind_eq_some_iff.mp H
    obtain ⟨t122, A80, H⟩ := H
    replace H : ((bignat_Parse.f kj2 a1).bind fun t125 => (some (t122, t125, true))) = some (r1, r2, r3) := H
    have A8 := Aside0.mk A80
    clear A80
    replace H := Option.bind_eq_some_iff.mp H
    obtain ⟨t125, A90, H⟩ := H
    replace H : (some (t122, t125, true)) = some (r1, r2, r3) := H
    have A9 := Aside0.mk A90
    clear A90
    simp only [Option.some.injEq, Prod.mk.injEq] at H
    obtain ⟨rfl, rfl, rfl⟩ := H
    go_wp2_with (first | ((with_reducible refine gate_callee (f := 113) rfl ?_); refine goesL_ (some 16) rfl rfl Try.func113 (by kernel_rfl) rfl #[.string a0] rfl ga ?_; (with_reducible refine (bignat_Parse.calls kj2 a0 t122 _ A8.out).mono ?_); rintro e w10 ⟨v123, rfl, ho0, hb⟩; refine ⟨_, rfl, ?_⟩; have HO124 := Aside0.mk (Kd.R_lower ho0 (below_size (by first | exact bl HB | exact HB.out))); replace HB := hs HB hb; (try clear hb); (try clear ho0)) | ((with_reducible refine gate_callee (f := 113) rfl ?_); refine goesL_ (some 18) rfl rfl Try.func113 (by kernel_rfl) rfl #[.string a1] rfl ga ?_; (with_reducible refine (bignat_Parse.calls kj2 a1 t125 _ A9.out).mono ?_); rintro e w11 ⟨v126, rfl, ho0, hb⟩; refine ⟨_, rfl, ?_⟩; have HO127 := Aside0.mk (Kd.R_lower (Kd.R_new' ho0 (Kd.R_lt (rl HO124))) (below_size (by first | exact bl HB | exact HB.out))); replace HO124 := Aside0.mk (Kd.R_elder' (rl HO124) (Kd.R_base ho0) hb); replace HB := hs HB hb; (try clear hb); (try clear ho0)))
    go_ret3
    exact ⟨_, _, er, by (with_reducible repeat (first | apply Kd.R_alloc | apply Kd.R_drewN | apply Kd.R_drew)); exact Kd.R_mono HO124.out (fun _ hk => hk.2), by (with_reducible repeat (first | apply Kd.R_alloc | apply Kd.R_drewN | apply Kd.R_drew)); exact Kd.R_mono HO127.out (fun _ hk => hk.2), by first | exact bl HB | exact HB.out⟩
end Go.Proofs.Ytccgfmjcldifcaa.P
