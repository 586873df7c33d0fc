/- Walks of Go functions: what they compute; each theorem's conditions stand in it. -/
import Derived.Test.YtccgfmjcldifcaaT
import Derived.Test.YtccgfmjcldifcaaDA
namespace Go.Proofs.Ytccgfmjcldifcaa.P
open Go.RowKit Go.Proofs.YtccgfmjcldifcaaW.PrintWords Go.Proofs.YtccgfmjcldifcaaW.PrintLast Go.Proofs.YtccgfmjcldifcaaW.PrintMore
attribute [local go_sem] max2_int min2_int max_two min_two max_three min_three max_four min_four
set_option linter.unusedVariables false
set_option linter.unusedSimpArgs false
def RW (a z : List Int) (e : Nat) (w : World) (base : Nat) (ok : Nat → Prop) (v : Value) (xs : List Int) : Prop :=
 (∀ k, v.ownBlock = some k → ok k) ∧ ∃ g c, v = .slice (some ⟨g, a.length, none⟩) xs.length c ∧ (Kd.int .u32).R e w base ok (.slice (some ⟨g, 0, none⟩) (a ++ xs ++ z).length (a.length + c)) (a ++ xs ++ z)
section
variable {a z : List Int} {e : Nat} {w : World} {base : Nat} {ok ok' : Nat → Prop} {v : Value} {xs : List Int} {A : Option Addr} {n c g cap : Nat}
theorem RW_mono (h : RW a z e w base ok v xs) (hk : ∀ k, ok k → ok' k) : RW a z e w base ok' v xs := by
 obtain ⟨h0, g, c, e1, h1⟩ := h
 exact ⟨fun k hk_ => hk k (h0 k hk_), g, c, e1, Kd.R_mono h1 hk⟩
theorem RW_alloc (h : RW a z e w base ok v xs) (o : Obj) : RW a z e (w.alloc o) base ok v xs := by
 obtain ⟨h0, g, c, e1, h1⟩ := h
 exact ⟨h0, g, c, e1, Kd.R_alloc h1 o⟩
theorem RW_drew (h : RW a z e w base ok v xs) : RW a z e w.drew base ok v xs := by
 obtain ⟨h0, g, c, e1, h1⟩ := h
 exact ⟨h0, g, c, e1, Kd.R_drew h1⟩
theorem RW_drewN (h : RW a z e w base ok v xs) (m : Nat) : RW a z e (w.drewN m) base ok v xs := by
 obtain ⟨h0, g, c, e1, h1⟩ := h
 exact ⟨h0, g, c, e1, Kd.R_drewN h1 m⟩
theorem RW_slice (h : RW a z e w base ok v xs) : ∃ A c, v = .slice A xs.length c := by
 obtain ⟨h0, g, c, e1, h1⟩ := h
 exact ⟨_, c, e1⟩
theorem add_win (g i j : Nat) : (⟨g, i, none⟩ : Addr).add j = ⟨g, i + j, none⟩ := by
 unfold Addr.add; split <;> simp_all
theorem RW_reads' (h : RW a z e w base ok (.slice A n c) xs) : n = xs.length ∧ n ≤ c ∧ (Kd.int .u32).C w A xs.length xs := by
 obtain ⟨h0, g, c', e1, h1⟩ := h
 injection e1 with e1 e2 e3
 subst e1 e2 e3
 obtain ⟨-, hr2, hr3⟩ := Kd.R_reads' h1
 rw [List.length_append, List.length_append] at hr2
 refine ⟨rfl, by omega, ?_⟩
 have hr := Kd.reads_of_C (enc := Value.int .u32) (d := (0 : Int)) (h1 := fun _ => rfl) hr3
 refine Kd.C_of_reads (enc := Value.int .u32) (d := (0 : Int)) (h1 := fun _ => rfl) ⟨rfl, ?_, fun hn => ⟨_, rfl, fun j hj => ?_⟩⟩
 ·have := hr.2.1
  rw [List.length_append, List.length_append] at this
  omega
 ·obtain ⟨ad, e4, hc⟩ := hr.2.2 (by rw [List.length_append, List.length_append]; omega)
  injection e4 with e4
  subst e4
  have := hc (a.length + j) (by rw [List.length_append, List.length_append]; omega)
  rw [add_win] at this ⊢
  rw [Nat.zero_add] at this
  rw [this]
  simp only [List.getD_eq_getElem?_getD]
  rw [List.getElem?_append_left (by rw [List.length_append]; omega), List.getElem?_append_right (by omega), Nat.add_sub_cancel_left]
theorem RW_form (h : RW a z e w base ok v xs) (hp : 0 < xs.length) : ∃ g cap, v = .slice (some ⟨g, a.length, none⟩) xs.length cap ∧ base ≤ g ∧ g < w.heap.size ∧ ∃ cells, w.heap[g]? = some (.cells cells e (0, 0)) := by
 obtain ⟨h0, g, c, e1, h1⟩ := h
 obtain ⟨g', cap, e2, h2, h3, h4⟩ := Kd.R_form h1 (by rw [List.length_append, List.length_append]; omega)
 injection e2 with e2 _ _
 injection e2 with e2
 injection e2 with e2 _ _
 subst e2
 exact ⟨g, c, e1, h2, h3, h4⟩
theorem RW_celln (d : Int) (h : RW a z e w base ok (.slice (some ⟨g, a.length, none⟩) n cap) xs) (i : Int) (h0 : 0 ≤ i) (hi : i < n) : w.cell? ⟨g, a.length + i.toNat, none⟩ = some (.int .u32 (rdOf d xs i)) ∧ w.frozen? ⟨g, a.length + i.toNat, none⟩ = false := by
 obtain ⟨h0', g', c', e1, h1⟩ := h
 injection e1 with e1 e2 e3
 injection e1 with e1
 injection e1 with e1 _ _
 subst e1 e2 e3
 have := Kd.R_celln (enc := Value.int .u32) (h1 := fun _ => rfl) d h1 ((a.length : Int) + i) (by omega) (by rw [List.length_append, List.length_append]; omega)
 rw [show ((a.length : Int) + i).toNat = a.length + i.toNat by omega] at this
 refine ⟨?_, this.2⟩
 rw [this.1]
 unfold rdOf
 rw [show ((a.length : Int) + i).toNat = a.length + i.toNat by omega]
 simp only [List.getD_eq_getElem?_getD]
 rw [List.getElem?_append_left (by rw [List.length_append]; omega), List.getElem?_append_right (by omega), Nat.add_sub_cancel_left]
theorem RW_putg (h : RW a z e w base ok (.slice (some ⟨g, a.length, none⟩) n cap) xs) (i : Int) (x : Int) (h0 : 0 ≤ i) (hi : i < n) : RW a z e (w.setCell ⟨g, a.length + i.toNat, none⟩ (.int .u32 x)) base ok (.slice (some ⟨g, a.length, none⟩) n cap) (xs.set i.toNat x) ∧ w.grownBy (w.setCell ⟨g, a.length + i.toNat, none⟩ (.int .u32 x)) (some g) := by
 obtain ⟨h0', g', c', e1, h1⟩ := h
 injection e1 with e1 e2 e3
 injection e1 with e1
 injection e1 with e1 _ _
 subst e1 e2 e3
 have := Kd.R_putg (enc := Value.int .u32) (h1 := fun _ => rfl) h1 ((a.length : Int) + i) x
 rw [show ((a.length : Int) + i).toNat = a.length + i.toNat by omega] at this
 refine ⟨⟨h0', g, cap, by rw [List.length_set], ?_⟩, this.2⟩
 have e : (a ++ xs ++ z).set (a.length + i.toNat) x = a ++ xs.set i.toNat x ++ z := by
  rw [List.set_append_left _ _ (by rw [List.length_append]; omega), List.set_append_right _ _ (by omega), Nat.add_sub_cancel_left]
 rw [e] at this
 have hl : (a ++ xs.set i.toNat x ++ z).length = (a ++ xs ++ z).length := by simp
 rw [hl]
 exact this.1
end
set_option maxHeartbeats 8000000 in
set_option maxRecDepth 100000 in
theorem bignat_less.win (a_ z_ : List Int) (k : Nat) (P0_ : Nat → Prop) (u9000_ : Value) (l0 : List Int) (A1 : Option Addr) (c1 : Nat) (l1 : List Int) (a2 : Int) (r1 : Bool) (r2 : List Int) (w0 w : World) (hB : Below w0.heap.size w0 w) (ho0 : RW a_ z_ 117 w w0.heap.size P0_ u9000_ l0) (hr1 : ∀ W_, Kept w W_ (fun k_ => P0_ k_) → Kd.C (Kd.int .u32) W_ A1 l1.length l1) (hc1 : l1.length ≤ c1) (h : bignat_less.f k l0 l1 a2 = some (r1, r2)) :
  Calls Try.prog 117 #[u9000_, .slice A1 l1.length c1, .int .u64 a2] w fun e w' => e = .returned (.bool r1) ∧ RW a_ z_ 117 w' w0.heap.size (fun k_ => (P0_ k_ ∨ w.heap.size ≤ k_)) u9000_ r2 ∧ Below w0.heap.size w0 w' ∧ Kept w w' (fun k_ => P0_ k_) := by
 have HO0 := Aside0.mk (show RW a_ z_ 117 w w0.heap.size (fun k_ => (P0_ k_ ∨ w.heap.size ≤ k_)) u9000_ l0 from RW_mono ho0 (fun k_ hk => (.inl hk)))
 have HR1 := Aside0.mk hr1
 have HC1 := Aside0.mk hc1
 clear hr1 hc1
 have HK := Aside0.mk (Kept.refl w (fun k_ => P0_ k_))
 have HW0 := Aside0.mk hB.size
 have HB := Aside0.mk hB
 clear hB
 have H : (bignat_less.l0 k l0 l1 a2 0 0 (l0.length : Int) 0) = some (r1, r2) := h
 clear h
 have H' := Aside0.mk H
 clear H
 obtain ⟨Ao4, co4, eo4⟩ := RW_slice HO0.out
 subst eo4
 go_enter Try.func117, Try.ntmps117
 go_wp2
 go_loopg [7, 8, 12] k (fun kq v7 v8 v12 w' => ∃ (x0_1 : List Int) (x7_1 : Int) (x8_1 : Int) (x12_1 : Int), v7 = .int .i64 x7_1 ∧ v8 = .int .u64 x8_1 ∧ v12 = .int .i64 x12_1 ∧ Aside0 (bignat_less.l0 kq x0_1 l1 a2 x7_1 x8_1 (l0.length : Int) x12_1 = some (r1, r2)) ∧ Aside0 (kq ≤ k) ∧ Aside0 (RW a_ z_ 117 w' w0.heap.size (fun k_ => (P0_ k_ ∨ w.heap.size ≤ k_)) (.slice Ao4 l0.length co4) x0_1) ∧ Aside0 (Kept w w' (fun k_ => P0_ k_)) ∧ Aside0 (Below w0.heap.size w0 w'))
 case atStart => exact ⟨(l0), (0), (0), (0), sv, sv, sv, H', ⟨Nat.le_refl _⟩, ⟨by (with_reducible repeat (first | apply RW_alloc | apply RW_drewN | apply RW_drew)); exact HO0.out⟩, ⟨by first | exact kl HK | exact HK.out⟩, ⟨by first | exact bl HB | exact HB.out⟩⟩
 case round =>
  clear H'
  try clear c1
  obtain ⟨x0_1, x7_1, x8_1, x12_1, rfl, rfl, rfl, HA, HK1, HO_0, HK, HB⟩ := hrel
  have hl0_1 := (RW_reads' HO_0.out).1
  rw [hl0_1] at HO_0
  (try simp only [hl0_1])
  cases gk with
  | zero => exact absurd HA.out (by simp [bignat_less.l0])
  | succ k1 =>
   have H := HA.out
   clear HA
   simp only [bignat_less.l0] at H
   by_cases c5 : x12_1 < (l0.length : Int)
   ·rw [if_pos c5] at H
    have c5b0 : decide (x12_1 < (l0.length : Int)) = true := decide_eq_true c5
    have c5b0z := c5b0
    (try simp only [hl0_1] at c5b0z)
    clear c5
    by_cases c6 : x12_1 < (l1.length : Int)
    ·rw [if_pos c6] at H
     have c6b0 : decide (x12_1 < (l1.length : Int)) = true := decide_eq_true c6
     have c6b0z := c6b0
     (try simp only [hl0_1] at c6b0z)
     clear c6
     by_cases c7 : 0 ≤ x12_1
     ·rw [if_pos c7] at H
      have c7b0 : decide (0 ≤ x12_1) = true := decide_eq_true c7
      clear c7
      by_cases c8 : x12_1 < (x0_1.length : Int)
      ·rw [if_pos c8] at H
       have c8b0 : decide (x12_1 < (x0_1.length : Int)) = true := decide_eq_true c8
       have c8b0z := c8b0
       (try simp only [hl0_1] at c8b0z)
       clear c8
       obtain ⟨y164, hy164⟩ : ∃ y_ : List Int, y_ = (x0_1.set (x12_1 : Int).toNat ((wrap64 (x7_1 + (wrap64 ((wrap64 (rd x0_1 x12_1)) - ((IntKind.u64.wrap (x8_1 + (IntKind.u64.wrap (a2 * (IntKind.u64.wrap (rd l1 x12_1)))))) % 4294967296))))) % 4294967296)) := ⟨_, rfl⟩
       replace H : (bignat_less.l0 k1 y164 l1 a2 ((wrap64 (x7_1 + (wrap64 ((wrap64 (rd x0_1 x12_1)) - ((IntKind.u64.wrap (x8_1 + (IntKind.u64.wrap (a2 * (IntKind.u64.wrap (rd l1 x12_1)))))) % 4294967296))))) / 4294967296) ((IntKind.u64.wrap (x8_1 + (IntKind.u64.wrap (a2 * (IntKind.u64.wrap (rd l1 x12_1)))))) / 4294967296) (l0.length : Int) (wrap64 (x12_1 + 1))) = some (r1, r2) := by first | (rw [hy164]; with_reducible exact H) | (have H2_ := (Option.bind_some _ _).symm.trans H; rw [hy164]; with_reducible exact H2_) | (have H2_ := (Option.bind_some _ _).symm.trans H; with_reducible exact H2_) | with_reducible exact H | (rw [hy164]; exact H) | exact H
       have Ny164 := Aside0.mk hy164
       clear hy164
       have H' := Aside0.mk H
       clear H
       have p162 : 0 ≤ (x12_1 : Int) := dt
       have q162 : x12_1 < (l1.length : Int) := dt
       obtain ⟨ad162, e162, hx162_0⟩ := Kd.at_int (Kd.C_kept_now HR1.out HK.out) x12_1 p162 q162
       cases e162
       replace p162 := eq_true p162
       replace q162 := eq_true q162
       have p163 : 0 ≤ (x12_1 : Int) := dt
       have q163 : x12_1 < (x0_1.length : Int) := dt
       obtain ⟨ad163, e163, hx163_0⟩ := Kd.at_int (RW_reads' HO_0.out).2.2 x12_1 p163 q163
       cases e163
       replace p163 := eq_true p163
       replace q163 := eq_true q163
       have p9 : 0 ≤ (x12_1 : Int) := dt
       have q9 : (x12_1 : Int) < ((x0_1.length : Int) : Int) := dt
       obtain ⟨go9, co9, eo9, gb9, gl9, cl9, HG9⟩ := RW_form HO_0.out (by omega)
       (first | cases eo9 | (injection eo9 with ea_ en_ ec_; (first | subst ea_ | (injection ea_ with ea_; subst ea_)); subst ec_; clear en_))
       have GB9 := Aside0.mk gb9
       have GG9 := Aside0.mk HG9
       clear gb9 gl9 HG9
       have HMgo9 := Aside0.mk (show (P0_ go9 ∨ w.heap.size ≤ go9) from (HO_0.out.1 _ rfl))
       (first | simp only [add_win] at hx163_0 | skip)
       obtain ⟨hx9_0, hf9_0⟩ := RW_celln 0 HO_0.out (x12_1 : Int) p9 q9
       replace p9 := eq_true p9
       replace q9 := eq_true q9
       have HP10 := RW_putg HO_0.out (x12_1 : Int) ((wrap64 (x7_1 + (wrap64 ((wrap64 (rd x0_1 x12_1)) - ((IntKind.u64.wrap (x8_1 + (IntKind.u64.wrap (a2 * (IntKind.u64.wrap (rd l1 x12_1)))))) % 4294967296))))) % 4294967296) (of_eq_true p9) (of_eq_true q9)
       go_wp2_with (first | ((with_reducible refine gate_store (t := 117) (p := 43) rfl ?_); refine store_event (t := 117) (p := 43) (v := ?vo_w11) (w1 := (wr.setCell ⟨go9, a_.length + (x12_1 : Int).toNat, none⟩ (.int .u32 ((wrap64 (x7_1 + (wrap64 ((wrap64 (rd x0_1 x12_1)) - ((IntKind.u64.wrap (x8_1 + (IntKind.u64.wrap (a2 * (IntKind.u64.wrap (rd l1 x12_1)))))) % 4294967296))))) % 4294967296)))) ?hg ?ho ?hn ?hr ?_; (case ho => rfl); (case hg => rfl); (case hn => rfl); (case hr => first | (go_simp; done) | (go_simp; rfl)); intro w11 hw; have hg : wr.grownBy w11 (some go9) := (by rw [hw]; exact HP10.2); have hp_ : RW a_ z_ 117 w11 w0.heap.size (fun k_ => (P0_ k_ ∨ w.heap.size ≤ k_)) (.slice (some ⟨go9, a_.length, none⟩) x0_1.length co4) y164 := (by rw [hw, Ny164.out]; exact HP10.1); clear HP10; replace HB := Aside0.mk ((by rw [hw]; exact below_set (HB.out) GB9.out : Below w0.heap.size w0 w11)); replace HK := Aside0.mk (Kept.of_grown (S := (fun k_ => P0_ k_)) hg (by first | exact kl HK | exact HK.out) (fun k_ e_ => (HO_0.out.1 k_ e_))); replace HO_0 := Aside0.mk (hp_); clear hg hw hp_))
       (try simp only [← hl0_1])
       go_roundg k1
       case measure => have := HK1.out; omega
       case rel => exact ⟨(y164), ((wrap64 (x7_1 + (wrap64 ((wrap64 (rd x0_1 x12_1)) - ((IntKind.u64.wrap (x8_1 + (IntKind.u64.wrap (a2 * (IntKind.u64.wrap (rd l1 x12_1)))))) % 4294967296))))) / 4294967296), ((IntKind.u64.wrap (x8_1 + (IntKind.u64.wrap (a2 * (IntKind.u64.wrap (rd l1 x12_1)))))) / 4294967296), (wrap64 (x12_1 + 1)), sv, sv, sv, H', ⟨by have := HK1.out; omega⟩, ⟨by (try simp only [hl0_1]); (with_reducible repeat (first | apply RW_alloc | apply RW_drewN | apply RW_drew)); exact HO_0.out⟩, ⟨by first | exact kl HK | exact HK.out⟩, ⟨by first | exact bl HB | exact HB.out⟩⟩
      ·rw [if_neg c8] at H
       exact absurd H (by simp)
     ·rw [if_neg c7] at H
      exact absurd H (by simp)
    ·rw [if_neg c6] at H
     have c6b0 : decide (x12_1 < (l1.length : Int)) = false := decide_eq_false c6
     have c6b0z := c6b0
     (try simp only [hl0_1] at c6b0z)
     clear c6
     by_cases c12 : 0 ≤ x12_1
     ·rw [if_pos c12] at H
      have c12b0 : decide (0 ≤ x12_1) = true := decide_eq_true c12
      clear c12
      by_cases c13 : x12_1 < (x0_1.length : Int)
      ·rw [if_pos c13] at H
       have c13b0 : decide (x12_1 < (x0_1.length : Int)) = true := decide_eq_true c13
       have c13b0z := c13b0
       (try simp only [hl0_1] at c13b0z)
       clear c13
       obtain ⟨y166, hy166⟩ : ∃ y_ : List Int, y_ = (x0_1.set (x12_1 : Int).toNat ((wrap64 (x7_1 + (wrap64 ((wrap64 (rd x0_1 x12_1)) - ((x8_1) % 4294967296))))) % 4294967296)) := ⟨_, rfl⟩
       replace H : (bignat_less.l0 k1 y166 l1 a2 ((wrap64 (x7_1 + (wrap64 ((wrap64 (rd x0_1 x12_1)) - ((x8_1) % 4294967296))))) / 4294967296) (x8_1 / 4294967296) (l0.length : Int) (wrap64 (x12_1 + 1))) = some (r1, r2) := by first | (rw [hy166]; with_reducible exact H) | (have H2_ := (Option.bind_some _ _).symm.trans H; rw [hy166]; with_reducible exact H2_) | (have H2_ := (Option.bind_some _ _).symm.trans H; with_reducible exact H2_) | with_reducible exact H | (rw [hy166]; exact H) | exact H
       have Ny166 := Aside0.mk hy166
       clear hy166
       have H' := Aside0.mk H
       clear H
       have p165 : 0 ≤ (x12_1 : Int) := dt
       have q165 : x12_1 < (x0_1.length : Int) := dt
       obtain ⟨ad165, e165, hx165_0⟩ := Kd.at_int (RW_reads' HO_0.out).2.2 x12_1 p165 q165
       cases e165
       replace p165 := eq_true p165
       replace q165 := eq_true q165
       have p14 : 0 ≤ (x12_1 : Int) := dt
       have q14 : (x12_1 : Int) < ((x0_1.length : Int) : Int) := dt
       obtain ⟨go14, co14, eo14, gb14, gl14, cl14, HG14⟩ := RW_form HO_0.out (by omega)
       (first | cases eo14 | (injection eo14 with ea_ en_ ec_; (first | subst ea_ | (injection ea_ with ea_; subst ea_)); subst ec_; clear en_))
       have GB14 := Aside0.mk gb14
       have GG14 := Aside0.mk HG14
       clear gb14 gl14 HG14
       have HMgo14 := Aside0.mk (show (P0_ go14 ∨ w.heap.size ≤ go14) from (HO_0.out.1 _ rfl))
       (first | simp only [add_win] at hx165_0 | skip)
       obtain ⟨hx14_0, hf14_0⟩ := RW_celln 0 HO_0.out (x12_1 : Int) p14 q14
       replace p14 := eq_true p14
       replace q14 := eq_true q14
       have HP15 := RW_putg HO_0.out (x12_1 : Int) ((wrap64 (x7_1 + (wrap64 ((wrap64 (rd x0_1 x12_1)) - ((x8_1) % 4294967296))))) % 4294967296) (of_eq_true p14) (of_eq_true q14)
       go_wp2_with (first | ((with_reducible refine gate_store (t := 117) (p := 43) rfl ?_); refine store_event (t := 117) (p := 43) (v := ?vo_w16) (w1 := (wr.setCell ⟨go14, a_.length + (x12_1 : Int).toNat, none⟩ (.int .u32 ((wrap64 (x7_1 + (wrap64 ((wrap64 (rd x0_1 x12_1)) - ((x8_1) % 4294967296))))) % 4294967296)))) ?hg ?ho ?hn ?hr ?_; (case ho => rfl); (case hg => rfl); (case hn => rfl); (case hr => first | (go_simp; done) | (go_simp; rfl)); intro w16 hw; have hg : wr.grownBy w16 (some go14) := (by rw [hw]; exact HP15.2); have hp_ : RW a_ z_ 117 w16 w0.heap.size (fun k_ => (P0_ k_ ∨ w.heap.size ≤ k_)) (.slice (some ⟨go14, a_.length, none⟩) x0_1.length co4) y166 := (by rw [hw, Ny166.out]; exact HP15.1); clear HP15; replace HB := Aside0.mk ((by rw [hw]; exact below_set (HB.out) GB14.out : Below w0.heap.size w0 w16)); replace HK := Aside0.mk (Kept.of_grown (S := (fun k_ => P0_ k_)) hg (by first | exact kl HK | exact HK.out) (fun k_ e_ => (HO_0.out.1 k_ e_))); replace HO_0 := Aside0.mk (hp_); clear hg hw hp_))
       (try simp only [← hl0_1])
       go_roundg k1
       case measure => have := HK1.out; omega
       case rel => exact ⟨(y166), ((wrap64 (x7_1 + (wrap64 ((wrap64 (rd x0_1 x12_1)) - ((x8_1) % 4294967296))))) / 4294967296), (x8_1 / 4294967296), (wrap64 (x12_1 + 1)), sv, sv, sv, H', ⟨by have := HK1.out; omega⟩, ⟨by (try simp only [hl0_1]); (with_reducible repeat (first | apply RW_alloc | apply RW_drewN | apply RW_drew)); exact HO_0.out⟩, ⟨by first | exact kl HK | exact HK.out⟩, ⟨by first | exact bl HB | exact HB.out⟩⟩
      ·rw [if_neg c13] at H
       exact absurd H (by simp)
     ·rw [if_neg c12] at H
      exact absurd H (by simp)
   ·rw [if_neg c5] at H
    have c5b0 : decide (x12_1 < (l0.length : Int)) = false := decide_eq_false c5
    have c5b0z := c5b0
    (try simp only [hl0_1] at c5b0z)
    clear c5
    simp only [Option.some.injEq, Prod.mk.injEq] at H
    obtain ⟨rfl, rfl⟩ := H
    go_wp2
    go_ret
    exact ⟨er, (by first | exact (by (with_reducible repeat (first | apply RW_alloc | apply RW_drewN | apply RW_drew)); exact HO_0.out) | (simp only [hl0_1]; exact (by (with_reducible repeat (first | apply RW_alloc | apply RW_drewN | apply RW_drew)); exact HO_0.out))), by first | exact bl HB | exact HB.out, by first | exact kl HK | exact HK.out⟩
set_option maxHeartbeats 8000000 in
set_option maxRecDepth 100000 in
theorem bignat_more.win (a_ z_ : List Int) (k : Nat) (P0_ : Nat → Prop) (u9000_ : Value) (l0 : List Int) (A1 : Option Addr) (c1 : Nat) (l1 : List Int) (r : List Int) (w0 w : World) (hB : Below w0.heap.size w0 w) (ho0 : RW a_ z_ 117 w w0.heap.size P0_ u9000_ l0) (hr1 : ∀ W_, Kept w W_ (fun k_ => P0_ k_) → Kd.C (Kd.int .u32) W_ A1 l1.length l1) (hc1 : l1.length ≤ c1) (h : bignat_more.f k l0 l1 = some r) :
  Calls Try.prog 118 #[u9000_, .slice A1 l1.length c1] w fun e w' => e = .returned (.tuple #[]) ∧ RW a_ z_ 117 w' w0.heap.size (fun k_ => (P0_ k_ ∨ w.heap.size ≤ k_)) u9000_ r ∧ Below w0.heap.size w0 w' ∧ Kept w w' (fun k_ => P0_ k_) := by
 have HO0 := Aside0.mk (show RW a_ z_ 117 w w0.heap.size (fun k_ => (P0_ k_ ∨ w.heap.size ≤ k_)) u9000_ l0 from RW_mono ho0 (fun k_ hk => (.inl hk)))
 have HR1 := Aside0.mk hr1
 have HC1 := Aside0.mk hc1
 clear hr1 hc1
 have HK := Aside0.mk (Kept.refl w (fun k_ => P0_ k_))
 have HW0 := Aside0.mk hB.size
 have HB := Aside0.mk hB
 clear hB
 have H : (bignat_more.l0 k l0 l1 0 (l0.length : Int) 0) = some r := h
 clear h
 have H' := Aside0.mk H
 clear H
 obtain ⟨Ao3, co3, eo3⟩ := RW_slice HO0.out
 subst eo3
 go_enter Try.func118, Try.ntmps118
 go_wp2
 go_loopg [4, 8] k (fun kq v4 v8 w' => ∃ (x0_1 : List Int) (x4_1 : Int) (x8_1 : Int), v4 = .int .u64 x4_1 ∧ v8 = .int .i64 x8_1 ∧ Aside0 (bignat_more.l0 kq x0_1 l1 x4_1 (l0.length : Int) x8_1 = some r) ∧ Aside0 (kq ≤ k) ∧ Aside0 (RW a_ z_ 117 w' w0.heap.size (fun k_ => (P0_ k_ ∨ w.heap.size ≤ k_)) (.slice Ao3 l0.length co3) x0_1) ∧ Aside0 (Kept w w' (fun k_ => P0_ k_)) ∧ Aside0 (Below w0.heap.size w0 w'))
 case atStart => exact ⟨(l0), (0), (0), sv, sv, H', ⟨Nat.le_refl _⟩, ⟨by (with_reducible repeat (first | apply RW_alloc | apply RW_drewN | apply RW_drew)); exact HO0.out⟩, ⟨by first | exact kl HK | exact HK.out⟩, ⟨by first | exact bl HB | exact HB.out⟩⟩
 case round =>
  clear H'
  try clear c1
  obtain ⟨x0_1, x4_1, x8_1, rfl, rfl, HA, HK1, HO_0, HK, HB⟩ := hrel
  have hl0_1 := (RW_reads' HO_0.out).1
  rw [hl0_1] at HO_0
  (try simp only [hl0_1])
  cases gk with
  | zero => exact absurd HA.out (by simp [bignat_more.l0])
  | succ k1 =>
   have H := HA.out
   clear HA
   simp only [bignat_more.l0] at H
   by_cases c4 : x8_1 < (l0.length : Int)
   ·rw [if_pos c4] at H
    have c4b0 : decide (x8_1 < (l0.length : Int)) = true := decide_eq_true c4
    have c4b0z := c4b0
    (try simp only [hl0_1] at c4b0z)
    clear c4
    by_cases c5 : 0 ≤ x8_1
    ·rw [if_pos c5] at H
     have c5b0 : decide (0 ≤ x8_1) = true := decide_eq_true c5
     clear c5
     by_cases c6 : x8_1 < (x0_1.length : Int)
     ·rw [if_pos c6] at H
      have c6b0 : decide (x8_1 < (x0_1.length : Int)) = true := decide_eq_true c6
      have c6b0z := c6b0
      (try simp only [hl0_1] at c6b0z)
      clear c6
      by_cases c7 : x8_1 < (l1.length : Int)
      ·rw [if_pos c7] at H
       have c7b0 : decide (x8_1 < (l1.length : Int)) = true := decide_eq_true c7
       have c7b0z := c7b0
       (try simp only [hl0_1] at c7b0z)
       clear c7
       obtain ⟨y169, hy169⟩ : ∃ y_ : List Int, y_ = (x0_1.set (x8_1 : Int).toNat ((IntKind.u64.wrap ((IntKind.u64.wrap (x4_1 + (IntKind.u64.wrap (rd x0_1 x8_1)))) + (IntKind.u64.wrap (rd l1 x8_1)))) % 4294967296)) := ⟨_, rfl⟩
       replace H : (bignat_more.l0 k1 y169 l1 ((IntKind.u64.wrap ((IntKind.u64.wrap (x4_1 + (IntKind.u64.wrap (rd x0_1 x8_1)))) + (IntKind.u64.wrap (rd l1 x8_1)))) / 4294967296) (l0.length : Int) (wrap64 (x8_1 + 1))) = some r := by first | (rw [hy169]; with_reducible exact H) | (have H2_ := (Option.bind_some _ _).symm.trans H; rw [hy169]; with_reducible exact H2_) | (have H2_ := (Option.bind_some _ _).symm.trans H; with_reducible exact H2_) | with_reducible exact H | (rw [hy169]; exact H) | exact H
       have Ny169 := Aside0.mk hy169
       clear hy169
       have H' := Aside0.mk H
       clear H
       have p167 : 0 ≤ (x8_1 : Int) := dt
       have q167 : x8_1 < (x0_1.length : Int) := dt
       obtain ⟨ad167, e167, hx167_0⟩ := Kd.at_int (RW_reads' HO_0.out).2.2 x8_1 p167 q167
       cases e167
       replace p167 := eq_true p167
       replace q167 := eq_true q167
       have p168 : 0 ≤ (x8_1 : Int) := dt
       have q168 : x8_1 < (l1.length : Int) := dt
       obtain ⟨ad168, e168, hx168_0⟩ := Kd.at_int (Kd.C_kept_now HR1.out HK.out) x8_1 p168 q168
       cases e168
       replace p168 := eq_true p168
       replace q168 := eq_true q168
       have p8 : 0 ≤ (x8_1 : Int) := dt
       have q8 : (x8_1 : Int) < ((x0_1.length : Int) : Int) := dt
       obtain ⟨go8, co8, eo8, gb8, gl8, cl8, HG8⟩ := RW_form HO_0.out (by omega)
       (first | cases eo8 | (injection eo8 with ea_ en_ ec_; (first | subst ea_ | (injection ea_ with ea_; subst ea_)); subst ec_; clear en_))
       have GB8 := Aside0.mk gb8
       have GG8 := Aside0.mk HG8
       clear gb8 gl8 HG8
       have HMgo8 := Aside0.mk (show (P0_ go8 ∨ w.heap.size ≤ go8) from (HO_0.out.1 _ rfl))
       (first | simp only [add_win] at hx167_0 | skip)
       obtain ⟨hx8_0, hf8_0⟩ := RW_celln 0 HO_0.out (x8_1 : Int) p8 q8
       replace p8 := eq_true p8
       replace q8 := eq_true q8
       have HP9 := RW_putg HO_0.out (x8_1 : Int) ((IntKind.u64.wrap ((IntKind.u64.wrap (x4_1 + (IntKind.u64.wrap (rd x0_1 x8_1)))) + (IntKind.u64.wrap (rd l1 x8_1)))) % 4294967296) (of_eq_true p8) (of_eq_true q8)
       go_wp2_with (first | ((with_reducible refine gate_store (t := 117) (p := 33) rfl ?_); refine store_event (t := 117) (p := 33) (v := ?vo_w10) (w1 := (wr.setCell ⟨go8, a_.length + (x8_1 : Int).toNat, none⟩ (.int .u32 ((IntKind.u64.wrap ((IntKind.u64.wrap (x4_1 + (IntKind.u64.wrap (rd x0_1 x8_1)))) + (IntKind.u64.wrap (rd l1 x8_1)))) % 4294967296)))) ?hg ?ho ?hn ?hr ?_; (case ho => rfl); (case hg => rfl); (case hn => rfl); (case hr => first | (go_simp; done) | (go_simp; rfl)); intro w10 hw; have hg : wr.grownBy w10 (some go8) := (by rw [hw]; exact HP9.2); have hp_ : RW a_ z_ 117 w10 w0.heap.size (fun k_ => (P0_ k_ ∨ w.heap.size ≤ k_)) (.slice (some ⟨go8, a_.length, none⟩) x0_1.length co3) y169 := (by rw [hw, Ny169.out]; exact HP9.1); clear HP9; replace HB := Aside0.mk ((by rw [hw]; exact below_set (HB.out) GB8.out : Below w0.heap.size w0 w10)); replace HK := Aside0.mk (Kept.of_grown (S := (fun k_ => P0_ k_)) hg (by first | exact kl HK | exact HK.out) (fun k_ e_ => (HO_0.out.1 k_ e_))); replace HO_0 := Aside0.mk (hp_); clear hg hw hp_))
       (try simp only [← hl0_1])
       go_roundg k1
       case measure => have := HK1.out; omega
       case rel => exact ⟨(y169), ((IntKind.u64.wrap ((IntKind.u64.wrap (x4_1 + (IntKind.u64.wrap (rd x0_1 x8_1)))) + (IntKind.u64.wrap (rd l1 x8_1)))) / 4294967296), (wrap64 (x8_1 + 1)), sv, sv, H', ⟨by have := HK1.out; omega⟩, ⟨by (try simp only [hl0_1]); (with_reducible repeat (first | apply RW_alloc | apply RW_drewN | apply RW_drew)); exact HO_0.out⟩, ⟨by first | exact kl HK | exact HK.out⟩, ⟨by first | exact bl HB | exact HB.out⟩⟩
      ·rw [if_neg c7] at H
       have c7b0 : decide (x8_1 < (l1.length : Int)) = false := decide_eq_false c7
       have c7b0z := c7b0
       (try simp only [hl0_1] at c7b0z)
       clear c7
       obtain ⟨y170, hy170⟩ : ∃ y_ : List Int, y_ = (x0_1.set (x8_1 : Int).toNat ((IntKind.u64.wrap (x4_1 + (IntKind.u64.wrap (rd x0_1 x8_1)))) % 4294967296)) := ⟨_, rfl⟩
       replace H : (bignat_more.l0 k1 y170 l1 ((IntKind.u64.wrap (x4_1 + (IntKind.u64.wrap (rd x0_1 x8_1)))) / 4294967296) (l0.length : Int) (wrap64 (x8_1 + 1))) = some r := by first | (rw [hy170]; with_reducible exact H) | (have H2_ := (Option.bind_some _ _).symm.trans H; rw [hy170]; with_reducible exact H2_) | (have H2_ := (Option.bind_some _ _).symm.trans H; with_reducible exact H2_) | with_reducible exact H | (rw [hy170]; exact H) | exact H
       have Ny170 := Aside0.mk hy170
       clear hy170
       have H' := Aside0.mk H
       clear H
       have p167 : 0 ≤ (x8_1 : Int) := dt
       have q167 : x8_1 < (x0_1.length : Int) := dt
       obtain ⟨ad167, e167, hx167_0⟩ := Kd.at_int (RW_reads' HO_0.out).2.2 x8_1 p167 q167
       cases e167
       replace p167 := eq_true p167
       replace q167 := eq_true q167
       have p11 : 0 ≤ (x8_1 : Int) := dt
       have q11 : (x8_1 : Int) < ((x0_1.length : Int) : Int) := dt
       obtain ⟨go11, co11, eo11, gb11, gl11, cl11, HG11⟩ := RW_form HO_0.out (by omega)
       (first | cases eo11 | (injection eo11 with ea_ en_ ec_; (first | subst ea_ | (injection ea_ with ea_; subst ea_)); subst ec_; clear en_))
       have GB11 := Aside0.mk gb11
       have GG11 := Aside0.mk HG11
       clear gb11 gl11 HG11
       have HMgo11 := Aside0.mk (show (P0_ go11 ∨ w.heap.size ≤ go11) from (HO_0.out.1 _ rfl))
       (first | simp only [add_win] at hx167_0 | skip)
       obtain ⟨hx11_0, hf11_0⟩ := RW_celln 0 HO_0.out (x8_1 : Int) p11 q11
       replace p11 := eq_true p11
       replace q11 := eq_true q11
       have HP12 := RW_putg HO_0.out (x8_1 : Int) ((IntKind.u64.wrap (x4_1 + (IntKind.u64.wrap (rd x0_1 x8_1)))) % 4294967296) (of_eq_true p11) (of_eq_true q11)
       go_wp2_with (first | ((with_reducible refine gate_store (t := 117) (p := 33) rfl ?_); refine store_event (t := 117) (p := 33) (v := ?vo_w13) (w1 := (wr.setCell ⟨go11, a_.length + (x8_1 : Int).toNat, none⟩ (.int .u32 ((IntKind.u64.wrap (x4_1 + (IntKind.u64.wrap (rd x0_1 x8_1)))) % 4294967296)))) ?hg ?ho ?hn ?hr ?_; (case ho => rfl); (case hg => rfl); (case hn => rfl); (case hr => first | (go_simp; done) | (go_simp; rfl)); intro w13 hw; have hg : wr.grownBy w13 (some go11) := (by rw [hw]; exact HP12.2); have hp_ : RW a_ z_ 117 w13 w0.heap.size (fun k_ => (P0_ k_ ∨ w.heap.size ≤ k_)) (.slice (some ⟨go11, a_.length, none⟩) x0_1.length co3) y170 := (by rw [hw, Ny170.out]; exact HP12.1); clear HP12; replace HB := Aside0.mk ((by rw [hw]; exact below_set (HB.out) GB11.out : Below w0.heap.size w0 w13)); replace HK := Aside0.mk (Kept.of_grown (S := (fun k_ => P0_ k_)) hg (by first | exact kl HK | exact HK.out) (fun k_ e_ => (HO_0.out.1 k_ e_))); replace HO_0 := Aside0.mk (hp_); clear hg hw hp_))
       (try simp only [← hl0_1])
       go_roundg k1
       case measure => have := HK1.out; omega
       case rel => exact ⟨(y170), ((IntKind.u64.wrap (x4_1 + (IntKind.u64.wrap (rd x0_1 x8_1)))) / 4294967296), (wrap64 (x8_1 + 1)), sv, sv, H', ⟨by have := HK1.out; omega⟩, ⟨by (try simp only [hl0_1]); (with_reducible repeat (first | apply RW_alloc | apply RW_drewN | apply RW_drew)); exact HO_0.out⟩, ⟨by first | exact kl HK | exact HK.out⟩, ⟨by first | exact bl HB | exact HB.out⟩⟩
     ·rw [if_neg c6] at H
      exact absurd H (by simp)
    ·rw [if_neg c5] at H
     exact absurd H (by simp)
   ·rw [if_neg c4] at H
    have c4b0 : decide (x8_1 < (l0.length : Int)) = false := decide_eq_false c4
    have c4b0z := c4b0
    (try simp only [hl0_1] at c4b0z)
    clear c4
    obtain rfl := Option.some.inj H
    go_wp2
    first | go_end0 | ((try simp only [Exit.inBlock, Exit.then]); refine bodyPost_ret (results_none rfl _ _ _) rfl ?_)
    exact ⟨er, (by first | exact (by (with_reducible repeat (first | apply RW_alloc | apply RW_drewN | apply RW_drew)); exact HO_0.out) | (simp only [hl0_1]; exact (by (with_reducible repeat (first | apply RW_alloc | apply RW_drewN | apply RW_drew)); exact HO_0.out))), by first | exact bl HB | exact HB.out, by first | exact kl HK | exact HK.out⟩
def Win (V : Value) (ad : Addr) (c : Nat) (lo hi : Int) : Prop := V = .slice (some ⟨ad.block, lo.toNat, none⟩) (hi.toNat - lo.toNat) (c - lo.toNat)
theorem win_cut {w : World} {base : Nat} {ok : Nat → Prop} {ad : Addr} {n c : Nat} {xs : List Int} (lo hi : Int) (h : (Kd.int .u32).R 117 w base ok (.slice (some ad) n c) xs) (hg : 0 ≤ lo ∧ lo < hi ∧ hi ≤ (xs.length : Int)) :
  ∃ V, Win V ad c lo hi ∧ ∀ W : World, (Instr.slice 71 (.slice (some ad) n c) (some (.int .i64 lo)) (some (.int .i64 hi)) none).run Try.prog W = .ok V W := by
 obtain ⟨i0, hi0, _, hsz, _⟩ := info_parts info117
 obtain ⟨hl, hc, -⟩ := Kd.R_reads' h
 obtain ⟨g, cap, e1, -⟩ := Kd.R_form h (by omega)
 injection e1 with e1 e2 e3
 injection e1 with e1
 subst e1
 refine ⟨_, rfl, fun W => ?_⟩
 rw [cut_mid (P := Try.prog) 71 117 .i64 .i64 Try.underlying71 hi0 1 hsz (some ⟨g, 0, none⟩) n c lo hi hg.1 (by omega) (by omega) hc W]
 rw [if_neg (by omega)]
 simp only [Option.map_some, add_plain, Nat.mul_one]
theorem bignat_lessAt.guard {k : Nat} {l0 l1 : List Int} {a2 a3 a4 : Int} {r : Bool × List Int} (h : bignat_lessAt.f k l0 l1 a2 a3 a4 = some r) : 0 ≤ a3 ∧ a3 < a4 ∧ a4 ≤ (l0.length : Int) := by
 unfold bignat_lessAt.f at h
 split at h
 ·assumption
 ·cases h
theorem bignat_moreAt.guard {k : Nat} {l0 l1 : List Int} {a3 a4 : Int} {r : List Int} (h : bignat_moreAt.f k l0 l1 a3 a4 = some r) : 0 ≤ a3 ∧ a3 < a4 ∧ a4 ≤ (l0.length : Int) := by
 unfold bignat_moreAt.f at h
 split at h
 ·assumption
 ·cases h
theorem win_in {w : World} {base : Nat} {ok : Nat → Prop} {A0 : Option Addr} {n c : Nat} {xs : List Int} {lo hi : Int} (h : (Kd.int .u32).R 117 w base ok (.slice A0 n c) xs) (hg : 0 ≤ lo ∧ lo < hi ∧ hi ≤ (xs.length : Int)) :
  ∃ ad, A0 = some ad ∧ ∀ V, Win V ad c lo hi → RW (xs.take lo.toNat) (xs.drop hi.toNat) 117 w base ok V ((xs.take hi.toNat).drop lo.toNat) := by
 obtain ⟨hl, hc, -⟩ := Kd.R_reads' h
 obtain ⟨g, cap, e1, -⟩ := Kd.R_form h (by omega)
 injection e1 with e1 e2 e3
 subst e1
 refine ⟨_, rfl, fun V hV => ?_⟩
 have hl1 : (xs.take lo.toNat).length = lo.toNat := by rw [List.length_take]; omega
 have hl2 : ((xs.take hi.toNat).drop lo.toNat).length = hi.toNat - lo.toNat := by rw [List.length_drop, List.length_take]; omega
 have hw : xs.take lo.toNat ++ (xs.take hi.toNat).drop lo.toNat ++ xs.drop hi.toNat = xs := by
  have h1 : xs.take lo.toNat = (xs.take hi.toNat).take lo.toNat := by rw [List.take_take, Nat.min_eq_left (by omega)]
  rw [h1, List.take_append_drop, List.take_append_drop]
 refine ⟨fun k hk => h.1 k (by rw [hV] at hk; simpa [Value.ownBlock] using hk), g, c - lo.toNat, by rw [hV, hl1, hl2], ?_⟩
 rw [hw, hl1, show lo.toNat + (c - lo.toNat) = c by omega, ← hl]
 exact h
theorem win_out {w w' : World} {base : Nat} {ok ok' : Nat → Prop} {ad : Addr} {n c : Nat} {xs ys a z : List Int} {lo hi : Int} {V : Value} (h : (Kd.int .u32).R 117 w base ok (.slice (some ad) n c) xs) (hg : 0 ≤ lo ∧ lo < hi ∧ hi ≤ (xs.length : Int)) (hV : Win V ad c lo hi) (ha : a = xs.take lo.toNat) (hz : z = xs.drop hi.toNat) (hr : RW a z 117 w' base ok' V ys) :
  (Kd.int .u32).R 117 w' base ok' (.slice (some ad) n c) (a ++ ys ++ z) := by
 obtain ⟨hl, hc, -⟩ := Kd.R_reads' h
 obtain ⟨g, cap, e1, -⟩ := Kd.R_form h (by omega)
 injection e1 with e1 e2 e3
 injection e1 with e1
 subst e1
 obtain ⟨h0, g', c', e4, h1⟩ := hr
 rw [hV] at e4
 injection e4 with e4 e5 e6
 injection e4 with e4
 injection e4 with e4 _ _
 subst e4 e6
 have hl1 : a.length = lo.toNat := by rw [ha, List.length_take]; omega
 have hl2 : z.length = xs.length - hi.toNat := by rw [hz, List.length_drop]
 have hn : (a ++ ys ++ z).length = n := by rw [List.length_append, List.length_append, hl1, hl2]; omega
 rw [hn, hl1, show lo.toNat + (c - lo.toNat) = c by omega] at h1
 exact h1
theorem bignat_lessAt.calls {V : Value} {ad : Addr} {c0 n0 : Nat} (k : Nat) (P0_ : Nat → Prop) (l0 : List Int) (A1 : Option Addr) (c1 : Nat) (l1 : List Int) (a2 a3 a4 : Int) (r1 : Bool) (r2 : List Int) (w0 w : World) (hV : Win V ad c0 a3 a4) (hB : Below w0.heap.size w0 w) (ho0 : Kd.R (Kd.int .u32) 117 w w0.heap.size P0_ (.slice (some ad) n0 c0) l0) (hr1 : ∀ W_, Kept w W_ (fun k_ => P0_ k_) → Kd.C (Kd.int .u32) W_ A1 l1.length l1) (hc1 : l1.length ≤ c1) (h : bignat_lessAt.f k l0 l1 a2 a3 a4 = some (r1, r2)) :
  Calls Try.prog 117 #[V, .slice A1 l1.length c1, .int .u64 a2] w fun e w' => e = .returned (.bool r1) ∧ Kd.R (Kd.int .u32) 117 w' w0.heap.size (fun k_ => (P0_ k_ ∨ w.heap.size ≤ k_)) (.slice (some ad) n0 c0) r2 ∧ Below w0.heap.size w0 w' ∧ Kept w w' (fun k_ => P0_ k_) := by
 have hg := bignat_lessAt.guard h
 unfold bignat_lessAt.f at h
 rw [if_pos hg] at h
 obtain ⟨p, hp, h⟩ := Option.bind_eq_some_iff.mp h
 simp only [Option.some.injEq, Prod.mk.injEq] at h
 obtain ⟨rfl, rfl⟩ := h
 obtain ⟨ad', e', hW⟩ := win_in ho0 hg
 injection e' with e'
 subst e'
 refine (bignat_less.win (l0.take a3.toNat) (l0.drop a4.toNat) k P0_ V _ A1 c1 l1 a2 p.1 p.2 w0 w hB (hW V hV) hr1 hc1 hp).mono ?_
 rintro e w' ⟨h1, h2, h3, h4⟩
 exact ⟨h1, win_out ho0 hg hV rfl rfl h2, h3, h4⟩
theorem bignat_moreAt.calls {V : Value} {ad : Addr} {c0 n0 : Nat} (k : Nat) (P0_ : Nat → Prop) (l0 : List Int) (A1 : Option Addr) (c1 : Nat) (l1 : List Int) (a3 a4 : Int) (r : List Int) (w0 w : World) (hV : Win V ad c0 a3 a4) (hB : Below w0.heap.size w0 w) (ho0 : Kd.R (Kd.int .u32) 117 w w0.heap.size P0_ (.slice (some ad) n0 c0) l0) (hr1 : ∀ W_, Kept w W_ (fun k_ => P0_ k_) → Kd.C (Kd.int .u32) W_ A1 l1.length l1) (hc1 : l1.length ≤ c1) (h : bignat_moreAt.f k l0 l1 a3 a4 = some r) :
  Calls Try.prog 118 #[V, .slice A1 l1.length c1] w fun e w' => e = .returned (.tuple #[]) ∧ Kd.R (Kd.int .u32) 117 w' w0.heap.size (fun k_ => (P0_ k_ ∨ w.heap.size ≤ k_)) (.slice (some ad) n0 c0) r ∧ Below w0.heap.size w0 w' ∧ Kept w w' (fun k_ => P0_ k_) := by
 have hg := bignat_moreAt.guard h
 unfold bignat_moreAt.f at h
 rw [if_pos hg] at h
 obtain ⟨p, hp, h⟩ := Option.bind_eq_some_iff.mp h
 simp only [Option.some.injEq] at h
 subst h
 obtain ⟨ad', e', hW⟩ := win_in ho0 hg
 injection e' with e'
 subst e'
 refine (bignat_more.win (l0.take a3.toNat) (l0.drop a4.toNat) k P0_ V _ A1 c1 l1 p w0 w hB (hW V hV) hr1 hc1 hp).mono ?_
 rintro e w' ⟨h1, h2, h3, h4⟩
 exact ⟨h1, win_out ho0 hg hV rfl rfl h2, h3, h4⟩
end Go.Proofs.Ytccgfmjcldifcaa.P
