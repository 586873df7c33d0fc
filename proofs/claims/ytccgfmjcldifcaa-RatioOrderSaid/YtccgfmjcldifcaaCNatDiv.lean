/- Walks of Go functions: what they compute; each theorem's conditions stand in it. -/
import Derived.Test.YtccgfmjcldifcaaT
import Derived.Test.YtccgfmjcldifcaaShelf
import Derived.Test.YtccgfmjcldifcaaCDiv
import Derived.Test.YtccgfmjcldifcaaCStr
import Derived.Test.YtccgfmjcldifcaaCValid
import Derived.Test.YtccgfmjcldifcaaDA
namespace Go.Proofs.Ytccgfmjcldifcaa.P
open Go.RowKit Go.Proofs.YtccgfmjcldifcaaW.PrintWords Go.Proofs.YtccgfmjcldifcaaW.PrintLast Go.Proofs.YtccgfmjcldifcaaW.PrintMore
attribute [local go_sem] max2_int min2_int max_two min_two max_three min_three max_four min_four
set_option linter.unusedVariables false
set_option linter.unusedSimpArgs false
set_option maxHeartbeats 8000000 in
set_option maxRecDepth 100000 in
theorem ratio_NatDiv.calls (k : Nat) (a0 : ByteArray) (a1 : ByteArray) (r1 : ByteArray) (r2 : ByteArray) (r3 : Int) (w : World) (h : ratio_NatDiv.f k a0 a1 = some (r1, r2, r3)) :
  Calls Try.prog 18 #[.string a0, .string a1] w fun e w' => e = .returned (.tuple #[.string r1, .string r2, .int .i64 r3]) ∧ Below w.heap.size w w' := by
 have HB := Aside0.mk (Below.refl w.heap.size w)
 have H : Option.bind (ratio_both.f k a0 a1) _ = _ := h
 clear h
 replace H := Option.bind_eq_some_iff.mp H
 obtain ⟨⟨t240, t241, t242⟩, A30, H⟩ := H
 replace H : (if t242 = true then _ else _) = _ := H
 have A3 := Aside0.mk A30
 clear A30
 by_cases c4 : t242 = true
 ·subst c4
  have H1 : (if (t241.length : Int) = 0 then _ else _) = _ := (if_pos rfl).symm.trans H
  clear H
  have H := H1
  clear H1
  by_cases c5 : (t241.length : Int) = 0
  ·rw [if_pos c5] at H
   have c5b0 : ((t241.length : Int) == 0) = true := beq_iff_eq.mpr c5
   have c5b1 : ((t241.length : Int) != 0) = false := bne_eq_false_iff_eq.mpr c5
   clear c5
   simp only [Option.some.injEq, Prod.mk.injEq] at H
   obtain ⟨rfl, rfl, rfl⟩ := H
   go_enter Try.func18, Try.ntmps18
   go_wp2_with (first | ((with_reducible refine gate_callee (f := 73) rfl ?_); refine goesL_ (some 15) rfl rfl Try.func73 (by kernel_rfl) rfl #[.string a0, .string a1] rfl ga ?_; (with_reducible refine (ratio_both.calls k a0 a1 t240 t241 true _ A3.out).mono ?_); rintro e w6 ⟨v243, v245, rfl, ho0, ho1, hb⟩; refine ⟨_, rfl, ?_⟩; have HO244 := Aside0.mk (Kd.R_lower ho0 (below_size (by first | exact bl HB | exact HB.out))); have HO246 := Aside0.mk (Kd.R_lower ho1 (below_size (by first | exact bl HB | exact HB.out))); replace HB := hs HB hb; (try clear hb); (try clear ho0); (try clear ho1); obtain ⟨Ao7, co7, eo7⟩ := Kd.R_slice HO246.out; subst eo7))
   go_ret3
   exact ⟨er, by first | exact bl HB | exact HB.out⟩
  ·rw [if_neg c5] at H
   have c5b0 : ((t241.length : Int) == 0) = false := beq_eq_false_iff_ne.mpr c5
   have c5b1 : ((t241.length : Int) != 0) = true := bne_iff_ne.mpr c5
   have c5b2 : ¬ (t241 = []) := fun h_ => c5 (by rw [h_]; rfl)
   replace H := Option.bind_eq_some_iff.mp H
   obtain ⟨⟨t247, t250⟩, A80, H⟩ := H
   replace H : ((bignat_Nat_String.f k t247).bind fun t253 => ((bignat_Nat_String.f k t250).bind fun t254 => (some (t253, t254, 0)))) = some (r1, r2, r3) := H
   have A8 := Aside0.mk A80
   clear A80
   replace H := Option.bind_eq_some_iff.mp H
   obtain ⟨t253, A90, H⟩ := H
   replace H : ((bignat_Nat_String.f k t250).bind fun t254 => (some (t253, t254, 0))) = some (r1, r2, r3) := H
   have A9 := Aside0.mk A90
   clear A90
   replace H := Option.bind_eq_some_iff.mp H
   obtain ⟨t254, A100, H⟩ := H
   replace H : (some (t253, t254, 0)) = some (r1, r2, r3) := H
   have A10 := Aside0.mk A100
   clear A100
   simp only [Option.some.injEq, Prod.mk.injEq] at H
   obtain ⟨rfl, rfl, rfl⟩ := H
   go_enter Try.func18, Try.ntmps18
   go_wp2_with (first | ((with_reducible refine gate_callee (f := 73) rfl ?_); refine goesL_ (some 15) rfl rfl Try.func73 (by kernel_rfl) rfl #[.string a0, .string a1] rfl ga ?_; (with_reducible refine (ratio_both.calls k a0 a1 t240 t241 true _ A3.out).mono ?_); rintro e w11 ⟨v243, v245, rfl, ho0, ho1, hb⟩; refine ⟨_, rfl, ?_⟩; have HO244 := Aside0.mk (Kd.R_lower ho0 (below_size (by first | exact bl HB | exact HB.out))); have HO246 := Aside0.mk (Kd.R_lower ho1 (below_size (by first | exact bl HB | exact HB.out))); replace HB := hs HB hb; (try clear hb); (try clear ho0); (try clear ho1); obtain ⟨Ao12, co12, eo12⟩ := Kd.R_slice HO246.out; subst eo12; obtain ⟨Ao13, co13, eo13⟩ := Kd.R_slice HO244.out; subst eo13) | ((with_reducible refine gate_callee (f := 74) rfl ?_); refine goesL_ (some 27) rfl rfl Try.func74 (by kernel_rfl) rfl #[.slice Ao13 t240.length co13, .slice Ao12 t241.length co12] rfl ga ?_; (with_reducible refine (bignat_Nat_Div.calls k (fun k_ => some k_ = (.slice Ao13 t240.length co13 : Value).ownBlock) _ _ t240 _ _ t241 t247 t250 _ ?side1 ?side2 ?side3 A8.out).mono ?_); (case side1 => exact Kd.R_V (Kd.R_tight rfl (HO244.out))); (case side2 => exact cl ((Kd.R_reads' HO246.out).2.2)); (case side3 => exact (Kd.R_reads' HO246.out).2.1); rintro e w14 ⟨v248, v251, rfl, ho0, ho1, hb⟩; refine ⟨_, rfl, ?_⟩; have HO249 := Aside0.mk (Kd.V_lower (Kd.V_mono (ok' := fun k_ => some k_ ≠ (.slice Ao12 t241.length co12 : Value).ownBlock) ho0 (fun k_ hk_ => Or.elim hk_ (fun hs_ => ((HO244.out).1 k_ hs_.symm)) (fun hn_ => (Kd.fresh' (Kd.R_lt (rl HO246)) k_ hn_)))) (below_size (by first | exact bl HB | exact HB.out))); have HO252 := Aside0.mk (Kd.V_lower (Kd.V_mono (ok' := fun k_ => some k_ ≠ (.slice Ao12 t241.length co12 : Value).ownBlock) ho1 (fun k_ hk_ => Or.elim hk_ (fun hs_ => ((HO244.out).1 k_ hs_.symm)) (fun hn_ => (Kd.fresh' (Kd.R_lt (rl HO246)) k_ hn_)))) (below_size (by first | exact bl HB | exact HB.out))); replace HO244 := Aside0.mk (Kd.R_below (rl HO244) hb); replace HO246 := Aside0.mk (Kd.R_below (rl HO246) hb); replace HB := hs HB hb; (try clear hb); (try clear ho0); (try clear ho1); obtain ⟨Ao15, co15, eo15⟩ := Kd.V_slice HO249.out; subst eo15) | ((with_reducible refine gate_callee (f := 75) rfl ?_); refine goesL_ (some 31) rfl rfl Try.func75 (by kernel_rfl) rfl #[.slice Ao15 t247.length co15] rfl ga ?_; (with_reducible refine (bignat_Nat_String.calls k (fun k_ => some k_ ≠ (.slice Ao12 t241.length co12 : Value).ownBlock) _ _ t247 t253 _ ?side1 A9.out).mono ?_); (case side1 => exact HO249.out); rintro e w16 ⟨rfl, hb⟩; refine ⟨_, rfl, ?_⟩; replace HO244 := Aside0.mk (Kd.R_below (rl HO244) hb); replace HO246 := Aside0.mk (Kd.R_below (rl HO246) hb); replace HO249 := Aside0.mk (Kd.V_below (vl HO249) hb); replace HO252 := Aside0.mk (Kd.V_below (vl HO252) hb); replace HB := hs HB hb; (try clear hb); obtain ⟨Ao17, co17, eo17⟩ := Kd.V_slice HO252.out; subst eo17) | ((with_reducible refine gate_callee (f := 75) rfl ?_); refine goesL_ (some 33) rfl rfl Try.func75 (by kernel_rfl) rfl #[.slice Ao17 t250.length co17] rfl ga ?_; (with_reducible refine (bignat_Nat_String.calls k (fun k_ => some k_ ≠ (.slice Ao12 t241.length co12 : Value).ownBlock) _ _ t250 t254 _ ?side1 A10.out).mono ?_); (case side1 => exact HO252.out); rintro e w18 ⟨rfl, hb⟩; refine ⟨_, rfl, ?_⟩; replace HO244 := Aside0.mk (Kd.R_below (rl HO244) hb); replace HO246 := Aside0.mk (Kd.R_below (rl HO246) hb); replace HO249 := Aside0.mk (Kd.V_below (vl HO249) hb); replace HO252 := Aside0.mk (Kd.V_below (vl HO252) hb); replace HB := hs HB hb; (try clear hb)))
   go_ret3
   exact ⟨er, by first | exact bl HB | exact HB.out⟩
 ·replace c4 := Bool.eq_false_iff.mpr c4
  subst c4
  have H1 : (some ((⟨#[]⟩ : ByteArray), (⟨#[]⟩ : ByteArray), 1)) = some (r1, r2, r3) := by rw [if_neg (show ¬ (false = true) by decide)] at H; exact H
  clear H
  have H := H1
  clear H1
  simp only [Option.some.injEq, Prod.mk.injEq] at H
  obtain ⟨rfl, rfl, rfl⟩ := H
  go_enter Try.func18, Try.ntmps18
  go_wp2_with (first | ((with_reducible refine gate_callee (f := 73) rfl ?_); refine goesL_ (some 15) rfl rfl Try.func73 (by kernel_rfl) rfl #[.string a0, .string a1] rfl ga ?_; (with_reducible refine (ratio_both.calls k a0 a1 t240 t241 false _ A3.out).mono ?_); rintro e w19 ⟨v243, v245, rfl, ho0, ho1, hb⟩; refine ⟨_, rfl, ?_⟩; have HO244 := Aside0.mk (Kd.R_lower ho0 (below_size (by first | exact bl HB | exact HB.out))); have HO246 := Aside0.mk (Kd.R_lower ho1 (below_size (by first | exact bl HB | exact HB.out))); replace HB := hs HB hb; (try clear hb); (try clear ho0); (try clear ho1)))
  go_ret3
  exact ⟨er, by first | exact bl HB | exact HB.out⟩
set_option maxHeartbeats 8000000 in
set_option maxRecDepth 100000 in
theorem bignat_Gcd.calls (k : Nat) (P0_ : Nat → Prop) (A0 : Option Addr) (c0 : Nat) (l0 : List Int) (P1_ : Nat → Prop) (A1 : Option Addr) (c1 : Nat) (l1 : List Int) (r : List Int) (w : World) (hs0 : Kd.V (Kd.int .u32) 117 w w.heap.size (fun k_ => P0_ k_) (.slice A0 l0.length c0) l0) (hs1 : Kd.V (Kd.int .u32) 117 w w.heap.size (fun k_ => P1_ k_) (.slice A1 l1.length c1) l1) (h : bignat_Gcd.f k l0 l1 = some r) :
  Calls Try.prog 97 #[.slice A0 l0.length c0, .slice A1 l1.length c1] w fun e w' => ∃ v0_ : Value, e = .returned (v0_) ∧ Kd.V (Kd.int .u32) 117 w' w.heap.size (fun k_ => ((P0_ k_ ∨ P1_ k_) ∨ w.heap.size ≤ k_)) v0_ r ∧ Below w.heap.size w w' := by
 have HO0 := Aside0.mk (show Kd.V (Kd.int .u32) 117 w w.heap.size (fun k_ => ((P0_ k_ ∨ P1_ k_) ∨ w.heap.size ≤ k_)) (.slice A0 l0.length c0) l0 from Kd.V_mono hs0 (fun k_ hk => .inl (.inl hk)))
 have HO1 := Aside0.mk (show Kd.V (Kd.int .u32) 117 w w.heap.size (fun k_ => ((P0_ k_ ∨ P1_ k_) ∨ w.heap.size ≤ k_)) (.slice A1 l1.length c1) l1 from Kd.V_mono hs1 (fun k_ hk => .inl (.inr hk)))
 have HB := Aside0.mk (Below.refl w.heap.size w)
 have H : (bignat_Gcd.l0 k l0 l1) = some r := h
 clear h
 have H' := Aside0.mk H
 clear H
 go_enter Try.func97, Try.ntmps97
 go_wp2
 go_loopg [0, 1] k (fun kq v0 v1 w' => ∃ (x0_1 : List Int) (x1_1 : List Int), Aside0 (bignat_Gcd.l0 kq x0_1 x1_1 = some r) ∧ Aside0 (kq ≤ k) ∧ Aside0 (Kd.V (Kd.int .u32) 117 w' w.heap.size (fun k_ => ((P0_ k_ ∨ P1_ k_) ∨ w.heap.size ≤ k_)) v0 x0_1) ∧ Aside0 (Kd.V (Kd.int .u32) 117 w' w.heap.size (fun k_ => ((P0_ k_ ∨ P1_ k_) ∨ w.heap.size ≤ k_)) v1 x1_1) ∧ Aside0 (Below w.heap.size w w'))
 case atStart => exact ⟨(l0), (l1), H', ⟨Nat.le_refl _⟩, ⟨by exact vl HO0⟩, ⟨by exact vl HO1⟩, ⟨by first | exact bl HB | exact HB.out⟩⟩
 case round =>
  clear H'
  try clear c1
  obtain ⟨x0_1, x1_1, HA, HK1, HO_0, HO_1, HB⟩ := hrel
  cases gk with
  | zero => exact absurd HA.out (by simp [bignat_Gcd.l0])
  | succ k1 =>
   have H := HA.out
   clear HA
   simp only [bignat_Gcd.l0] at H
   by_cases c3 : (x1_1.length : Int) > 0
   ·rw [if_pos c3] at H
    have c3b0 : decide (0 < (x1_1.length : Int)) = true := decide_eq_true c3
    have c3b1 : decide (0 < x1_1.length) = true := decide_eq_true (by omega)
    clear c3
    replace H := Option.bind_eq_some_iff.mp H
    obtain ⟨⟨t259, t262⟩, A40, H⟩ := H
    replace H : (bignat_Gcd.l0 k1 x1_1 t262) = some r := H
    have A4 := Aside0.mk A40
    clear A40
    have H' := Aside0.mk H
    clear H
    obtain ⟨Ao5, co5, eo5⟩ := Kd.V_slice HO_1.out
    subst eo5
    obtain ⟨Ao6, co6, eo6⟩ := Kd.V_slice HO_0.out
    subst eo6
    go_wp2_with (first | ((with_reducible refine gate_callee (f := 74) rfl ?_); refine goesL_ (some 13) rfl rfl Try.func74 (by kernel_rfl) rfl #[.slice Ao6 x0_1.length co6, .slice Ao5 x1_1.length co5] rfl ga ?_; (with_reducible refine (bignat_Nat_Div.calls k1 (fun k_ => ((P0_ k_ ∨ P1_ k_) ∨ w.heap.size ≤ k_)) _ _ x0_1 _ _ x1_1 t259 t262 _ ?side1 ?side2 ?side3 A4.out).mono ?_); (case side1 => exact HO_0.out); (case side2 => exact cl ((Kd.V_reads' HO_1.out).2.2)); (case side3 => exact (Kd.V_reads' HO_1.out).2.1); rintro e w7 ⟨v260, v263, rfl, ho0, ho1, hb⟩; refine ⟨_, rfl, ?_⟩; replace HO_0 := Aside0.mk (Kd.V_below (vl HO_0) hb); replace HO_1 := Aside0.mk (Kd.V_below (vl HO_1) hb); have HO261 := Aside0.mk (Kd.V_lower (Kd.V_mono (ok' := fun k_ => ((P0_ k_ ∨ P1_ k_) ∨ w.heap.size ≤ k_)) ho0 (fun k_ hk_ => Or.elim hk_ (fun hs_ => hs_) (fun hn_ => (.inr (Nat.le_trans (below_size (by first | exact bl HB | exact HB.out)) hn_))))) (below_size (by first | exact bl HB | exact HB.out))); have HO264 := Aside0.mk (Kd.V_lower (Kd.V_mono (ok' := fun k_ => ((P0_ k_ ∨ P1_ k_) ∨ w.heap.size ≤ k_)) ho1 (fun k_ hk_ => Or.elim hk_ (fun hs_ => hs_) (fun hn_ => (.inr (Nat.le_trans (below_size (by first | exact bl HB | exact HB.out)) hn_))))) (below_size (by first | exact bl HB | exact HB.out))); replace HB := hs HB hb; (try clear hb); (try clear ho0); (try clear ho1)))
    go_roundg k1
    case measure => have := HK1.out; omega
    case rel => exact ⟨(x1_1), (t262), H', ⟨by have := HK1.out; omega⟩, ⟨by exact vl HO_1⟩, ⟨by exact vl HO264⟩, ⟨by first | exact bl HB | exact HB.out⟩⟩
   ·rw [if_neg c3] at H
    have c3b0 : decide (0 < (x1_1.length : Int)) = false := decide_eq_false c3
    have c3b1 : decide (0 < x1_1.length) = false := decide_eq_false (by omega)
    clear c3
    obtain rfl := Option.some.inj H
    obtain ⟨Ao8, co8, eo8⟩ := Kd.V_slice HO_1.out
    subst eo8
    go_wp2
    go_ret
    exact ⟨_, er, by (with_reducible repeat (first | apply Kd.V_alloc | apply Kd.V_drewN | apply Kd.V_drew)); exact HO_0.out, by first | exact bl HB | exact HB.out⟩
end Go.Proofs.Ytccgfmjcldifcaa.P
