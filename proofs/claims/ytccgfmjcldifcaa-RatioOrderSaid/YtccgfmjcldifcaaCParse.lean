/- Walks of Go functions: what they compute; each theorem's conditions stand in it. -/
import Derived.Test.YtccgfmjcldifcaaT
import Derived.Test.YtccgfmjcldifcaaCCut
import Derived.Test.YtccgfmjcldifcaaCIsRatio
import Derived.Test.YtccgfmjcldifcaaCLow
import Derived.Test.YtccgfmjcldifcaaCValid
import Derived.Test.YtccgfmjcldifcaaDA
import Derived.Test.YtccgfmjcldifcaaDE
namespace Go.Proofs.Ytccgfmjcldifcaa.P
open Go.RowKit Go.Proofs.YtccgfmjcldifcaaW.PrintWords Go.Proofs.YtccgfmjcldifcaaW.PrintLast Go.Proofs.YtccgfmjcldifcaaW.PrintMore
attribute [local go_sem] max2_int min2_int max_two min_two max_three min_three max_four min_four
set_option linter.unusedVariables false
set_option linter.unusedSimpArgs false
set_option maxHeartbeats 8000000 in
set_option maxRecDepth 100000 in
theorem ratio_Parse.calls (k : Nat) (a0 : ByteArray) (r1 : Bool) (r2 : ByteArray) (r3 : ByteArray) (r4 : Int) (w : World) (m : Int) (hm : w.cell? ⟨0, 0, none⟩ = some (.int .i64 m)) (h : ratio_Parse.f k a0 = some (r1, r2, r3, r4)) :
  Calls Try.prog 61 #[.string a0] w fun e w' => e = .returned (.tuple #[.agg #[.bool r1, .string r2, .string r3], .int .i64 r4]) ∧ Below w.heap.size w w' := by
 have hu35 := Try.underlying35
 have HB := Aside0.mk (Below.refl w.heap.size w)
 have H : Option.bind (strings_CutPrefix.f a0 (⟨#[45]⟩ : ByteArray)) _ = _ := h
 clear h
 replace H := Option.bind_eq_some_iff.mp H
 obtain ⟨⟨t1691, t1692⟩, A20, H⟩ := H
 replace H : Option.bind (strings_Cut.f t1691 (⟨#[47]⟩ : ByteArray)) _ = _ := H
 have A2 := Aside0.mk A20
 clear A20
 replace H := Option.bind_eq_some_iff.mp H
 obtain ⟨⟨t1693, t1694, t1695⟩, A30, H⟩ := H
 replace H : (if t1695 = true then _ else _) = _ := H
 have A3 := Aside0.mk A30
 clear A30
 by_cases c4 : t1695 = true
 ·subst c4
  have H1 : Option.bind (ratio_IsRatio.f k t1692 t1693 t1694) _ = _ := (if_pos rfl).symm.trans H
  clear H
  have H := H1
  clear H1
  replace H := Option.bind_eq_some_iff.mp H
  obtain ⟨t1697, A50, H⟩ := H
  replace H : (if t1697 = true then _ else _) = _ := H
  have A5 := Aside0.mk A50
  clear A50
  by_cases c6 : t1697 = true
  ·subst c6
   have H1 : (if t1694.toList = ([49] : List UInt8) then _ else _) = _ := (if_pos rfl).symm.trans H
   clear H
   have H := H1
   clear H1
   by_cases c7 : t1694.toList = ([49] : List UInt8)
   ·rw [if_pos c7] at H
    have c7b0 : (t1694.toList == ([49] : List UInt8)) = true := beq_iff_eq.mpr c7
    have c7b1 : (t1694.toList != ([49] : List UInt8)) = false := bne_eq_false_iff_eq.mpr c7
    clear c7
    simp only [Option.some.injEq, Prod.mk.injEq] at H
    obtain ⟨rfl, rfl, rfl, rfl⟩ := H
    go_enter Try.func61, Try.ntmps61
    go_wp2_with (first | ((with_reducible refine gate_dst (N := 2) rfl ?_); refine be (N := 2) (cs := #[.bool false, .string (⟨#[]⟩ : ByteArray), .string (⟨#[]⟩ : ByteArray)]) (t := 35) ?_; intro gb1690 hg w8 hbox hb; have BK1690 := Aside0.mk (hbox); have GW1690 := gw HB hg; have GE1690 := GW1690; replace HB := hs HB hb; clear hb hbox hg) | ((with_reducible refine gate_callee (f := 109) rfl ?_); refine goesL_ (some 12) rfl rfl Try.func109 (by kernel_rfl) rfl #[.string a0, .string (⟨#[45]⟩ : ByteArray)] rfl ga ?_; (with_reducible refine (strings_CutPrefix.calls a0 (⟨#[45]⟩ : ByteArray) t1691 t1692 _ A2.out).mono ?_); rintro e w' ⟨rfl, ⟨nd, rfl⟩⟩; refine ⟨_, rfl, ?_⟩; (try (rw [drewN_self w8]; generalize hq_ : World.drewN w8 _ = w8; have n0_ : Aside0 (w8.heap[gb1690]? = some (.cells #[.bool false, .string (⟨#[]⟩ : ByteArray), .string (⟨#[]⟩ : ByteArray)] 35 (0, 0))) := ⟨by rw [← hq_]; exact bk⟩; have n1_ : Aside0 (Below w.heap.size w w8) := ⟨by rw [← hq_]; exact bs⟩; clear BK1690 HB hq_; have BK1690 := n0_; have HB := n1_; clear n0_ n1_))) | ((with_reducible refine gate_callee (f := 110) rfl ?_); refine goesL_ (some 17) rfl rfl Try.func110 (by kernel_rfl) rfl #[.string t1691, .string (⟨#[47]⟩ : ByteArray)] rfl ga ?_; (with_reducible refine (strings_Cut.calls t1691 (⟨#[47]⟩ : ByteArray) t1693 t1694 true _ m ?sideM A3.out).mono ?_); (case sideM => exact gl hm bs); rintro e w' ⟨rfl, ⟨nd, rfl⟩⟩; refine ⟨_, rfl, ?_⟩; (try (rw [drewN_self w8]; generalize hq_ : World.drewN w8 _ = w8; have n0_ : Aside0 (w8.heap[gb1690]? = some (.cells #[.bool false, .string (⟨#[]⟩ : ByteArray), .string (⟨#[]⟩ : ByteArray)] 35 (0, 0))) := ⟨by rw [← hq_]; exact bk⟩; have n1_ : Aside0 (Below w.heap.size w w8) := ⟨by rw [← hq_]; exact bs⟩; clear BK1690 HB hq_; have BK1690 := n0_; have HB := n1_; clear n0_ n1_))) | ((with_reducible refine gate_dst (N := 9) rfl ?_); refine be (N := 9) (cs := #[.bool false, .string (⟨#[]⟩ : ByteArray), .string (⟨#[]⟩ : ByteArray)]) (t := 35) ?_; intro gb1696 hg w9 hbox hb; have BK1696 := Aside0.mk (hbox); have GW1696 := gw HB hg; have GE1696 := GW1696; replace HB := hs HB hb; have NB1690_1696 := na BK1690 hg; have NB1696_1690 := nz NB1690_1696; replace BK1690 := bb BK1690 hb; clear hb hbox hg; have hnb10 := NB1696_1690.out; have hnc10 := NB1690_1696.out; obtain ⟨hcz11_0, hcz11_1, hcz11_2, hfz11_0, hfz11_1, hfz11_2⟩ := z3 BK1696) | ((with_reducible refine gate_callee (f := 44) rfl ?_); refine goesL_ (some 28) rfl rfl Try.func44 (by kernel_rfl) rfl #[.agg #[.bool t1692, .string t1693, .string t1694]] rfl ga ?_; (with_reducible refine (ratio_IsRatio.calls k t1692 t1693 t1694 true _ A5.out).mono ?_); rintro e w12 ⟨rfl, hb⟩; refine ⟨_, rfl, ?_⟩; replace BK1690 := bb BK1690 hb; replace BK1696 := bq BK1696 #[.bool t1692, .string t1693, .string t1694] hb; replace HB := hs HB hb; (try clear hb); obtain ⟨hcz13_0, hcz13_1, hcz13_2, hfz13_0, hfz13_1, hfz13_2⟩ := z3 BK1690))
    refine bodyPost_ret (results_ct rfl _ _ gb1690 35 #[.bool false, .string (⟨#[]⟩ : ByteArray), .string (⟨#[]⟩ : ByteArray)] (0, 0) _ rfl bw Try.underlying35 rfl (by kernel_rfl)) rfl ?_
    exact ⟨er, bs⟩
   ·rw [if_neg c7] at H
    have c7b0 : (t1694.toList == ([49] : List UInt8)) = false := beq_eq_false_iff_ne.mpr c7
    have c7b1 : (t1694.toList != ([49] : List UInt8)) = true := bne_iff_ne.mpr c7
    simp only [Option.some.injEq, Prod.mk.injEq] at H
    obtain ⟨rfl, rfl, rfl, rfl⟩ := H
    go_enter Try.func61, Try.ntmps61
    go_wp2_with (first | ((with_reducible refine gate_dst (N := 2) rfl ?_); refine be (N := 2) (cs := #[.bool false, .string (⟨#[]⟩ : ByteArray), .string (⟨#[]⟩ : ByteArray)]) (t := 35) ?_; intro gb1690 hg w14 hbox hb; have BK1690 := Aside0.mk (hbox); have GW1690 := gw HB hg; have GE1690 := GW1690; replace HB := hs HB hb; clear hb hbox hg) | ((with_reducible refine gate_callee (f := 109) rfl ?_); refine goesL_ (some 12) rfl rfl Try.func109 (by kernel_rfl) rfl #[.string a0, .string (⟨#[45]⟩ : ByteArray)] rfl ga ?_; (with_reducible refine (strings_CutPrefix.calls a0 (⟨#[45]⟩ : ByteArray) t1691 t1692 _ A2.out).mono ?_); rintro e w' ⟨rfl, ⟨nd, rfl⟩⟩; refine ⟨_, rfl, ?_⟩; (try (rw [drewN_self w14]; generalize hq_ : World.drewN w14 _ = w14; have n0_ : Aside0 (w14.heap[gb1690]? = some (.cells #[.bool false, .string (⟨#[]⟩ : ByteArray), .string (⟨#[]⟩ : ByteArray)] 35 (0, 0))) := ⟨by rw [← hq_]; exact bk⟩; have n1_ : Aside0 (Below w.heap.size w w14) := ⟨by rw [← hq_]; exact bs⟩; clear BK1690 HB hq_; have BK1690 := n0_; have HB := n1_; clear n0_ n1_))) | ((with_reducible refine gate_callee (f := 110) rfl ?_); refine goesL_ (some 17) rfl rfl Try.func110 (by kernel_rfl) rfl #[.string t1691, .string (⟨#[47]⟩ : ByteArray)] rfl ga ?_; (with_reducible refine (strings_Cut.calls t1691 (⟨#[47]⟩ : ByteArray) t1693 t1694 true _ m ?sideM A3.out).mono ?_); (case sideM => exact gl hm bs); rintro e w' ⟨rfl, ⟨nd, rfl⟩⟩; refine ⟨_, rfl, ?_⟩; (try (rw [drewN_self w14]; generalize hq_ : World.drewN w14 _ = w14; have n0_ : Aside0 (w14.heap[gb1690]? = some (.cells #[.bool false, .string (⟨#[]⟩ : ByteArray), .string (⟨#[]⟩ : ByteArray)] 35 (0, 0))) := ⟨by rw [← hq_]; exact bk⟩; have n1_ : Aside0 (Below w.heap.size w w14) := ⟨by rw [← hq_]; exact bs⟩; clear BK1690 HB hq_; have BK1690 := n0_; have HB := n1_; clear n0_ n1_))) | ((with_reducible refine gate_dst (N := 9) rfl ?_); refine be (N := 9) (cs := #[.bool false, .string (⟨#[]⟩ : ByteArray), .string (⟨#[]⟩ : ByteArray)]) (t := 35) ?_; intro gb1696 hg w15 hbox hb; have BK1696 := Aside0.mk (hbox); have GW1696 := gw HB hg; have GE1696 := GW1696; replace HB := hs HB hb; have NB1690_1696 := na BK1690 hg; have NB1696_1690 := nz NB1690_1696; replace BK1690 := bb BK1690 hb; clear hb hbox hg; have hnb16 := NB1696_1690.out; have hnc16 := NB1690_1696.out; obtain ⟨hcz17_0, hcz17_1, hcz17_2, hfz17_0, hfz17_1, hfz17_2⟩ := z3 BK1696) | ((with_reducible refine gate_callee (f := 44) rfl ?_); refine goesL_ (some 28) rfl rfl Try.func44 (by kernel_rfl) rfl #[.agg #[.bool t1692, .string t1693, .string t1694]] rfl ga ?_; (with_reducible refine (ratio_IsRatio.calls k t1692 t1693 t1694 true _ A5.out).mono ?_); rintro e w18 ⟨rfl, hb⟩; refine ⟨_, rfl, ?_⟩; replace BK1690 := bb BK1690 hb; replace BK1696 := bq BK1696 #[.bool t1692, .string t1693, .string t1694] hb; replace HB := hs HB hb; (try clear hb); obtain ⟨hcz19_0, hcz19_1, hcz19_2, hfz19_0, hfz19_1, hfz19_2⟩ := z3 BK1696; obtain ⟨hcz20_0, hcz20_1, hcz20_2, hfz20_0, hfz20_1, hfz20_2⟩ := z3 BK1690))
    refine bodyPost_ret (results_ct rfl _ _ gb1690 35 #[.bool t1692, .string t1693, .string t1694] (0, 0) _ rfl bw Try.underlying35 rfl (by kernel_rfl)) rfl ?_
    exact ⟨er, bs⟩
  ·replace c6 := Bool.eq_false_iff.mpr c6
   subst c6
   have H1 : (some (false, (⟨#[]⟩ : ByteArray), (⟨#[]⟩ : ByteArray), 3)) = some (r1, r2, r3, r4) := by rw [if_neg (show ¬ (false = true) by decide)] at H; exact H
   clear H
   have H := H1
   clear H1
   simp only [Option.some.injEq, Prod.mk.injEq] at H
   obtain ⟨rfl, rfl, rfl, rfl⟩ := H
   go_enter Try.func61, Try.ntmps61
   go_wp2_with (first | ((with_reducible refine gate_dst (N := 2) rfl ?_); refine be (N := 2) (cs := #[.bool false, .string (⟨#[]⟩ : ByteArray), .string (⟨#[]⟩ : ByteArray)]) (t := 35) ?_; intro gb1690 hg w21 hbox hb; have BK1690 := Aside0.mk (hbox); have GW1690 := gw HB hg; have GE1690 := GW1690; replace HB := hs HB hb; clear hb hbox hg) | ((with_reducible refine gate_callee (f := 109) rfl ?_); refine goesL_ (some 12) rfl rfl Try.func109 (by kernel_rfl) rfl #[.string a0, .string (⟨#[45]⟩ : ByteArray)] rfl ga ?_; (with_reducible refine (strings_CutPrefix.calls a0 (⟨#[45]⟩ : ByteArray) t1691 t1692 _ A2.out).mono ?_); rintro e w' ⟨rfl, ⟨nd, rfl⟩⟩; refine ⟨_, rfl, ?_⟩; (try (rw [drewN_self w21]; generalize hq_ : World.drewN w21 _ = w21; have n0_ : Aside0 (w21.heap[gb1690]? = some (.cells #[.bool false, .string (⟨#[]⟩ : ByteArray), .string (⟨#[]⟩ : ByteArray)] 35 (0, 0))) := ⟨by rw [← hq_]; exact bk⟩; have n1_ : Aside0 (Below w.heap.size w w21) := ⟨by rw [← hq_]; exact bs⟩; clear BK1690 HB hq_; have BK1690 := n0_; have HB := n1_; clear n0_ n1_))) | ((with_reducible refine gate_callee (f := 110) rfl ?_); refine goesL_ (some 17) rfl rfl Try.func110 (by kernel_rfl) rfl #[.string t1691, .string (⟨#[47]⟩ : ByteArray)] rfl ga ?_; (with_reducible refine (strings_Cut.calls t1691 (⟨#[47]⟩ : ByteArray) t1693 t1694 true _ m ?sideM A3.out).mono ?_); (case sideM => exact gl hm bs); rintro e w' ⟨rfl, ⟨nd, rfl⟩⟩; refine ⟨_, rfl, ?_⟩; (try (rw [drewN_self w21]; generalize hq_ : World.drewN w21 _ = w21; have n0_ : Aside0 (w21.heap[gb1690]? = some (.cells #[.bool false, .string (⟨#[]⟩ : ByteArray), .string (⟨#[]⟩ : ByteArray)] 35 (0, 0))) := ⟨by rw [← hq_]; exact bk⟩; have n1_ : Aside0 (Below w.heap.size w w21) := ⟨by rw [← hq_]; exact bs⟩; clear BK1690 HB hq_; have BK1690 := n0_; have HB := n1_; clear n0_ n1_))) | ((with_reducible refine gate_dst (N := 9) rfl ?_); refine be (N := 9) (cs := #[.bool false, .string (⟨#[]⟩ : ByteArray), .string (⟨#[]⟩ : ByteArray)]) (t := 35) ?_; intro gb1696 hg w22 hbox hb; have BK1696 := Aside0.mk (hbox); have GW1696 := gw HB hg; have GE1696 := GW1696; replace HB := hs HB hb; have NB1690_1696 := na BK1690 hg; have NB1696_1690 := nz NB1690_1696; replace BK1690 := bb BK1690 hb; clear hb hbox hg; have hnb23 := NB1696_1690.out; have hnc23 := NB1690_1696.out; obtain ⟨hcz24_0, hcz24_1, hcz24_2, hfz24_0, hfz24_1, hfz24_2⟩ := z3 BK1696) | ((with_reducible refine gate_callee (f := 44) rfl ?_); refine goesL_ (some 28) rfl rfl Try.func44 (by kernel_rfl) rfl #[.agg #[.bool t1692, .string t1693, .string t1694]] rfl ga ?_; (with_reducible refine (ratio_IsRatio.calls k t1692 t1693 t1694 false _ A5.out).mono ?_); rintro e w25 ⟨rfl, hb⟩; refine ⟨_, rfl, ?_⟩; replace BK1690 := bb BK1690 hb; replace BK1696 := bq BK1696 #[.bool t1692, .string t1693, .string t1694] hb; replace HB := hs HB hb; (try clear hb); obtain ⟨hcz26_0, hcz26_1, hcz26_2, hfz26_0, hfz26_1, hfz26_2⟩ := z3 BK1690))
   refine bodyPost_ret (results_ct rfl _ _ gb1690 35 #[.bool false, .string (⟨#[]⟩ : ByteArray), .string (⟨#[]⟩ : ByteArray)] (0, 0) _ rfl bw Try.underlying35 rfl (by kernel_rfl)) rfl ?_
   exact ⟨er, bs⟩
 ·replace c4 := Bool.eq_false_iff.mpr c4
  subst c4
  have H1 : Option.bind (ratio_IsRatio.f k t1692 t1693 (⟨#[49]⟩ : ByteArray)) _ = _ := (if_neg (show ¬ (false = true) by decide)).symm.trans H
  clear H
  have H := H1
  clear H1
  replace H := Option.bind_eq_some_iff.mp H
  obtain ⟨t1699, A270, H⟩ := H
  replace H : (if t1699 = true then _ else _) = _ := H
  have A27 := Aside0.mk A270
  clear A270
  by_cases c28 : t1699 = true
  ·subst c28
   have H1 : (some (t1692, t1693, (⟨#[49]⟩ : ByteArray), 0)) = some (r1, r2, r3, r4) := by rw [if_pos rfl] at H; exact H
   clear H
   have H := H1
   clear H1
   simp only [Option.some.injEq, Prod.mk.injEq] at H
   obtain ⟨rfl, rfl, rfl, rfl⟩ := H
   go_enter Try.func61, Try.ntmps61
   go_wp2_with (first | ((with_reducible refine gate_dst (N := 2) rfl ?_); refine be (N := 2) (cs := #[.bool false, .string (⟨#[]⟩ : ByteArray), .string (⟨#[]⟩ : ByteArray)]) (t := 35) ?_; intro gb1690 hg w29 hbox hb; have BK1690 := Aside0.mk (hbox); have GW1690 := gw HB hg; have GE1690 := GW1690; replace HB := hs HB hb; clear hb hbox hg) | ((with_reducible refine gate_callee (f := 109) rfl ?_); refine goesL_ (some 12) rfl rfl Try.func109 (by kernel_rfl) rfl #[.string a0, .string (⟨#[45]⟩ : ByteArray)] rfl ga ?_; (with_reducible refine (strings_CutPrefix.calls a0 (⟨#[45]⟩ : ByteArray) t1691 t1692 _ A2.out).mono ?_); rintro e w' ⟨rfl, ⟨nd, rfl⟩⟩; refine ⟨_, rfl, ?_⟩; (try (rw [drewN_self w29]; generalize hq_ : World.drewN w29 _ = w29; have n0_ : Aside0 (w29.heap[gb1690]? = some (.cells #[.bool false, .string (⟨#[]⟩ : ByteArray), .string (⟨#[]⟩ : ByteArray)] 35 (0, 0))) := ⟨by rw [← hq_]; exact bk⟩; have n1_ : Aside0 (Below w.heap.size w w29) := ⟨by rw [← hq_]; exact bs⟩; clear BK1690 HB hq_; have BK1690 := n0_; have HB := n1_; clear n0_ n1_))) | ((with_reducible refine gate_callee (f := 110) rfl ?_); refine goesL_ (some 17) rfl rfl Try.func110 (by kernel_rfl) rfl #[.string t1691, .string (⟨#[47]⟩ : ByteArray)] rfl ga ?_; (with_reducible refine (strings_Cut.calls t1691 (⟨#[47]⟩ : ByteArray) t1693 t1694 false _ m ?sideM A3.out).mono ?_); (case sideM => exact gl hm bs); rintro e w' ⟨rfl, ⟨nd, rfl⟩⟩; refine ⟨_, rfl, ?_⟩; (try (rw [drewN_self w29]; generalize hq_ : World.drewN w29 _ = w29; have n0_ : Aside0 (w29.heap[gb1690]? = some (.cells #[.bool false, .string (⟨#[]⟩ : ByteArray), .string (⟨#[]⟩ : ByteArray)] 35 (0, 0))) := ⟨by rw [← hq_]; exact bk⟩; have n1_ : Aside0 (Below w.heap.size w w29) := ⟨by rw [← hq_]; exact bs⟩; clear BK1690 HB hq_; have BK1690 := n0_; have HB := n1_; clear n0_ n1_))) | ((with_reducible refine gate_dst (N := 9) rfl ?_); refine be (N := 9) (cs := #[.bool false, .string (⟨#[]⟩ : ByteArray), .string (⟨#[]⟩ : ByteArray)]) (t := 35) ?_; intro gb1698 hg w30 hbox hb; have BK1698 := Aside0.mk (hbox); have GW1698 := gw HB hg; have GE1698 := GW1698; replace HB := hs HB hb; have NB1690_1698 := na BK1690 hg; have NB1698_1690 := nz NB1690_1698; replace BK1690 := bb BK1690 hb; clear hb hbox hg; have hnb31 := NB1698_1690.out; have hnc31 := NB1690_1698.out; obtain ⟨hcz32_0, hcz32_1, hcz32_2, hfz32_0, hfz32_1, hfz32_2⟩ := z3 BK1698) | ((with_reducible refine gate_callee (f := 44) rfl ?_); refine goesL_ (some 28) rfl rfl Try.func44 (by kernel_rfl) rfl #[.agg #[.bool t1692, .string t1693, .string (⟨#[49]⟩ : ByteArray)]] rfl ga ?_; (with_reducible refine (ratio_IsRatio.calls k t1692 t1693 (⟨#[49]⟩ : ByteArray) true _ A27.out).mono ?_); rintro e w33 ⟨rfl, hb⟩; refine ⟨_, rfl, ?_⟩; replace BK1690 := bb BK1690 hb; replace BK1698 := bq BK1698 #[.bool t1692, .string t1693, .string (⟨#[49]⟩ : ByteArray)] hb; replace HB := hs HB hb; (try clear hb); obtain ⟨hcz34_0, hcz34_1, hcz34_2, hfz34_0, hfz34_1, hfz34_2⟩ := z3 BK1698; obtain ⟨hcz35_0, hcz35_1, hcz35_2, hfz35_0, hfz35_1, hfz35_2⟩ := z3 BK1690))
   refine bodyPost_ret (results_ct rfl _ _ gb1690 35 #[.bool t1692, .string t1693, .string (⟨#[49]⟩ : ByteArray)] (0, 0) _ rfl bw Try.underlying35 rfl (by kernel_rfl)) rfl ?_
   exact ⟨er, bs⟩
  ·replace c28 := Bool.eq_false_iff.mpr c28
   subst c28
   have H1 : (some (false, (⟨#[]⟩ : ByteArray), (⟨#[]⟩ : ByteArray), 3)) = some (r1, r2, r3, r4) := by rw [if_neg (show ¬ (false = true) by decide)] at H; exact H
   clear H
   have H := H1
   clear H1
   simp only [Option.some.injEq, Prod.mk.injEq] at H
   obtain ⟨rfl, rfl, rfl, rfl⟩ := H
   go_enter Try.func61, Try.ntmps61
   go_wp2_with (first | ((with_reducible refine gate_dst (N := 2) rfl ?_); refine be (N := 2) (cs := #[.bool false, .string (⟨#[]⟩ : ByteArray), .string (⟨#[]⟩ : ByteArray)]) (t := 35) ?_; intro gb1690 hg w36 hbox hb; have BK1690 := Aside0.mk (hbox); have GW1690 := gw HB hg; have GE1690 := GW1690; replace HB := hs HB hb; clear hb hbox hg) | ((with_reducible refine gate_callee (f := 109) rfl ?_); refine goesL_ (some 12) rfl rfl Try.func109 (by kernel_rfl) rfl #[.string a0, .string (⟨#[45]⟩ : ByteArray)] rfl ga ?_; (with_reducible refine (strings_CutPrefix.calls a0 (⟨#[45]⟩ : ByteArray) t1691 t1692 _ A2.out).mono ?_); rintro e w' ⟨rfl, ⟨nd, rfl⟩⟩; refine ⟨_, rfl, ?_⟩; (try (rw [drewN_self w36]; generalize hq_ : World.drewN w36 _ = w36; have n0_ : Aside0 (w36.heap[gb1690]? = some (.cells #[.bool false, .string (⟨#[]⟩ : ByteArray), .string (⟨#[]⟩ : ByteArray)] 35 (0, 0))) := ⟨by rw [← hq_]; exact bk⟩; have n1_ : Aside0 (Below w.heap.size w w36) := ⟨by rw [← hq_]; exact bs⟩; clear BK1690 HB hq_; have BK1690 := n0_; have HB := n1_; clear n0_ n1_))) | ((with_reducible refine gate_callee (f := 110) rfl ?_); refine goesL_ (some 17) rfl rfl Try.func110 (by kernel_rfl) rfl #[.string t1691, .string (⟨#[47]⟩ : ByteArray)] rfl ga ?_; (with_reducible refine (strings_Cut.calls t1691 (⟨#[47]⟩ : ByteArray) t1693 t1694 false _ m ?sideM A3.out).mono ?_); (case sideM => exact gl hm bs); rintro e w' ⟨rfl, ⟨nd, rfl⟩⟩; refine ⟨_, rfl, ?_⟩; (try (rw [drewN_self w36]; generalize hq_ : World.drewN w36 _ = w36; have n0_ : Aside0 (w36.heap[gb1690]? = some (.cells #[.bool false, .string (⟨#[]⟩ : ByteArray), .string (⟨#[]⟩ : ByteArray)] 35 (0, 0))) := ⟨by rw [← hq_]; exact bk⟩; have n1_ : Aside0 (Below w.heap.size w w36) := ⟨by rw [← hq_]; exact bs⟩; clear BK1690 HB hq_; have BK1690 := n0_; have HB := n1_; clear n0_ n1_))) | ((with_reducible refine gate_dst (N := 9) rfl ?_); refine be (N := 9) (cs := #[.bool false, .string (⟨#[]⟩ : ByteArray), .string (⟨#[]⟩ : ByteArray)]) (t := 35) ?_; intro gb1698 hg w37 hbox hb; have BK1698 := Aside0.mk (hbox); have GW1698 := gw HB hg; have GE1698 := GW1698; replace HB := hs HB hb; have NB1690_1698 := na BK1690 hg; have NB1698_1690 := nz NB1690_1698; replace BK1690 := bb BK1690 hb; clear hb hbox hg; have hnb38 := NB1698_1690.out; have hnc38 := NB1690_1698.out; obtain ⟨hcz39_0, hcz39_1, hcz39_2, hfz39_0, hfz39_1, hfz39_2⟩ := z3 BK1698) | ((with_reducible refine gate_callee (f := 44) rfl ?_); refine goesL_ (some 28) rfl rfl Try.func44 (by kernel_rfl) rfl #[.agg #[.bool t1692, .string t1693, .string (⟨#[49]⟩ : ByteArray)]] rfl ga ?_; (with_reducible refine (ratio_IsRatio.calls k t1692 t1693 (⟨#[49]⟩ : ByteArray) false _ A27.out).mono ?_); rintro e w40 ⟨rfl, hb⟩; refine ⟨_, rfl, ?_⟩; replace BK1690 := bb BK1690 hb; replace BK1698 := bq BK1698 #[.bool t1692, .string t1693, .string (⟨#[49]⟩ : ByteArray)] hb; replace HB := hs HB hb; (try clear hb); obtain ⟨hcz41_0, hcz41_1, hcz41_2, hfz41_0, hfz41_1, hfz41_2⟩ := z3 BK1690))
   refine bodyPost_ret (results_ct rfl _ _ gb1690 35 #[.bool false, .string (⟨#[]⟩ : ByteArray), .string (⟨#[]⟩ : ByteArray)] (0, 0) _ rfl bw Try.underlying35 rfl (by kernel_rfl)) rfl ?_
   exact ⟨er, bs⟩
set_option maxHeartbeats 8000000 in
set_option maxRecDepth 100000 in
theorem ratio_Format.calls (k : Nat) (a0_0 : Bool) (a0_1 : ByteArray) (a0_2 : ByteArray) (r : ByteArray) (w : World) (h : ratio_Format.f k a0_0 a0_1 a0_2 = some r) :
  Calls Try.prog 62 #[.agg #[.bool a0_0, .string a0_1, .string a0_2]] w fun e w' => e = .returned (.string r) ∧ Below w.heap.size w w' := by
 have hu35 := Try.underlying35
 have HB := Aside0.mk (Below.refl w.heap.size w)
 have H : Option.bind (ratio_IsRatio.f k a0_0 a0_1 a0_2) _ = _ := h
 clear h
 replace H := Option.bind_eq_some_iff.mp H
 obtain ⟨t1701, A20, H⟩ := H
 replace H : (if t1701 = true then _ else _) = _ := H
 have A2 := Aside0.mk A20
 clear A20
 by_cases c3 : t1701 = true
 ·subst c3
  have H1 : (if a0_0 = true then _ else _) = _ := (if_pos rfl).symm.trans H
  clear H
  have H := H1
  clear H1
  by_cases c4 : a0_0 = true
  ·subst c4
   have H1 : (if 1 + a0_1.size ≤ 9223372036854775807 then _ else _) = _ := (if_pos rfl).symm.trans H
   clear H
   have H := H1
   clear H1
   by_cases c5 : 1 + a0_1.size ≤ 9223372036854775807
   ·rw [if_pos c5] at H
    have c5b0 := eq_true c5
    have c5b1 : decide (1 + a0_1.size ≤ 9223372036854775807) = true := decide_eq_true c5
    try have c5b2 : (9223372036854775807 < 1 + a0_1.size) = False := eq_false (Nat.not_lt.2 c5)
    (try have c5w := c5; simp at c5w; have c5v := eq_false (Nat.not_lt.2 c5w); clear c5w)
    by_cases c6 : a0_2.toList = ([49] : List UInt8)
    ·rw [if_pos c6] at H
     have c6b0 : (a0_2.toList == ([49] : List UInt8)) = true := beq_iff_eq.mpr c6
     have c6b1 : (a0_2.toList != ([49] : List UInt8)) = false := bne_eq_false_iff_eq.mpr c6
     clear c6
     obtain rfl := Option.some.inj H
     go_enter Try.func62, Try.ntmps62
     go_wp2_with (first | ((with_reducible refine gate_dst (N := 1) rfl ?_); refine be (N := 1) (cs := #[.bool true, .string a0_1, .string a0_2]) (t := 35) ?_; intro gb1700 hg w7 hbox hb; have BK1700 := Aside0.mk (hbox); have GW1700 := gw HB hg; have GE1700 := GW1700; replace HB := hs HB hb; clear hb hbox hg; obtain ⟨hcz8_0, hcz8_1, hcz8_2, hfz8_0, hfz8_1, hfz8_2⟩ := z3 BK1700) | ((with_reducible refine gate_callee (f := 44) rfl ?_); refine goesL_ (some 5) rfl rfl Try.func44 (by kernel_rfl) rfl #[.agg #[.bool true, .string a0_1, .string a0_2]] rfl ga ?_; (with_reducible refine (ratio_IsRatio.calls k true a0_1 a0_2 true _ A2.out).mono ?_); rintro e w9 ⟨rfl, hb⟩; refine ⟨_, rfl, ?_⟩; replace BK1700 := bb BK1700 hb; replace HB := hs HB hb; (try clear hb); obtain ⟨hcz10_0, hcz10_1, hcz10_2, hfz10_0, hfz10_1, hfz10_2⟩ := z3 BK1700))
     go_ret
     exact ⟨er, bs⟩
    ·rw [if_neg c6] at H
     have c6b0 : (a0_2.toList == ([49] : List UInt8)) = false := beq_eq_false_iff_ne.mpr c6
     have c6b1 : (a0_2.toList != ([49] : List UInt8)) = true := bne_iff_ne.mpr c6
     by_cases c11 : 1 + a0_2.size ≤ 9223372036854775807
     ·rw [if_pos c11] at H
      have c11b0 := eq_true c11
      have c11b1 : decide (1 + a0_2.size ≤ 9223372036854775807) = true := decide_eq_true c11
      try have c11b2 : (9223372036854775807 < 1 + a0_2.size) = False := eq_false (Nat.not_lt.2 c11)
      (try have c11w := c11; simp at c11w; have c11v := eq_false (Nat.not_lt.2 c11w); clear c11w)
      by_cases c12 : ((⟨#[45]⟩ : ByteArray) ++ a0_1).size + ((⟨#[47]⟩ : ByteArray) ++ a0_2).size ≤ 9223372036854775807
      ·rw [if_pos c12] at H
       have c12b0 := eq_true c12
       have c12b1 : decide (((⟨#[45]⟩ : ByteArray) ++ a0_1).size + ((⟨#[47]⟩ : ByteArray) ++ a0_2).size ≤ 9223372036854775807) = true := decide_eq_true c12
       try have c12b2 : (9223372036854775807 < ((⟨#[45]⟩ : ByteArray) ++ a0_1).size + ((⟨#[47]⟩ : ByteArray) ++ a0_2).size) = False := eq_false (Nat.not_lt.2 c12)
       (try have c12w := c12; simp [show (⟨#[45]⟩ : ByteArray).size = 1 from rfl, show (⟨#[47]⟩ : ByteArray).size = 1 from rfl] at c12w; have c12v := eq_false (Nat.not_lt.2 c12w); clear c12w)
       obtain rfl := Option.some.inj H
       go_enter Try.func62, Try.ntmps62
       go_wp2_with (first | ((with_reducible refine gate_dst (N := 1) rfl ?_); refine be (N := 1) (cs := #[.bool true, .string a0_1, .string a0_2]) (t := 35) ?_; intro gb1700 hg w13 hbox hb; have BK1700 := Aside0.mk (hbox); have GW1700 := gw HB hg; have GE1700 := GW1700; replace HB := hs HB hb; clear hb hbox hg; obtain ⟨hcz14_0, hcz14_1, hcz14_2, hfz14_0, hfz14_1, hfz14_2⟩ := z3 BK1700) | ((with_reducible refine gate_callee (f := 44) rfl ?_); refine goesL_ (some 5) rfl rfl Try.func44 (by kernel_rfl) rfl #[.agg #[.bool true, .string a0_1, .string a0_2]] rfl ga ?_; (with_reducible refine (ratio_IsRatio.calls k true a0_1 a0_2 true _ A2.out).mono ?_); rintro e w15 ⟨rfl, hb⟩; refine ⟨_, rfl, ?_⟩; replace BK1700 := bb BK1700 hb; replace HB := hs HB hb; (try clear hb); obtain ⟨hcz16_0, hcz16_1, hcz16_2, hfz16_0, hfz16_1, hfz16_2⟩ := z3 BK1700))
       go_ret
       exact ⟨er, bs⟩
      ·rw [if_neg c12] at H
       exact absurd H (by simp)
     ·rw [if_neg c11] at H
      exact absurd H (by simp)
   ·rw [if_neg c5] at H
    exact absurd H (by simp)
  ·replace c4 := Bool.eq_false_iff.mpr c4
   subst c4
   have H1 : (if a0_2.toList = ([49] : List UInt8) then _ else _) = _ := (if_neg (show ¬ (false = true) by decide)).symm.trans H
   clear H
   have H := H1
   clear H1
   by_cases c17 : a0_2.toList = ([49] : List UInt8)
   ·rw [if_pos c17] at H
    have c17b0 : (a0_2.toList == ([49] : List UInt8)) = true := beq_iff_eq.mpr c17
    have c17b1 : (a0_2.toList != ([49] : List UInt8)) = false := bne_eq_false_iff_eq.mpr c17
    clear c17
    obtain rfl := Option.some.inj H
    go_enter Try.func62, Try.ntmps62
    go_wp2_with (first | ((with_reducible refine gate_dst (N := 1) rfl ?_); refine be (N := 1) (cs := #[.bool false, .string a0_1, .string a0_2]) (t := 35) ?_; intro gb1700 hg w18 hbox hb; have BK1700 := Aside0.mk (hbox); have GW1700 := gw HB hg; have GE1700 := GW1700; replace HB := hs HB hb; clear hb hbox hg; obtain ⟨hcz19_0, hcz19_1, hcz19_2, hfz19_0, hfz19_1, hfz19_2⟩ := z3 BK1700) | ((with_reducible refine gate_callee (f := 44) rfl ?_); refine goesL_ (some 5) rfl rfl Try.func44 (by kernel_rfl) rfl #[.agg #[.bool false, .string a0_1, .string a0_2]] rfl ga ?_; (with_reducible refine (ratio_IsRatio.calls k false a0_1 a0_2 true _ A2.out).mono ?_); rintro e w20 ⟨rfl, hb⟩; refine ⟨_, rfl, ?_⟩; replace BK1700 := bb BK1700 hb; replace HB := hs HB hb; (try clear hb); obtain ⟨hcz21_0, hcz21_1, hcz21_2, hfz21_0, hfz21_1, hfz21_2⟩ := z3 BK1700))
    go_ret
    exact ⟨er, bs⟩
   ·rw [if_neg c17] at H
    have c17b0 : (a0_2.toList == ([49] : List UInt8)) = false := beq_eq_false_iff_ne.mpr c17
    have c17b1 : (a0_2.toList != ([49] : List UInt8)) = true := bne_iff_ne.mpr c17
    by_cases c22 : 1 + a0_2.size ≤ 9223372036854775807
    ·rw [if_pos c22] at H
     have c22b0 := eq_true c22
     have c22b1 : decide (1 + a0_2.size ≤ 9223372036854775807) = true := decide_eq_true c22
     try have c22b2 : (9223372036854775807 < 1 + a0_2.size) = False := eq_false (Nat.not_lt.2 c22)
     (try have c22w := c22; simp at c22w; have c22v := eq_false (Nat.not_lt.2 c22w); clear c22w)
     by_cases c23 : a0_1.size + ((⟨#[47]⟩ : ByteArray) ++ a0_2).size ≤ 9223372036854775807
     ·rw [if_pos c23] at H
      have c23b0 := eq_true c23
      have c23b1 : decide (a0_1.size + ((⟨#[47]⟩ : ByteArray) ++ a0_2).size ≤ 9223372036854775807) = true := decide_eq_true c23
      try have c23b2 : (9223372036854775807 < a0_1.size + ((⟨#[47]⟩ : ByteArray) ++ a0_2).size) = False := eq_false (Nat.not_lt.2 c23)
      (try have c23w := c23; simp [show (⟨#[47]⟩ : ByteArray).size = 1 from rfl] at c23w; have c23v := eq_false (Nat.not_lt.2 c23w); clear c23w)
      obtain rfl := Option.some.inj H
      go_enter Try.func62, Try.ntmps62
      go_wp2_with (first | ((with_reducible refine gate_dst (N := 1) rfl ?_); refine be (N := 1) (cs := #[.bool false, .string a0_1, .string a0_2]) (t := 35) ?_; intro gb1700 hg w24 hbox hb; have BK1700 := Aside0.mk (hbox); have GW1700 := gw HB hg; have GE1700 := GW1700; replace HB := hs HB hb; clear hb hbox hg; obtain ⟨hcz25_0, hcz25_1, hcz25_2, hfz25_0, hfz25_1, hfz25_2⟩ := z3 BK1700) | ((with_reducible refine gate_callee (f := 44) rfl ?_); refine goesL_ (some 5) rfl rfl Try.func44 (by kernel_rfl) rfl #[.agg #[.bool false, .string a0_1, .string a0_2]] rfl ga ?_; (with_reducible refine (ratio_IsRatio.calls k false a0_1 a0_2 true _ A2.out).mono ?_); rintro e w26 ⟨rfl, hb⟩; refine ⟨_, rfl, ?_⟩; replace BK1700 := bb BK1700 hb; replace HB := hs HB hb; (try clear hb); obtain ⟨hcz27_0, hcz27_1, hcz27_2, hfz27_0, hfz27_1, hfz27_2⟩ := z3 BK1700))
      go_ret
      exact ⟨er, bs⟩
     ·rw [if_neg c23] at H
      exact absurd H (by simp)
    ·rw [if_neg c22] at H
     exact absurd H (by simp)
 ·replace c3 := Bool.eq_false_iff.mpr c3
  subst c3
  have H1 : (some (⟨#[]⟩ : ByteArray)) = some r := by rw [if_neg (show ¬ (false = true) by decide)] at H; exact H
  clear H
  have H := H1
  clear H1
  obtain rfl := Option.some.inj H
  go_enter Try.func62, Try.ntmps62
  go_wp2_with (first | ((with_reducible refine gate_dst (N := 1) rfl ?_); refine be (N := 1) (cs := #[.bool a0_0, .string a0_1, .string a0_2]) (t := 35) ?_; intro gb1700 hg w28 hbox hb; have BK1700 := Aside0.mk (hbox); have GW1700 := gw HB hg; have GE1700 := GW1700; replace HB := hs HB hb; clear hb hbox hg; obtain ⟨hcz29_0, hcz29_1, hcz29_2, hfz29_0, hfz29_1, hfz29_2⟩ := z3 BK1700) | ((with_reducible refine gate_callee (f := 44) rfl ?_); refine goesL_ (some 5) rfl rfl Try.func44 (by kernel_rfl) rfl #[.agg #[.bool a0_0, .string a0_1, .string a0_2]] rfl ga ?_; (with_reducible refine (ratio_IsRatio.calls k a0_0 a0_1 a0_2 false _ A2.out).mono ?_); rintro e w30 ⟨rfl, hb⟩; refine ⟨_, rfl, ?_⟩; replace BK1700 := bb BK1700 hb; replace HB := hs HB hb; (try clear hb)))
  go_ret
  exact ⟨er, bs⟩
end Go.Proofs.Ytccgfmjcldifcaa.P
