/- Walks of Go functions: what they compute; each theorem's conditions stand in it. -/
import Derived.Test.YtccgfmjcldifcaaT
import Derived.Test.YtccgfmjcldifcaaCFloor
import Derived.Test.YtccgfmjcldifcaaCKnown
import Derived.Test.YtccgfmjcldifcaaCParse
import Derived.Test.YtccgfmjcldifcaaCRaAdd
import Derived.Test.YtccgfmjcldifcaaCRaCmp
import Derived.Test.YtccgfmjcldifcaaCSome36
import Derived.Test.YtccgfmjcldifcaaDA
import Derived.Test.YtccgfmjcldifcaaDB
import Derived.Test.YtccgfmjcldifcaaDE
import Derived.Test.YtccgfmjcldifcaaDLRatioOrder
namespace Go.Proofs.Ytccgfmjcldifcaa.P
open Go.RowKit Go.Proofs.YtccgfmjcldifcaaW.PrintWords Go.Proofs.YtccgfmjcldifcaaW.PrintLast Go.Proofs.YtccgfmjcldifcaaW.PrintMore
attribute [local go_sem] max2_int min2_int max_two min_two max_three min_three max_four min_four
set_option linter.unusedVariables false
set_option linter.unusedSimpArgs false
attribute [local go_sem high] eqA35
def corporalaw36_RatioOrder.T7 : Bool × List (List Nat × List Nat) := (true, [([], []), ([0], [0]), ([1], [1]), ([2], [2]), ([3, 2], [2, 3]), ([2, 4], [2, 4]), ([5, 2], [5]), ([6], [6]), ([7, 6], [6, 7]), ([6, 8], [6, 8]), ([9, 6], [9]), ([10], [10]), ([11, 10], [10, 11]), ([10, 12], [10, 12]), ([13, 10], [13]), ([14], [14]), ([14], [14]), ([15, 16, 14, 14], [14, 15, 16]), ([17, 14], [14, 17]), ([14], [14]), ([19, 14], [14, 19]), ([18, 20, 14], [14, 18, 20]), ([14, 21], [14, 21]), ([22, 17], [22]), ([23], [23]), ([24, 23], [23, 24]), ([25, 23], [23, 25]), ([23, 26], [23, 26]), ([27, 23], [27]), ([28], [28]), ([29, 28], [28, 29]), ([30, 28], [28, 30]), ([28, 31], [28, 31]), ([32, 28], [32]), ([33], [33]), ([33], [33]), ([34, 35, 33, 33], [33, 34, 35]), ([36, 33], [33, 36]), ([33, 37], [33, 37]), ([38, 36], [38]), ([39], [39]), ([39], [39]), ([40, 41, 39], [39, 40, 41]), ([39, 42], [39, 42]), ([43, 39], [43]), ([44, 44], [44]), ([44, 45], [44, 45]), ([46, 45, 0, 1, 2, 3, 4, 5, 6, 7, 8, 9, 10, 11, 12, 13, 14, 15, 16, 17, 18, 19, 20, 21, 22, 23, 24, 25, 26, 27, 28, 29, 30, 31, 32, 33, 34, 35, 36, 37, 38, 39, 40, 41, 42, 43, 44, 45, 46], [46])])
def corporalaw36_RatioOrder.B7 : List Nat := [0, 1, 3, 7, 15, 31, 63, 127, 255, 511, 1023, 2047, 4095, 8191, 16383, 32767, 32767, 131071, 262143, 32767, 557055, 2097151, 4194303, 8388607, 16777215, 33554431, 67108863, 134217727, 268435455, 536870911, 1073741823, 2147483647, 4294967295, 8589934591, 17179869183, 17179869183, 68719476735, 137438953471, 274877906943, 549755813887, 1099511627775, 1099511627775, 4398046511103, 8796093022207, 17592186044415, 35184372088831, 70368744177663, 140737488355327]
theorem corporalaw36_RatioOrder.tab7 : rtab .any (opsOf Try.f15 7) = corporalaw36_RatioOrder.T7 := by kernel_rfl
theorem corporalaw36_RatioOrder.bits7 : waitsOk corporalaw36_RatioOrder.T7.2 corporalaw36_RatioOrder.B7 = true := by kernel_rfl
set_option maxHeartbeats 8000000 in
set_option maxRecDepth 100000 in
theorem corporalaw36_RatioOrder.calls (k : Nat) (A0 : Option Addr) (c0 : Nat) (l0 : List Int) (A1 : Option Addr) (c1 : Nat) (l1 : List Int) (r : Bool) (w : World) (hr0 : Kd.C (Kd.int .i64) w A0 l0.length l0) (hc0 : l0.length ≤ c0) (hr1 : Kd.C (Kd.int .i64) w A1 l1.length l1) (hc1 : l1.length ≤ c1) (m : Int) (hm : w.cell? ⟨0, 0, none⟩ = some (.int .i64 m)) (h : corporalaw36_RatioOrder.f k l0 l1 = some r) :
  Calls Try.prog 15 #[.slice A0 l0.length c0, .slice A1 l1.length c1] w fun e w' => e = .returned (.bool r) ∧ Below w.heap.size w w' := by
 have hu35 := Try.underlying35
 have HR0 := Aside0.mk hr0
 have HC0 := Aside0.mk hc0
 clear hr0 hc0
 have HR1 := Aside0.mk hr1
 have HC1 := Aside0.mk hc1
 clear hr1 hc1
 have HB := Aside0.mk (Below.refl w.heap.size w)
 have H : Option.bind (corporalaw36_some.f k l0) _ = _ := h
 clear h
 replace H := Option.bind_eq_some_iff.mp H
 obtain ⟨⟨t1702, t1703, t1704⟩, A30, H⟩ := H
 replace H : Option.bind (corporalaw36_some.f k l1) _ = _ := H
 have A3 := Aside0.mk A30
 clear A30
 replace H := Option.bind_eq_some_iff.mp H
 obtain ⟨⟨t1705, t1706, t1707⟩, A40, H⟩ := H
 replace H : Option.bind (ratio_Sub.f k t1702 t1703 t1704 t1705 t1706 t1707) _ = _ := H
 have A4 := Aside0.mk A40
 clear A40
 replace H := Option.bind_eq_some_iff.mp H
 obtain ⟨⟨t1710, t1711, t1712, t1713⟩, A50, H⟩ := H
 replace H : Option.bind (ratio_Floor.f k t1702 t1703 t1704) _ = _ := H
 have A5 := Aside0.mk A50
 clear A50
 replace H := Option.bind_eq_some_iff.mp H
 obtain ⟨⟨t1715, t1716, t1717, t1718⟩, A60, H⟩ := H
 replace H : Option.bind (ratio_Sub.f k t1702 t1703 t1704 t1715 t1716 t1717) _ = _ := H
 have A6 := Aside0.mk A60
 clear A60
 replace H := Option.bind_eq_some_iff.mp H
 obtain ⟨⟨t1720, t1721, t1722, t1723⟩, A70, H⟩ := H
 replace H : Option.bind (ratio_Format.f k t1702 t1703 t1704) _ = _ := H
 have A7 := Aside0.mk A70
 clear A70
 replace H := Option.bind_eq_some_iff.mp H
 obtain ⟨t1725, A80, H⟩ := H
 replace H : Option.bind (ratio_Parse.f k t1725) _ = _ := H
 have A8 := Aside0.mk A80
 clear A80
 replace H := Option.bind_eq_some_iff.mp H
 obtain ⟨⟨t1726, t1727, t1728, t1729⟩, A90, H⟩ := H
 replace H : (if t1713 = 0 then _ else _) = _ := H
 have A9 := Aside0.mk A90
 clear A90
 by_cases c10 : t1713 = 0
 ·rw [if_pos c10] at H
  have c10b0 : (t1713 == 0) = true := beq_iff_eq.mpr c10
  have c10b1 : (t1713 != 0) = false := bne_eq_false_iff_eq.mpr c10
  clear c10
  by_cases c11 : t1718 = 0
  ·rw [if_pos c11] at H
   have c11b0 : (t1718 == 0) = true := beq_iff_eq.mpr c11
   have c11b1 : (t1718 != 0) = false := bne_eq_false_iff_eq.mpr c11
   clear c11
   by_cases c12 : t1723 = 0
   ·rw [if_pos c12] at H
    have c12b0 : (t1723 == 0) = true := beq_iff_eq.mpr c12
    have c12b1 : (t1723 != 0) = false := bne_eq_false_iff_eq.mpr c12
    clear c12
    by_cases c13 : t1729 = 0
    ·rw [if_pos c13] at H
     have c13b0 : (t1729 == 0) = true := beq_iff_eq.mpr c13
     have c13b1 : (t1729 != 0) = false := bne_eq_false_iff_eq.mpr c13
     clear c13
     replace H := Option.bind_eq_some_iff.mp H
     obtain ⟨t1732, A140, H⟩ := H
     replace H : (if ((decide (t1732 < 0)) == t1710) = true then _ else _) = _ := H
     have A14 := Aside0.mk A140
     clear A140
     by_cases c15 : ((decide (t1732 < 0)) == t1710) = true
     ·rw [if_pos c15] at H
      have c15b0 : ((decide (t1732 < 0)) == t1710) = true := c15
      (try (have c15b1 : decide ((decide (t1732 < 0)) = t1710) = true := by simpa using c15))
      (try (have c15b2 : ((decide (t1732 < 0)) == t1710) = true := by simpa using c15))
      clear c15
      by_cases c16 : t1717.toList = ([49] : List UInt8)
      ·rw [if_pos c16] at H
       have c16b0 : (t1717.toList == ([49] : List UInt8)) = true := beq_iff_eq.mpr c16
       have c16b1 : (t1717.toList != ([49] : List UInt8)) = false := bne_eq_false_iff_eq.mpr c16
       clear c16
       by_cases c17 : t1720 = true
       ·subst c17
        have H1 : (none) = some r := by rw [if_pos rfl] at H; exact H
        clear H
        have H := H1
        clear H1
        exact absurd H (by simp)
       ·replace c17 := Bool.eq_false_iff.mpr c17
        subst c17
        have H1 : Option.bind (ratio_Compare.f k false t1721 t1722 false (⟨#[49]⟩ : ByteArray) (⟨#[49]⟩ : ByteArray)) _ = _ := (if_neg (show ¬ (false = true) by decide)).symm.trans H
        clear H
        have H := H1
        clear H1
        replace H := Option.bind_eq_some_iff.mp H
        obtain ⟨t1733, A180, H⟩ := H
        replace H : (if t1733 < 0 then _ else _) = _ := H
        have A18 := Aside0.mk A180
        clear A180
        by_cases c19 : t1733 < 0
        ·rw [if_pos c19] at H
         have c19b0 : decide (t1733 < 0) = true := decide_eq_true c19
         clear c19
         by_cases c20 : (t1726 == t1702 && (t1727.toList == t1703.toList && (t1728.toList == t1704.toList))) = true
         ·rw [if_pos c20] at H
          have c20b0 : (t1726 == t1702 && (t1727.toList == t1703.toList && (t1728.toList == t1704.toList))) = true := c20
          (try (have c20b1 : decide (t1726 = t1702 && (t1727.toList == t1703.toList && (t1728.toList == t1704.toList))) = true := by simpa using c20))
          (try (have c20b2 : (t1726 == t1702 && (t1727.toList == t1703.toList && (t1728.toList == t1704.toList))) = true := by simpa using c20))
          clear c20
          replace H := Option.bind_eq_some_iff.mp H
          obtain ⟨t1734, A210, H⟩ := H
          replace H : (some t1734) = some r := H
          have A21 := Aside0.mk A210
          clear A210
          obtain rfl := Option.some.inj H
          go_enter Try.func15, Try.ntmps15
          try go_wp2_with (first | ((with_reducible refine gate_callee (f := 41) rfl ?_); refine goesL_ (some 17) rfl rfl Try.func41 (by kernel_rfl) rfl #[.slice A0 l0.length c0] rfl ga ?_; (with_reducible refine (corporalaw36_some.calls k _ _ l0 t1702 t1703 t1704 _ ?side1 ?side2 A3.out).mono ?_); (case side1 => exact cl HR0.out); (case side2 => exact HC0.out); rintro e w22 ⟨rfl, hb⟩; refine ⟨_, rfl, ?_⟩; replace HB := hs HB hb; (try clear hb)) | ((with_reducible refine gate_callee (f := 41) rfl ?_); refine goesL_ (some 19) rfl rfl Try.func41 (by kernel_rfl) rfl #[.slice A1 l1.length c1] rfl ga ?_; (with_reducible refine (corporalaw36_some.calls k _ _ l1 t1705 t1706 t1707 _ ?side1 ?side2 A4.out).mono ?_); (case side1 => exact cl ((Kd.C_below HR1.out HB.out))); (case side2 => exact HC1.out); rintro e w23 ⟨rfl, hb⟩; refine ⟨_, rfl, ?_⟩; replace HB := hs HB hb; (try clear hb)) | ((with_reducible refine gate_dst (N := 5) rfl ?_); refine be (N := 5) (cs := #[.bool false, .string (⟨#[]⟩ : ByteArray), .string (⟨#[]⟩ : ByteArray)]) (t := 35) ?_; intro gb1708 hg w24 hbox hb; have BK1708 := Aside0.mk (hbox); have GW1708 := gw HB hg; have GE1708 := GW1708; replace HB := hs HB hb; clear hb hbox hg) | ((with_reducible refine gate_dst (N := 6) rfl ?_); refine be (N := 6) (cs := #[.bool false, .string (⟨#[]⟩ : ByteArray), .string (⟨#[]⟩ : ByteArray)]) (t := 35) ?_; intro gb1709 hg w25 hbox hb; have BK1709 := Aside0.mk (hbox); have GW1709 := gw HB hg; have GE1709 := GW1709; replace HB := hs HB hb; have NB1708_1709 := na BK1708 hg; have NB1709_1708 := nz NB1708_1709; replace BK1708 := bb BK1708 hb; clear hb hbox hg; have hnb26 := NB1708_1709.out; have hnc26 := NB1709_1708.out; obtain ⟨hcz27_0, hcz27_1, hcz27_2, hfz27_0, hfz27_1, hfz27_2⟩ := z3 BK1708; obtain ⟨hcz28_0, hcz28_1, hcz28_2, hfz28_0, hfz28_1, hfz28_2⟩ := z3 BK1709) | ((with_reducible refine gate_callee (f := 43) rfl ?_); refine goesL_ (some 23) rfl rfl Try.func43 (by kernel_rfl) rfl #[.agg #[.bool t1702, .string t1703, .string t1704], .agg #[.bool t1705, .string t1706, .string t1707]] rfl ga ?_; (with_reducible refine (ratio_Sub.calls k t1702 t1703 t1704 t1705 t1706 t1707 t1710 t1711 t1712 t1713 _ A5.out).mono ?_); rintro e w29 ⟨rfl, hb⟩; refine ⟨_, rfl, ?_⟩; replace BK1708 := bq BK1708 #[.bool t1702, .string t1703, .string t1704] hb; replace BK1709 := bq BK1709 #[.bool t1705, .string t1706, .string t1707] hb; replace HB := hs HB hb; (try clear hb)) | ((with_reducible refine gate_dst (N := 7) rfl ?_); refine be (N := 7) (cs := #[.bool false, .string (⟨#[]⟩ : ByteArray), .string (⟨#[]⟩ : ByteArray)]) (t := 35) ?_; intro gb1714 hg w30 hbox hb; have BK1714 := Aside0.mk (hbox); have GW1714 := gw HB hg; have GE1714 := GW1714; replace HB := hs HB hb; have NB1708_1714 := na BK1708 hg; have NB1714_1708 := nz NB1708_1714; replace BK1708 := bb BK1708 hb; have NB1709_1714 := na BK1709 hg; have NB1714_1709 := nz NB1709_1714; replace BK1709 := bb BK1709 hb; clear hb hbox hg; have hnb31 := NB1714_1708.out; have hnc31 := NB1708_1714.out; have hnb32 := NB1714_1709.out; have hnc32 := NB1709_1714.out; obtain ⟨hcz33_0, hcz33_1, hcz33_2, hfz33_0, hfz33_1, hfz33_2⟩ := z3 BK1714; obtain ⟨hcz34_0, hcz34_1, hcz34_2, hfz34_0, hfz34_1, hfz34_2⟩ := z3 BK1708) | ((with_reducible refine gate_callee (f := 60) rfl ?_); refine goesL_ (some 28) rfl rfl Try.func60 (by kernel_rfl) rfl #[.agg #[.bool t1702, .string t1703, .string t1704]] rfl ga ?_; (with_reducible refine (ratio_Floor.calls k t1702 t1703 t1704 t1715 t1716 t1717 t1718 _ A6.out).mono ?_); rintro e w35 ⟨rfl, hb⟩; refine ⟨_, rfl, ?_⟩; replace BK1708 := bb BK1708 hb; replace BK1709 := bb BK1709 hb; replace BK1714 := bq BK1714 #[.bool t1710, .string t1711, .string t1712] hb; replace HB := hs HB hb; (try clear hb)) | ((with_reducible refine gate_dst (N := 9) rfl ?_); refine be (N := 9) (cs := #[.bool false, .string (⟨#[]⟩ : ByteArray), .string (⟨#[]⟩ : ByteArray)]) (t := 35) ?_; intro gb1719 hg w36 hbox hb; have BK1719 := Aside0.mk (hbox); have GW1719 := gw HB hg; have GE1719 := GW1719; replace HB := hs HB hb; have NB1708_1719 := na BK1708 hg; have NB1719_1708 := nz NB1708_1719; replace BK1708 := bb BK1708 hb; have NB1709_1719 := na BK1709 hg; have NB1719_1709 := nz NB1709_1719; replace BK1709 := bb BK1709 hb; have NB1714_1719 := na BK1714 hg; have NB1719_1714 := nz NB1714_1719; replace BK1714 := bb BK1714 hb; clear hb hbox hg; have hnb37 := NB1719_1708.out; have hnc37 := NB1708_1719.out; have hnb38 := NB1719_1709.out; have hnc38 := NB1709_1719.out; have hnb39 := NB1719_1714.out; have hnc39 := NB1714_1719.out; obtain ⟨hcz40_0, hcz40_1, hcz40_2, hfz40_0, hfz40_1, hfz40_2⟩ := z3 BK1719; obtain ⟨hcz41_0, hcz41_1, hcz41_2, hfz41_0, hfz41_1, hfz41_2⟩ := z3 BK1708) | ((with_reducible refine gate_callee (f := 43) rfl ?_); refine goesL_ (some 34) rfl rfl Try.func43 (by kernel_rfl) rfl #[.agg #[.bool t1702, .string t1703, .string t1704], .agg #[.bool t1715, .string t1716, .string t1717]] rfl ga ?_; (with_reducible refine (ratio_Sub.calls k t1702 t1703 t1704 t1715 t1716 t1717 false t1721 t1722 t1723 _ A7.out).mono ?_); rintro e w42 ⟨rfl, hb⟩; refine ⟨_, rfl, ?_⟩; replace BK1708 := bb BK1708 hb; replace BK1709 := bb BK1709 hb; replace BK1714 := bb BK1714 hb; replace BK1719 := bq BK1719 #[.bool t1715, .string t1716, .string t1717] hb; replace HB := hs HB hb; (try clear hb)) | ((with_reducible refine gate_dst (N := 11) rfl ?_); refine be (N := 11) (cs := #[.bool false, .string (⟨#[]⟩ : ByteArray), .string (⟨#[]⟩ : ByteArray)]) (t := 35) ?_; intro gb1724 hg w43 hbox hb; have BK1724 := Aside0.mk (hbox); have GW1724 := gw HB hg; have GE1724 := GW1724; replace HB := hs HB hb; have NB1708_1724 := na BK1708 hg; have NB1724_1708 := nz NB1708_1724; replace BK1708 := bb BK1708 hb; have NB1709_1724 := na BK1709 hg; have NB1724_1709 := nz NB1709_1724; replace BK1709 := bb BK1709 hb; have NB1714_1724 := na BK1714 hg; have NB1724_1714 := nz NB1714_1724; replace BK1714 := bb BK1714 hb; have NB1719_1724 := na BK1719 hg; have NB1724_1719 := nz NB1719_1724; replace BK1719 := bb BK1719 hb; clear hb hbox hg; have hnb44 := NB1724_1708.out; have hnc44 := NB1708_1724.out; have hnb45 := NB1724_1709.out; have hnc45 := NB1709_1724.out; have hnb46 := NB1724_1714.out; have hnc46 := NB1714_1724.out; have hnb47 := NB1724_1719.out; have hnc47 := NB1719_1724.out; obtain ⟨hcz48_0, hcz48_1, hcz48_2, hfz48_0, hfz48_1, hfz48_2⟩ := z3 BK1724; obtain ⟨hcz49_0, hcz49_1, hcz49_2, hfz49_0, hfz49_1, hfz49_2⟩ := z3 BK1708) | ((with_reducible refine gate_callee (f := 62) rfl ?_); refine goesL_ (some 39) rfl rfl Try.func62 (by kernel_rfl) rfl #[.agg #[.bool t1702, .string t1703, .string t1704]] rfl ga ?_; (with_reducible refine (ratio_Format.calls k t1702 t1703 t1704 t1725 _ A8.out).mono ?_); rintro e w50 ⟨rfl, hb⟩; refine ⟨_, rfl, ?_⟩; replace BK1708 := bb BK1708 hb; replace BK1709 := bb BK1709 hb; replace BK1714 := bb BK1714 hb; replace BK1719 := bb BK1719 hb; replace BK1724 := bq BK1724 #[.bool false, .string t1721, .string t1722] hb; replace HB := hs HB hb; (try clear hb)) | ((with_reducible refine gate_callee (f := 61) rfl ?_); refine goesL_ (some 40) rfl rfl Try.func61 (by kernel_rfl) rfl #[.string t1725] rfl ga ?_; (with_reducible refine (ratio_Parse.calls k t1725 t1726 t1727 t1728 t1729 _ m ?sideM A9.out).mono ?_); (case sideM => exact gl hm bs); rintro e w51 ⟨rfl, hb⟩; refine ⟨_, rfl, ?_⟩; replace BK1708 := bb BK1708 hb; replace BK1709 := bb BK1709 hb; replace BK1714 := bb BK1714 hb; replace BK1719 := bb BK1719 hb; replace BK1724 := bb BK1724 hb; replace HB := hs HB hb; (try clear hb)) | ((with_reducible refine gate_dst (N := 13) rfl ?_); refine be (N := 13) (cs := #[.bool false, .string (⟨#[]⟩ : ByteArray), .string (⟨#[]⟩ : ByteArray)]) (t := 35) ?_; intro gb1730 hg w52 hbox hb; have BK1730 := Aside0.mk (hbox); have GW1730 := gw HB hg; have GE1730 := GW1730; replace HB := hs HB hb; have NB1708_1730 := na BK1708 hg; have NB1730_1708 := nz NB1708_1730; replace BK1708 := bb BK1708 hb; have NB1709_1730 := na BK1709 hg; have NB1730_1709 := nz NB1709_1730; replace BK1709 := bb BK1709 hb; have NB1714_1730 := na BK1714 hg; have NB1730_1714 := nz NB1714_1730; replace BK1714 := bb BK1714 hb; have NB1719_1730 := na BK1719 hg; have NB1730_1719 := nz NB1719_1730; replace BK1719 := bb BK1719 hb; have NB1724_1730 := na BK1724 hg; have NB1730_1724 := nz NB1724_1730; replace BK1724 := bb BK1724 hb; clear hb hbox hg; have hnb53 := NB1730_1708.out; have hnc53 := NB1708_1730.out; have hnb54 := NB1730_1709.out; have hnc54 := NB1709_1730.out; have hnb55 := NB1730_1714.out; have hnc55 := NB1714_1730.out; have hnb56 := NB1730_1719.out; have hnc56 := NB1719_1730.out; have hnb57 := NB1730_1724.out; have hnc57 := NB1724_1730.out; obtain ⟨hcz58_0, hcz58_1, hcz58_2, hfz58_0, hfz58_1, hfz58_2⟩ := z3 BK1730) | ((with_reducible refine gate_dst (N := 15) rfl ?_); refine be (N := 15) (cs := #[.bool false, .string (⟨#[]⟩ : ByteArray), .string (⟨#[]⟩ : ByteArray)]) (t := 35) ?_; intro gb1731 hg w59 hbox hb; have BK1731 := Aside0.mk (hbox); have GW1731 := gw HB hg; have GE1731 := GW1731; replace HB := hs HB hb; have NB1708_1731 := na BK1708 hg; have NB1731_1708 := nz NB1708_1731; replace BK1708 := bb BK1708 hb; have NB1709_1731 := na BK1709 hg; have NB1731_1709 := nz NB1709_1731; replace BK1709 := bb BK1709 hb; have NB1714_1731 := na BK1714 hg; have NB1731_1714 := nz NB1714_1731; replace BK1714 := bb BK1714 hb; have NB1719_1731 := na BK1719 hg; have NB1731_1719 := nz NB1719_1731; replace BK1719 := bb BK1719 hb; have NB1724_1731 := na BK1724 hg; have NB1731_1724 := nz NB1724_1731; replace BK1724 := bb BK1724 hb; have NB1730_1731 := Aside0.mk ((by rw [hg]; exact Nat.ne_of_lt (blk_lt (g := gb1730) (o := .cells #[.bool t1726, .string t1727, .string t1728] 35 (0, 0)) bw) : gb1730 ≠ gb1731)); have NB1731_1730 := Aside0.mk ((by rw [hg]; exact Nat.ne_of_gt (blk_lt (g := gb1730) (o := .cells #[.bool t1726, .string t1727, .string t1728] 35 (0, 0)) bw) : gb1731 ≠ gb1730)); replace BK1730 := bq BK1730 #[.bool t1726, .string t1727, .string t1728] hb; clear hb hbox hg; have hnb60 := NB1731_1708.out; have hnc60 := NB1708_1731.out; have hnb61 := NB1731_1709.out; have hnc61 := NB1709_1731.out; have hnb62 := NB1731_1714.out; have hnc62 := NB1714_1731.out; have hnb63 := NB1731_1719.out; have hnc63 := NB1719_1731.out; have hnb64 := NB1731_1724.out; have hnc64 := NB1724_1731.out; have hnb65 := NB1731_1730.out; have hnc65 := NB1730_1731.out; obtain ⟨hcz66_0, hcz66_1, hcz66_2, hfz66_0, hfz66_1, hfz66_2⟩ := z3 BK1731))
          have n0_ : Aside0 ((((w59.setCell ⟨gb1731, 0, none⟩ (.bool false)).setCell ⟨gb1731, 1, none⟩ (.string (⟨#[49]⟩ : ByteArray))).setCell ⟨gb1731, 2, none⟩ (.string (⟨#[49]⟩ : ByteArray))).heap[gb1708]? = some (.cells #[.bool t1702, .string t1703, .string t1704] 35 (0, 0))) := ⟨bk⟩
          have n1_ : Aside0 ((((w59.setCell ⟨gb1731, 0, none⟩ (.bool false)).setCell ⟨gb1731, 1, none⟩ (.string (⟨#[49]⟩ : ByteArray))).setCell ⟨gb1731, 2, none⟩ (.string (⟨#[49]⟩ : ByteArray))).heap[gb1709]? = some (.cells #[.bool t1705, .string t1706, .string t1707] 35 (0, 0))) := ⟨bk⟩
          have n2_ : Aside0 ((((w59.setCell ⟨gb1731, 0, none⟩ (.bool false)).setCell ⟨gb1731, 1, none⟩ (.string (⟨#[49]⟩ : ByteArray))).setCell ⟨gb1731, 2, none⟩ (.string (⟨#[49]⟩ : ByteArray))).heap[gb1714]? = some (.cells #[.bool t1710, .string t1711, .string t1712] 35 (0, 0))) := ⟨bk⟩
          have n3_ : Aside0 ((((w59.setCell ⟨gb1731, 0, none⟩ (.bool false)).setCell ⟨gb1731, 1, none⟩ (.string (⟨#[49]⟩ : ByteArray))).setCell ⟨gb1731, 2, none⟩ (.string (⟨#[49]⟩ : ByteArray))).heap[gb1719]? = some (.cells #[.bool t1715, .string t1716, .string t1717] 35 (0, 0))) := ⟨bk⟩
          have n4_ : Aside0 ((((w59.setCell ⟨gb1731, 0, none⟩ (.bool false)).setCell ⟨gb1731, 1, none⟩ (.string (⟨#[49]⟩ : ByteArray))).setCell ⟨gb1731, 2, none⟩ (.string (⟨#[49]⟩ : ByteArray))).heap[gb1724]? = some (.cells #[.bool false, .string t1721, .string t1722] 35 (0, 0))) := ⟨bk⟩
          have n5_ : Aside0 ((((w59.setCell ⟨gb1731, 0, none⟩ (.bool false)).setCell ⟨gb1731, 1, none⟩ (.string (⟨#[49]⟩ : ByteArray))).setCell ⟨gb1731, 2, none⟩ (.string (⟨#[49]⟩ : ByteArray))).heap[gb1730]? = some (.cells #[.bool t1726, .string t1727, .string t1728] 35 (0, 0))) := ⟨bk⟩
          have n6_ : Aside0 ((((w59.setCell ⟨gb1731, 0, none⟩ (.bool false)).setCell ⟨gb1731, 1, none⟩ (.string (⟨#[49]⟩ : ByteArray))).setCell ⟨gb1731, 2, none⟩ (.string (⟨#[49]⟩ : ByteArray))).heap[gb1731]? = some (.cells #[.bool false, .string (⟨#[49]⟩ : ByteArray), .string (⟨#[49]⟩ : ByteArray)] 35 (0, 0))) := ⟨by (with_reducible repeat (first | refine blk_drewN ?_ _ | refine blk_drew ?_ | refine blk_alloc ?_ _)); refine blk_put (cs := #[.bool false, .string (⟨#[49]⟩ : ByteArray), .string (⟨#[]⟩ : ByteArray)]) ?_ 2 _ rfl; (with_reducible repeat (first | refine blk_drewN ?_ _ | refine blk_drew ?_ | refine blk_alloc ?_ _)); refine blk_put (cs := #[.bool false, .string (⟨#[]⟩ : ByteArray), .string (⟨#[]⟩ : ByteArray)]) ?_ 1 _ rfl; (with_reducible repeat (first | refine blk_drewN ?_ _ | refine blk_drew ?_ | refine blk_alloc ?_ _)); refine blk_put (cs := #[.bool false, .string (⟨#[]⟩ : ByteArray), .string (⟨#[]⟩ : ByteArray)]) ?_ 0 _ rfl; (with_reducible repeat (first | refine blk_drewN ?_ _ | refine blk_drew ?_ | refine blk_alloc ?_ _)); exact BK1731.out⟩
          have n7_ : Aside0 (Below w.heap.size w (((w59.setCell ⟨gb1731, 0, none⟩ (.bool false)).setCell ⟨gb1731, 1, none⟩ (.string (⟨#[49]⟩ : ByteArray))).setCell ⟨gb1731, 2, none⟩ (.string (⟨#[49]⟩ : ByteArray)))) := ⟨bs⟩
          (try clear BK1708)
          (try clear BK1709)
          (try clear BK1714)
          (try clear BK1719)
          (try clear BK1724)
          (try clear BK1730)
          (try clear BK1731)
          (try clear HB)
          generalize (((w59.setCell ⟨gb1731, 0, none⟩ (.bool false)).setCell ⟨gb1731, 1, none⟩ (.string (⟨#[49]⟩ : ByteArray))).setCell ⟨gb1731, 2, none⟩ (.string (⟨#[49]⟩ : ByteArray))) = w67 at n0_ n1_ n2_ n3_ n4_ n5_ n6_ n7_ ⊢
          have BK1708 := n0_
          have BK1709 := n1_
          have BK1714 := n2_
          have BK1719 := n3_
          have BK1724 := n4_
          have BK1730 := n5_
          have BK1731 := n6_
          have HB := n7_
          clear n0_ n1_ n2_ n3_ n4_ n5_ n6_ n7_
          replace BK1708 := Aside0.mk (blk_drew BK1708.out)
          replace BK1709 := Aside0.mk (blk_drew BK1709.out)
          replace BK1714 := Aside0.mk (blk_drew BK1714.out)
          replace BK1719 := Aside0.mk (blk_drew BK1719.out)
          replace BK1724 := Aside0.mk (blk_drew BK1724.out)
          replace BK1730 := Aside0.mk (blk_drew BK1730.out)
          replace BK1731 := Aside0.mk (blk_drew BK1731.out)
          replace HB := Aside0.mk (below_drew1 HB.out)
          refine start_ (n := 48) (S := fun w' => w'.cell? ⟨gb1708, 0, none⟩ = some (.bool t1702) ∧ w'.cell? ⟨gb1708, 1, none⟩ = some (.string t1703) ∧ w'.cell? ⟨gb1708, 2, none⟩ = some (.string t1704) ∧ w'.cell? ⟨gb1709, 0, none⟩ = some (.bool t1705) ∧ w'.cell? ⟨gb1709, 1, none⟩ = some (.string t1706) ∧ w'.cell? ⟨gb1709, 2, none⟩ = some (.string t1707) ∧ w'.cell? ⟨gb1714, 0, none⟩ = some (.bool t1710) ∧ w'.cell? ⟨gb1714, 1, none⟩ = some (.string t1711) ∧ w'.cell? ⟨gb1714, 2, none⟩ = some (.string t1712) ∧ w'.cell? ⟨gb1719, 0, none⟩ = some (.bool t1715) ∧ w'.cell? ⟨gb1719, 1, none⟩ = some (.string t1716) ∧ w'.cell? ⟨gb1719, 2, none⟩ = some (.string t1717) ∧ w'.cell? ⟨gb1724, 0, none⟩ = some (.bool false) ∧ w'.cell? ⟨gb1724, 1, none⟩ = some (.string t1721) ∧ w'.cell? ⟨gb1724, 2, none⟩ = some (.string t1722) ∧ w'.cell? ⟨gb1731, 0, none⟩ = some (.bool false) ∧ w'.cell? ⟨gb1731, 1, none⟩ = some (.string (⟨#[49]⟩ : ByteArray)) ∧ w'.cell? ⟨gb1731, 2, none⟩ = some (.string (⟨#[49]⟩ : ByteArray)) ∧ w'.cell? ⟨gb1730, 0, none⟩ = some (.bool t1726) ∧ w'.cell? ⟨gb1730, 1, none⟩ = some (.string t1727) ∧ w'.cell? ⟨gb1730, 2, none⟩ = some (.string t1728)) (ds := []) #[false, false, false, false, false, false, false, false, false, false, false, false, false, false, false, false, false, false, false, false, false, false, false, false, false, false, false, false, false, false, false, false, false, false, false, false, false, false, false, false, false, false, false, false, false, false, false, false] (by kernel_rfl) rfl rfl ⟨(blk_cell BK1708.out 0).trans rfl, (blk_cell BK1708.out 1).trans rfl, (blk_cell BK1708.out 2).trans rfl, (blk_cell BK1709.out 0).trans rfl, (blk_cell BK1709.out 1).trans rfl, (blk_cell BK1709.out 2).trans rfl, (blk_cell BK1714.out 0).trans rfl, (blk_cell BK1714.out 1).trans rfl, (blk_cell BK1714.out 2).trans rfl, (blk_cell BK1719.out 0).trans rfl, (blk_cell BK1719.out 1).trans rfl, (blk_cell BK1719.out 2).trans rfl, (blk_cell BK1724.out 0).trans rfl, (blk_cell BK1724.out 1).trans rfl, (blk_cell BK1724.out 2).trans rfl, (blk_cell BK1731.out 0).trans rfl, (blk_cell BK1731.out 1).trans rfl, (blk_cell BK1731.out 2).trans rfl, (blk_cell BK1730.out 0).trans rfl, (blk_cell BK1730.out 1).trans rfl, (blk_cell BK1730.out 2).trans rfl⟩ (fun hHeld => ?_); refine with_tabW corporalaw36_RatioOrder.tab7 corporalaw36_RatioOrder.bits7 (fun HT_ HW_ => ?_)
          generalize w67.drew = w68 at BK1708 BK1709 BK1714 BK1719 BK1724 BK1730 BK1731 HB hHeld ⊢
          refine pu (i := 0) (N := some 44) ?_
          refine pu (i := 1) (N := some 45) ?_
          refine pu (i := 2) (N := some 46) ?_
          refine pu (i := 3) (N := some 47) ?_
          refine pu (i := 4) (N := some 48) ?_
          refine pu (i := 5) (N := some 49) ?_
          refine pu (i := 6) (N := some 50) ?_
          refine pu (i := 7) (N := some 51) ?_
          refine pu (i := 8) (N := some 52) ?_
          refine pu (i := 9) (N := some 53) ?_
          refine pu (i := 10) (N := some 54) ?_
          refine pu (i := 11) (N := some 55) ?_
          refine pu (i := 12) (N := some 56) ?_
          refine pu (i := 13) (N := some 57) ?_
          refine pu (i := 14) (N := some 58) ?_
          refine pu (i := 19) (N := some 63) ?_
          refine ta (i := 15) (N := some 59) hHeld ?_
          refine ta (i := 16) (N := some 60) hHeld ?_
          refine ta (i := 20) (N := some 64) hHeld ?_
          refine on (i := 17) (N := some 61) (fun K hK => ?_)
          refine goes_ Try.func47 (by kernel_rfl) rfl #[.agg #[.bool t1702, .string t1703, .string t1704], .agg #[.bool t1705, .string t1706, .string t1707]] (by rfl) rfl rfl ga ?_
          with_reducible refine (ratio_Compare.calls k t1702 t1703 t1704 t1705 t1706 t1707 t1732 _ A14.out).mono ?_
          rintro e w69 ⟨rfl, hb⟩
          refine ⟨_, rfl, ?_⟩
          replace BK1708 := bb BK1708 hb
          replace BK1709 := bb BK1709 hb
          replace BK1714 := bb BK1714 hb
          replace BK1719 := bb BK1719 hb
          replace BK1724 := bb BK1724 hb
          replace BK1730 := bb BK1730 hb
          replace BK1731 := bb BK1731 hb
          replace HB := hs HB hb
          (try clear hb)
          (try clear hb2)
          (try clear hk)
          (try clear hi)
          refine hK.out _ _ ⟨(blk_cell BK1708.out 0).trans rfl, (blk_cell BK1708.out 1).trans rfl, (blk_cell BK1708.out 2).trans rfl, (blk_cell BK1709.out 0).trans rfl, (blk_cell BK1709.out 1).trans rfl, (blk_cell BK1709.out 2).trans rfl, (blk_cell BK1714.out 0).trans rfl, (blk_cell BK1714.out 1).trans rfl, (blk_cell BK1714.out 2).trans rfl, (blk_cell BK1719.out 0).trans rfl, (blk_cell BK1719.out 1).trans rfl, (blk_cell BK1719.out 2).trans rfl, (blk_cell BK1724.out 0).trans rfl, (blk_cell BK1724.out 1).trans rfl, (blk_cell BK1724.out 2).trans rfl, (blk_cell BK1731.out 0).trans rfl, (blk_cell BK1731.out 1).trans rfl, (blk_cell BK1731.out 2).trans rfl, (blk_cell BK1730.out 0).trans rfl, (blk_cell BK1730.out 1).trans rfl, (blk_cell BK1730.out 2).trans rfl⟩ (fun hHeld => ?_)
          clear hK K
          refine norm_ (a' := ?_) ?_ ?_
          rotate_left
          ·show Act.put _ (some 61) _ = _
           simp only [Act.put, List.setIfInBounds_toArray, List.set_cons_zero, List.set_cons_succ, i64_w, i32_w]
           rfl
          refine pu (i := 18) (N := some 62) ?_
          refine pu (i := 21) (N := some 65) ?_
          refine pu (i := 22) (N := some 66) ?_
          refine pu (i := 23) (N := some 67) ?_
          refine pu (i := 24) (N := some 68) ?_
          refine ta (i := 25) (N := some 69) hHeld ?_
          refine pu (i := 26) (N := some 70) ?_
          refine pu (i := 27) (N := some 71) ?_
          refine pu (i := 28) (N := some 72) ?_
          refine pu (i := 29) (N := some 73) ?_
          refine ta (i := 30) (N := some 74) hHeld ?_
          refine pu (i := 31) (N := some 75) ?_
          refine pu (i := 32) (N := some 76) ?_
          refine pu (i := 33) (N := some 77) ?_
          refine ta (i := 34) (N := some 78) hHeld ?_
          refine ta (i := 35) (N := some 79) hHeld ?_
          refine on (i := 36) (N := some 80) (fun K hK => ?_)
          refine goes_ Try.func47 (by kernel_rfl) rfl #[.agg #[.bool false, .string t1721, .string t1722], .agg #[.bool false, .string (⟨#[49]⟩ : ByteArray), .string (⟨#[49]⟩ : ByteArray)]] (by rfl) rfl rfl ga ?_
          with_reducible refine (ratio_Compare.calls k false t1721 t1722 false (⟨#[49]⟩ : ByteArray) (⟨#[49]⟩ : ByteArray) t1733 _ A18.out).mono ?_
          rintro e w70 ⟨rfl, hb⟩
          refine ⟨_, rfl, ?_⟩
          replace BK1708 := bb BK1708 hb
          replace BK1709 := bb BK1709 hb
          replace BK1714 := bb BK1714 hb
          replace BK1719 := bb BK1719 hb
          replace BK1724 := bb BK1724 hb
          replace BK1730 := bb BK1730 hb
          replace BK1731 := bb BK1731 hb
          replace HB := hs HB hb
          (try clear hb)
          (try clear hb2)
          (try clear hk)
          (try clear hi)
          refine hK.out _ _ ⟨(blk_cell BK1708.out 0).trans rfl, (blk_cell BK1708.out 1).trans rfl, (blk_cell BK1708.out 2).trans rfl, (blk_cell BK1709.out 0).trans rfl, (blk_cell BK1709.out 1).trans rfl, (blk_cell BK1709.out 2).trans rfl, (blk_cell BK1714.out 0).trans rfl, (blk_cell BK1714.out 1).trans rfl, (blk_cell BK1714.out 2).trans rfl, (blk_cell BK1719.out 0).trans rfl, (blk_cell BK1719.out 1).trans rfl, (blk_cell BK1719.out 2).trans rfl, (blk_cell BK1724.out 0).trans rfl, (blk_cell BK1724.out 1).trans rfl, (blk_cell BK1724.out 2).trans rfl, (blk_cell BK1731.out 0).trans rfl, (blk_cell BK1731.out 1).trans rfl, (blk_cell BK1731.out 2).trans rfl, (blk_cell BK1730.out 0).trans rfl, (blk_cell BK1730.out 1).trans rfl, (blk_cell BK1730.out 2).trans rfl⟩ (fun hHeld => ?_)
          clear hK K
          refine norm_ (a' := ?_) ?_ ?_
          rotate_left
          ·show Act.put _ (some 80) _ = _
           simp only [Act.put, List.setIfInBounds_toArray, List.set_cons_zero, List.set_cons_succ, i64_w, i32_w]
           rfl
          refine pu (i := 37) (N := some 81) ?_
          refine pu (i := 38) (N := some 82) ?_
          refine pu (i := 39) (N := some 83) ?_
          refine ta (i := 40) (N := some 84) hHeld ?_
          refine ta (i := 41) (N := some 85) hHeld ?_
          refine pu (i := 42) (N := some 86) ?_
          refine pu (i := 43) (N := some 87) ?_
          refine pu (i := 44) (N := some 88) ?_
          refine on (i := 45) (N := some 89) (fun K hK => ?_)
          refine goes_ Try.func19 (by kernel_rfl) rfl #[] (by rfl) rfl rfl ga ?_
          with_reducible refine (corporalaw36_known.calls k  t1734 _ A21.out).mono ?_
          rintro e w71 ⟨rfl, hb⟩
          refine ⟨_, rfl, ?_⟩
          replace BK1708 := bb BK1708 hb
          replace BK1709 := bb BK1709 hb
          replace BK1714 := bb BK1714 hb
          replace BK1719 := bb BK1719 hb
          replace BK1724 := bb BK1724 hb
          replace BK1730 := bb BK1730 hb
          replace BK1731 := bb BK1731 hb
          replace HB := hs HB hb
          (try clear hb)
          (try clear hb2)
          (try clear hk)
          (try clear hi)
          refine hK.out _ _ ⟨(blk_cell BK1708.out 0).trans rfl, (blk_cell BK1708.out 1).trans rfl, (blk_cell BK1708.out 2).trans rfl, (blk_cell BK1709.out 0).trans rfl, (blk_cell BK1709.out 1).trans rfl, (blk_cell BK1709.out 2).trans rfl, (blk_cell BK1714.out 0).trans rfl, (blk_cell BK1714.out 1).trans rfl, (blk_cell BK1714.out 2).trans rfl, (blk_cell BK1719.out 0).trans rfl, (blk_cell BK1719.out 1).trans rfl, (blk_cell BK1719.out 2).trans rfl, (blk_cell BK1724.out 0).trans rfl, (blk_cell BK1724.out 1).trans rfl, (blk_cell BK1724.out 2).trans rfl, (blk_cell BK1731.out 0).trans rfl, (blk_cell BK1731.out 1).trans rfl, (blk_cell BK1731.out 2).trans rfl, (blk_cell BK1730.out 0).trans rfl, (blk_cell BK1730.out 1).trans rfl, (blk_cell BK1730.out 2).trans rfl⟩ (fun hHeld => ?_)
          clear hK K
          refine norm_ (a' := ?_) ?_ ?_
          rotate_left
          ·show Act.put _ (some 89) _ = _
           simp only [Act.put, List.setIfInBounds_toArray, List.set_cons_zero, List.set_cons_succ, i64_w, i32_w]
           rfl
          refine pu (i := 46) (N := some 90) ?_
          refine pu (i := 47) (N := some 4) ?_
          refine done_ (done_of HT_.out (by kernel_rfl)) ?_
          try go_wp2
          go_ret
          exact ⟨er, bs⟩
         ·rw [if_neg c20] at H
          have c20b0 : (t1726 == t1702 && (t1727.toList == t1703.toList && (t1728.toList == t1704.toList))) = false := by simpa using c20
          (try (have c20b1 : decide (t1726 = t1702 && (t1727.toList == t1703.toList && (t1728.toList == t1704.toList))) = false := by simpa using c20))
          (try (have c20b2 : (t1726 == t1702 && (t1727.toList == t1703.toList && (t1728.toList == t1704.toList))) = false := by simpa using c20))
          (try (have c20b3 : ¬ (t1726 = t1702 && (t1727.toList == t1703.toList && (t1728.toList == t1704.toList))) := by simpa using c20))
          clear c20
          exact absurd H (by simp)
        ·rw [if_neg c19] at H
         have c19b0 : decide (t1733 < 0) = false := decide_eq_false c19
         clear c19
         exact absurd H (by simp)
      ·rw [if_neg c16] at H
       have c16b0 : (t1717.toList == ([49] : List UInt8)) = false := beq_eq_false_iff_ne.mpr c16
       have c16b1 : (t1717.toList != ([49] : List UInt8)) = true := bne_iff_ne.mpr c16
       exact absurd H (by simp)
     ·rw [if_neg c15] at H
      have c15b0 : ((decide (t1732 < 0)) == t1710) = false := by simpa using c15
      (try (have c15b1 : decide ((decide (t1732 < 0)) = t1710) = false := by simpa using c15))
      (try (have c15b2 : ((decide (t1732 < 0)) == t1710) = false := by simpa using c15))
      (try (have c15b3 : ¬ ((decide (t1732 < 0)) = t1710) := by simpa using c15))
      clear c15
      exact absurd H (by simp)
    ·rw [if_neg c13] at H
     have c13b0 : (t1729 == 0) = false := beq_eq_false_iff_ne.mpr c13
     have c13b1 : (t1729 != 0) = true := bne_iff_ne.mpr c13
     exact absurd H (by simp)
   ·rw [if_neg c12] at H
    have c12b0 : (t1723 == 0) = false := beq_eq_false_iff_ne.mpr c12
    have c12b1 : (t1723 != 0) = true := bne_iff_ne.mpr c12
    exact absurd H (by simp)
  ·rw [if_neg c11] at H
   have c11b0 : (t1718 == 0) = false := beq_eq_false_iff_ne.mpr c11
   have c11b1 : (t1718 != 0) = true := bne_iff_ne.mpr c11
   exact absurd H (by simp)
 ·rw [if_neg c10] at H
  have c10b0 : (t1713 == 0) = false := beq_eq_false_iff_ne.mpr c10
  have c10b1 : (t1713 != 0) = true := bne_iff_ne.mpr c10
  exact absurd H (by simp)
theorem corporalaw36_RatioOrder.walk (P : corporalaw36_RatioOrder.Pure) (a0 : Option Addr) (len0 cap0 : Nat) (z0 : List Int) (a1 : Option Addr) (len1 cap1 : Nat) (z1 : List Int) (w : World) (m : Int) (hm : w.cell? ⟨0, 0, none⟩ = some (.int .i64 m)) (w0 : (a0 = none ∧ len0 = 0 ∧ cap0 = 0 ∧ z0 = []) ∨ ∃ x, a0 = some x ∧ len0 ≤ cap0 ∧ cap0 ≤ maxLen ∧ z0.length = cap0 ∧ (∀ i, i < z0.length → w.cell? (x.add i) = some (.int .i64 (z0.getD i 0))) ∧ ∀ n ∈ z0, (Lit.int .i64 n).wf = true) (y0 : len0 * 8 ≤ 140737488351232) (w1 : (a1 = none ∧ len1 = 0 ∧ cap1 = 0 ∧ z1 = []) ∨ ∃ x, a1 = some x ∧ len1 ≤ cap1 ∧ cap1 ≤ maxLen ∧ z1.length = cap1 ∧ (∀ i, i < z1.length → w.cell? (x.add i) = some (.int .i64 (z1.getD i 0))) ∧ ∀ n ∈ z1, (Lit.int .i64 n).wf = true) (y1 : len1 * 8 ≤ 140737488351232) :
  Calls Try.prog 15 #[.slice a0 len0 cap0, .slice a1 len1 cap1] w fun e w' => e = .returned (.bool true) ∧ Below w.heap.size w w' := by
 obtain ⟨l0, rfl, hr0, hm0, hw0, hc0⟩ := ReadsInt.ofRowC w0
 obtain ⟨l1, rfl, hr1, hm1, hw1, hc1⟩ := ReadsInt.ofRowC w1
 obtain ⟨k, h⟩ := P l0 l1 hm0 y0 hw0 hm1 y1 hw1
 refine (corporalaw36_RatioOrder.calls k _ _ l0 _ _ l1 true w (Kd.C_of_reads (d := (0 : Int)) (h1 := fun _ => rfl) hr0) hc0 (Kd.C_of_reads (d := (0 : Int)) (h1 := fun _ => rfl) hr1) hc1 m hm h).mono ?_
 rintro e w' ⟨rfl, hd⟩
 exact ⟨rfl, hd⟩
end Go.Proofs.Ytccgfmjcldifcaa.P
