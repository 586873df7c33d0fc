/- Walks of Go functions: what they compute; each theorem's conditions stand in it. -/
import Derived.Test.YtccgfmjcldifcaaT
import Derived.Test.YtccgfmjcldifcaaCAdd
import Derived.Test.YtccgfmjcldifcaaCCmp
import Derived.Test.YtccgfmjcldifcaaCDiv
import Derived.Test.YtccgfmjcldifcaaCIsRatio
import Derived.Test.YtccgfmjcldifcaaCLow
import Derived.Test.YtccgfmjcldifcaaDA
import Derived.Test.YtccgfmjcldifcaaDE
namespace Go.Proofs.Ytccgfmjcldifcaa.P
open Go.RowKit Go.Proofs.YtccgfmjcldifcaaW.PrintWords Go.Proofs.YtccgfmjcldifcaaW.PrintLast Go.Proofs.YtccgfmjcldifcaaW.PrintMore
attribute [local go_sem] max2_int min2_int max_two min_two max_three min_three max_four min_four
set_option linter.unusedVariables false
set_option linter.unusedSimpArgs false
def ratio_Floor.T4 : Bool × List (List Nat × List Nat) := (true, [([], []), ([0], [0]), ([1], [1]), ([2], [2]), ([], []), ([4], [4]), ([5], [5]), ([6], [6]), ([3, 7], [3, 7]), ([8], [8]), ([9], [9]), ([9], [9]), ([10, 8, 0, 1, 2, 3, 4, 5, 6, 7, 8, 9, 10], [10]), ([11, 12, 0, 1, 2, 3, 4, 5, 6, 7, 8, 9, 10, 11, 12], [11])])
def ratio_Floor.B4 : List Nat := [0, 1, 3, 7, 0, 16, 48, 112, 255, 511, 1023, 1023, 2047, 8191]
theorem ratio_Floor.tab4 : rtab .any (opsOf Try.f60 4) = ratio_Floor.T4 := by kernel_rfl
theorem ratio_Floor.bits4 : waitsOk ratio_Floor.T4.2 ratio_Floor.B4 = true := by kernel_rfl
def ratio_Floor.T7 : Bool × List (List Nat × List Nat) := (true, [([], []), ([0], [0]), ([1], [1]), ([2], [2]), ([], []), ([], []), ([3, 4, 5], [3, 4, 5]), ([6, 5], [6]), ([7], [7]), ([7], [7]), ([8, 7, 0, 1, 2, 3, 4, 5, 6, 7, 8, 9], [8]), ([9, 10, 0, 1, 2, 3, 4, 5, 6, 7, 8, 9, 10], [9])])
def ratio_Floor.B7 : List Nat := [0, 1, 3, 7, 0, 0, 63, 127, 255, 255, 1023, 2047]
theorem ratio_Floor.tab7 : rtab .any (opsOf Try.f60 7) = ratio_Floor.T7 := by kernel_rfl
theorem ratio_Floor.bits7 : waitsOk ratio_Floor.T7.2 ratio_Floor.B7 = true := by kernel_rfl
set_option maxHeartbeats 8000000 in
set_option maxRecDepth 100000 in
theorem ratio_Floor.calls (k : Nat) (a0_0 : Bool) (a0_1 : ByteArray) (a0_2 : ByteArray) (r1 : Bool) (r2 : ByteArray) (r3 : ByteArray) (r4 : Int) (w : World) (h : ratio_Floor.f k a0_0 a0_1 a0_2 = some (r1, r2, r3, r4)) :
  Calls Try.prog 60 #[.agg #[.bool a0_0, .string a0_1, .string a0_2]] w fun e w' => e = .returned (.tuple #[.agg #[.bool r1, .string r2, .string r3], .int .i64 r4]) ∧ Below w.heap.size w w' := by
 have hu35 := Try.underlying35
 have hu88 := Try.underlying88
 have HB := Aside0.mk (Below.refl w.heap.size w)
 have H : Option.bind (ratio_read.f k (([(⟨a0_0, a0_1, a0_2⟩ : S35)] : List (S35)))) _ = _ := h
 clear h
 obtain ⟨y1641, hy1641⟩ : ∃ y_ : List (S35), y_ = (([(⟨a0_0, a0_1, a0_2⟩ : S35)] : List (S35))) := ⟨_, rfl⟩
 replace H : ((ratio_read.f k y1641).bind fun bt1644 => (if bt1644.2 = true then (if 0 < (bt1644.1.length : Int) then ((bignat_Nat_Div.f k ((rd_T88 bt1644.1 0).f1) ((rd_T88 bt1644.1 0).f2)).bind fun bt1650 => (if (rd_T88 bt1644.1 0).f0 = true then (if (bt1650.2.length : Int) > 0 then ((bignat_Of.f k 1).bind fun t1657 => ((bignat_Nat_Add.f k bt1650.1 t1657).bind fun t1660 => ((bignat_Of.f k 1).bind fun t1664 => ((ratio_number_lowest.f k ((rd_T88 bt1644.1 0).f0) t1660 t1664).bind fun bt1667 => (some (bt1667.1, bt1667.2.1, bt1667.2.2.1, bt1667.2.2.2)))))) else ((bignat_Of.f k 1).bind fun t1672 => ((ratio_number_lowest.f k ((rd_T88 bt1644.1 0).f0) bt1650.1 t1672).bind fun bt1675 => (some (bt1675.1, bt1675.2.1, bt1675.2.2.1, bt1675.2.2.2))))) else ((bignat_Of.f k 1).bind fun t1680 => ((ratio_number_lowest.f k ((rd_T88 bt1644.1 0).f0) bt1650.1 t1680).bind fun bt1683 => (some (bt1683.1, bt1683.2.1, bt1683.2.2.1, bt1683.2.2.2)))))) else (none)) else (some (false, (⟨#[]⟩ : ByteArray), (⟨#[]⟩ : ByteArray), 1)))) = some (r1, r2, r3, r4) := by first | (rw [hy1641]; with_reducible exact H) | (have H2_ := (Option.bind_some _ _).symm.trans H; rw [hy1641]; with_reducible exact H2_) | (have H2_ := (Option.bind_some _ _).symm.trans H; with_reducible exact H2_) | with_reducible exact H | (rw [hy1641]; exact H) | exact H
 have Ny1641 := Aside0.mk hy1641
 clear hy1641
 replace H := Option.bind_eq_some_iff.mp H
 obtain ⟨⟨t1644, t1645⟩, A20, H⟩ := H
 replace H : (if t1645 = true then _ else _) = _ := H
 have A2 := Aside0.mk A20
 clear A20
 by_cases c3 : t1645 = true
 ·subst c3
  have H1 : (if 0 < (t1644.length : Int) then _ else _) = _ := (if_pos rfl).symm.trans H
  clear H
  have H := H1
  clear H1
  by_cases c4 : 0 < (t1644.length : Int)
  ·rw [if_pos c4] at H
   have c4b0 : decide (0 < (t1644.length : Int)) = true := decide_eq_true c4
   have c4b1 : decide (0 < t1644.length) = true := decide_eq_true (by omega)
   clear c4
   replace H := Option.bind_eq_some_iff.mp H
   obtain ⟨⟨t1650, t1653⟩, A50, H⟩ := H
   replace H : (if (rd_T88 t1644 0).f0 = true then _ else _) = _ := H
   have A5 := Aside0.mk A50
   clear A50
   obtain ⟨bq6, hbq6⟩ : ∃ b_ : Bool, b_ = ((rd_T88 t1644 0).f0) := ⟨_, rfl⟩
   replace H : (if bq6 = true then (if (t1653.length : Int) > 0 then ((bignat_Of.f k 1).bind fun t1657 => ((bignat_Nat_Add.f k t1650 t1657).bind fun t1660 => ((bignat_Of.f k 1).bind fun t1664 => ((ratio_number_lowest.f k (bq6) t1660 t1664).bind fun bt1667 => (some (bt1667.1, bt1667.2.1, bt1667.2.2.1, bt1667.2.2.2)))))) else ((bignat_Of.f k 1).bind fun t1672 => ((ratio_number_lowest.f k (bq6) t1650 t1672).bind fun bt1675 => (some (bt1675.1, bt1675.2.1, bt1675.2.2.1, bt1675.2.2.2))))) else ((bignat_Of.f k 1).bind fun t1680 => ((ratio_number_lowest.f k (bq6) t1650 t1680).bind fun bt1683 => (some (bt1683.1, bt1683.2.1, bt1683.2.2.1, bt1683.2.2.2))))) = some (r1, r2, r3, r4) := by rw [← hbq6] at H; exact H
   have Nbq6 := Aside0.mk hbq6
   clear hbq6
   by_cases c7 : bq6 = true
   ·subst c7
    have H1 : (if (t1653.length : Int) > 0 then _ else _) = _ := (if_pos rfl).symm.trans H
    clear H
    have H := H1
    clear H1
    by_cases c8 : (t1653.length : Int) > 0
    ·rw [if_pos c8] at H
     have c8b0 : decide (0 < (t1653.length : Int)) = true := decide_eq_true c8
     have c8b1 : decide (0 < t1653.length) = true := decide_eq_true (by omega)
     clear c8
     replace H := Option.bind_eq_some_iff.mp H
     obtain ⟨t1657, A90, H⟩ := H
     replace H : Option.bind (bignat_Nat_Add.f k t1650 t1657) _ = _ := H
     have A9 := Aside0.mk A90
     clear A90
     replace H := Option.bind_eq_some_iff.mp H
     obtain ⟨t1660, A100, H⟩ := H
     replace H : Option.bind (bignat_Of.f k 1) _ = _ := H
     have A10 := Aside0.mk A100
     clear A100
     replace H := Option.bind_eq_some_iff.mp H
     obtain ⟨t1664, A110, H⟩ := H
     replace H : Option.bind (ratio_number_lowest.f k (true) t1660 t1664) _ = _ := H
     have A11 := Aside0.mk A110
     clear A110
     replace H := Option.bind_eq_some_iff.mp H
     obtain ⟨⟨t1667, t1668, t1669, t1670⟩, A120, H⟩ := H
     replace H : (some (t1667, t1668, t1669, t1670)) = some (r1, r2, r3, r4) := H
     have A12 := Aside0.mk A120
     clear A120
     simp only [Option.some.injEq, Prod.mk.injEq] at H
     obtain ⟨rfl, rfl, rfl, rfl⟩ := H
     go_enter Try.func60, Try.ntmps60
     try go_wp2_with (first | ((with_reducible refine gate_dst (N := 1) rfl ?_); (try (refine gate_guard (by rfl) ?_; dsimp only)); refine be (N := 1) (cs := #[.bool a0_0, .string a0_1, .string a0_2]) (t := 35) ?_; intro gb1639 hg w13 hbox hb; have BK1639 := Aside0.mk (hbox); have GW1639 := gw HB hg; have GE1639 := GW1639; replace HB := hs HB hb; clear hb hbox hg) | ((with_reducible refine gate_dst (N := 2) rfl ?_); (try (refine gate_guard (by rfl) ?_; dsimp only)); refine be (N := 2) (cs := #[.bool false, .string (⟨#[]⟩ : ByteArray), .string (⟨#[]⟩ : ByteArray)]) (t := 35) ?_; intro gb1640 hg w14 hbox hb; have BK1640 := Aside0.mk (hbox); have GW1640 := gw HB hg; have GE1640 := GW1640; replace HB := hs HB hb; have NB1639_1640 := na BK1639 hg; have NB1640_1639 := nz NB1639_1640; replace BK1639 := bb BK1639 hb; clear hb hbox hg; have hnb15 := NB1639_1640.out; have hnc15 := NB1640_1639.out; obtain ⟨hcz16_0, hcz16_1, hcz16_2, hfz16_0, hfz16_1, hfz16_2⟩ := z3 BK1639) | ((with_reducible refine gate_dst (N := 10) rfl ?_); (try (refine gate_guard (by rfl) ?_; dsimp only)); refine Kd.R_lit k35 _ 35 ?hg (N := 10) ?hd (xs := ([(⟨a0_0, a0_1, a0_2⟩ : S35)] : List (S35))) (inner := [.bool a0_0, .string a0_1, .string a0_2]) (ok := fun _ => True) (okp := fun _ => True) ?hr ?hp (fun _ hk => hk) trivial (Below.refl _ _) (Nat.le_refl _) (by simp) ?_; (case hd => rfl); (case hg => rfl); (case hr => first | (go_simp; done) | (go_simp; rfl)); (case hp => exact (Reps.c3 (show Kd.M k35 _ _ _ (⟨a0_0, a0_1, a0_2⟩ : S35) [.bool a0_0, .string a0_1, .string a0_2] from (k35_mkM _ _ _ (⟨a0_0, a0_1, a0_2⟩ : S35) )) (Reps.none _ _))); intro v1642 w17 ho18 hb hg_ hnew_; clear hg_ hnew_; (first | rw [← Ny1641.out] at ho18 | (simp only [Int.reduceToNat] at ho18; rw [← Ny1641.out] at ho18)); have HO1643 := Aside0.mk (Kd.R_lower (Kd.R_newB (Kd.R_newB ho18 (g := gb1639) (o := .cells #[.bool a0_0, .string a0_1, .string a0_2] 35 (0, 0)) bk) (g := gb1640) (o := .cells #[.bool false, .string (⟨#[]⟩ : ByteArray), .string (⟨#[]⟩ : ByteArray)] 35 (0, 0)) bk) (below_size bs)); replace BK1639 := bb BK1639 hb; replace BK1640 := bb BK1640 hb; replace HB := hs HB hb; clear hb ho18; obtain ⟨Ao19, co19, eo19⟩ := Kd.R_slice HO1643.out; subst eo19) | ((with_reducible refine gate_callee (f := 82) rfl ?_); refine goesL_ (some 11) rfl rfl Try.func82 (by kernel_rfl) rfl #[.slice Ao19 y1641.length co19] rfl ga ?_; (with_reducible refine (ratio_read.calls k _ _ y1641 t1644 true _ ?side1 ?side2 A2.out).mono ?_); (case side1 => exact cl ((Kd.R_reads' HO1643.out).2.2)); (case side2 => exact (Kd.R_reads' HO1643.out).2.1); rintro e w20 ⟨v1646, rfl, ho0, hb⟩; refine ⟨_, rfl, ?_⟩; replace HO1643 := Aside0.mk (Kd.R_below (rl HO1643) hb); have HO1647 := Aside0.mk (Kd.S_lower ho0 (below_size bs)); replace BK1639 := bb BK1639 hb; replace BK1640 := bb BK1640 hb; replace HB := hs HB hb; (try clear hb); (try clear ho0)))
     replace HO1643 := Aside0.mk (Kd.R_drew HO1643.out)
     replace HO1647 := Aside0.mk (Kd.S_drew HO1647.out)
     replace BK1639 := Aside0.mk (blk_drew BK1639.out)
     replace BK1640 := Aside0.mk (blk_drew BK1640.out)
     replace HB := Aside0.mk (below_drew1 HB.out)
     obtain ⟨Ao22, co22, eo22⟩ := Kd.S_slice HO1647.out
     (first | subst eo22 | (injection eo22 with f1_ f2_ f3_; have f4_ := f1_.symm; have f5_ := f3_.symm; clear f1_ f2_ f3_; subst f4_; subst f5_))
     have q1648 : 0 < (t1644.length : Int) := dt
     obtain ⟨ad1648, A1648_1, c1648_1, A1648_2, c1648_2, e1648, hx1648_0, hx1648_1, hx1648_2, HR1648_1, HC1648_1, HR1648_2, HC1648_2, HL1648_1, HL1648_2⟩ := r88z HO1647.out q1648
     (try rw [← Nbq6.out] at hx1648_0)
     cases e1648
     (try rw [show ((0 : Int)).toNat = 0 from rfl] at hx1648_0)
     (try rw [show 0 * 3 = 0 from rfl] at hx1648_0)
     (try rw [Addr.add_zero'] at hx1648_0)
     (try rw [show ((0 : Int)).toNat = 0 from rfl] at hx1648_1)
     (try rw [show 0 * 3 = 0 from rfl] at hx1648_1)
     (try rw [Addr.add_zero'] at hx1648_1)
     (try rw [show ((0 : Int)).toNat = 0 from rfl] at hx1648_2)
     (try rw [show 0 * 3 = 0 from rfl] at hx1648_2)
     (try rw [Addr.add_zero'] at hx1648_2)
     have qi1648 : (0 < t1644.length) = True := eq_true (by omega)
     have p1648 : (0 ≤ (0 : Int)) = True := eq_true (by omega)
     replace q1648 := eq_true q1648
     have q1649 : 0 < (t1644.length : Int) := dt
     obtain ⟨ad1649, A1649_1, c1649_1, A1649_2, c1649_2, e1649, hx1649_0, hx1649_1, hx1649_2, HR1649_1, HC1649_1, HR1649_2, HC1649_2, HL1649_1, HL1649_2⟩ := r88z HO1647.out q1649
     (try rw [← Nbq6.out] at hx1649_0)
     obtain rfl : ad1648 = ad1649 := (by injection e1649)
     (try rw [show ((0 : Int)).toNat = 0 from rfl] at hx1649_0)
     (try rw [show 0 * 3 = 0 from rfl] at hx1649_0)
     (try rw [Addr.add_zero'] at hx1649_0)
     (try rw [show ((0 : Int)).toNat = 0 from rfl] at hx1649_1)
     (try rw [show 0 * 3 = 0 from rfl] at hx1649_1)
     (try rw [Addr.add_zero'] at hx1649_1)
     (try rw [show ((0 : Int)).toNat = 0 from rfl] at hx1649_2)
     (try rw [show 0 * 3 = 0 from rfl] at hx1649_2)
     (try rw [Addr.add_zero'] at hx1649_2)
     have qi1649 : (0 < t1644.length) = True := eq_true (by omega)
     have p1649 : (0 ≤ (0 : Int)) = True := eq_true (by omega)
     replace q1649 := eq_true q1649
     obtain ⟨rfl, rfl⟩ := se hx1648_1 hx1649_1
     obtain ⟨rfl, rfl⟩ := se hx1648_2 hx1649_2
     refine start_ (n := 14) (S := fun w' => w'.cell? ad1648 = some (.bool true) ∧ w'.cell? ⟨ad1648.block, ad1648.off + 1, none⟩ = some (.slice A1648_1 ((rd_T88 t1644 0).f1).length c1648_1) ∧ w'.cell? ⟨ad1648.block, ad1648.off + 2, none⟩ = some (.slice A1648_2 ((rd_T88 t1644 0).f2).length c1648_2) ∧ w'.cell? ad1648 = some (.bool true) ∧ w'.cell? ⟨ad1648.block, ad1648.off + 1, none⟩ = some (.slice A1648_1 ((rd_T88 t1644 0).f1).length c1648_1) ∧ w'.cell? ⟨ad1648.block, ad1648.off + 2, none⟩ = some (.slice A1648_2 ((rd_T88 t1644 0).f2).length c1648_2)) (ds := []) #[false, false, false, false, false, false, false, false, false, false, false, false, false, false] (by kernel_rfl) rfl rfl ⟨hx1648_0, hx1648_1, hx1648_2, hx1649_0, hx1649_1, hx1649_2⟩ (fun hHeld => ?_); refine with_tabW ratio_Floor.tab4 ratio_Floor.bits4 (fun HT_ HW_ => ?_)
     generalize w20.drew = w21 at HO1643 HO1647 BK1639 BK1640 HB HL1648_1 HL1648_2 HL1649_1 HL1649_2 HR1648_1 HR1648_2 HR1649_1 HR1649_2 hx1648_0 hx1648_1 hx1648_2 hx1649_0 hx1649_1 hx1649_2 hHeld ⊢
     refine pu (i := 0) (N := some 18) ?_
     refine pu (i := 1) (N := some 19) ?_
     refine pu (i := 2) (N := some 20) ?_
     refine pu (i := 4) (N := some 22) ?_
     refine pu (i := 5) (N := some 23) ?_
     refine pu (i := 6) (N := some 24) ?_
     refine ta (i := 3) (N := some 21) hHeld ?_
     refine ta (i := 7) (N := some 25) hHeld ?_
     refine on (i := 8) (N := some 26) (fun K hK => ?_)
     refine goes_ Try.func74 (by kernel_rfl) rfl #[.slice A1648_1 ((rd_T88 t1644 0).f1).length c1648_1, .slice A1648_2 ((rd_T88 t1644 0).f2).length c1648_2] (by rfl) rfl rfl ga ?_
     with_reducible refine (bignat_Nat_Div.calls k (fun k_ => some k_ = (.slice A1648_1 ((rd_T88 t1644 0).f1).length c1648_1 : Value).ownBlock) _ _ ((rd_T88 t1644 0).f1) _ _ ((rd_T88 t1644 0).f2) t1650 t1653 _ ?side1 ?side2 ?side3 A5.out).mono ?_
     (case side1 => exact Kd.R_V (Kd.R_tight rfl (Kd.R_types (Kd.R_types (Kd.R_apart' (HL1648_1.out) (Kd.R_typed HO1643.out) (by decide)) BK1639.out (by decide)) BK1640.out (by decide))))
     (case side2 => repeat (first | exact (cl HR1649_2.out) | (with_reducible refine Kd.C_alloc ?_ _) | (with_reducible refine Kd.C_drewN ?_ _) | (with_reducible refine Kd.C_drew ?_)))
     (case side3 => exact HC1649_2.out)
     rintro e w23 ⟨v1651, v1654, rfl, ho0, ho1, hb⟩
     have HS0_ := (hb.cell (World.block_lt_of_cell? _ _ (hHeld.1))).trans (hHeld.1)
     have HS1_ := (hb.cell (World.block_lt_of_cell? _ _ (hHeld.2.1))).trans (hHeld.2.1)
     have HS2_ := (hb.cell (World.block_lt_of_cell? _ _ (hHeld.2.2.1))).trans (hHeld.2.2.1)
     have HS3_ := (hb.cell (World.block_lt_of_cell? _ _ (hHeld.2.2.2.1))).trans (hHeld.2.2.2.1)
     have HS4_ := (hb.cell (World.block_lt_of_cell? _ _ (hHeld.2.2.2.2.1))).trans (hHeld.2.2.2.2.1)
     have HS5_ := (hb.cell (World.block_lt_of_cell? _ _ (hHeld.2.2.2.2.2))).trans (hHeld.2.2.2.2.2)
     refine ⟨_, rfl, ?_⟩
     replace HL1648_2 := Aside0.mk (Kd.R_below (rl HL1648_2) hb)
     replace HL1649_1 := Aside0.mk (Kd.R_below (rl HL1649_1) hb)
     replace HL1649_2 := Aside0.mk (Kd.R_below (rl HL1649_2) hb)
     have HO1652 := Aside0.mk (Kd.V_lower (Kd.V_mono (ok' := fun k_ => some k_ ≠ (.slice Ao19 y1641.length co19 : Value).ownBlock ∧ some k_ ≠ (.slice (some ad1648) t1644.length co22 : Value).ownBlock ∧ k_ ≠ gb1639 ∧ k_ ≠ gb1640) ho0 (fun k_ hk_ => ⟨Or.elim hk_ (fun hs_ => ((Kd.R_types (Kd.R_types (Kd.R_apart' (HL1648_1.out) (Kd.R_typed HO1643.out) (by decide)) BK1639.out (by decide)) BK1640.out (by decide)).1 k_ hs_.symm).1.1.2) (fun hn_ => (Kd.fresh' (Kd.R_lt (rl HO1643)) k_ hn_)), Or.elim hk_ (fun hs_ => ((Kd.R_types (Kd.R_types (Kd.R_apart' (HL1648_1.out) (Kd.R_typed HO1643.out) (by decide)) BK1639.out (by decide)) BK1640.out (by decide)).1 k_ hs_.symm).1.1.1.2) (fun hn_ => (Kd.fresh' (Kd.S_lt (by (with_reducible repeat (first | apply Kd.S_alloc | apply Kd.S_drewN | apply Kd.S_drew)); exact HO1647.out)) k_ hn_)), Or.elim hk_ (fun hs_ => ((Kd.R_types (Kd.R_types (Kd.R_apart' (HL1648_1.out) (Kd.R_typed HO1643.out) (by decide)) BK1639.out (by decide)) BK1640.out (by decide)).1 k_ hs_.symm).1.2) (fun hn_ => (fb BK1639 k_ hn_)), Or.elim hk_ (fun hs_ => ((Kd.R_types (Kd.R_types (Kd.R_apart' (HL1648_1.out) (Kd.R_typed HO1643.out) (by decide)) BK1639.out (by decide)) BK1640.out (by decide)).1 k_ hs_.symm).2) (fun hn_ => (fb BK1640 k_ hn_))⟩)) (below_size bs))
     have HO1655 := Aside0.mk (Kd.V_lower (Kd.V_mono (ok' := fun k_ => some k_ ≠ (.slice Ao19 y1641.length co19 : Value).ownBlock ∧ some k_ ≠ (.slice (some ad1648) t1644.length co22 : Value).ownBlock ∧ k_ ≠ gb1639 ∧ k_ ≠ gb1640) ho1 (fun k_ hk_ => ⟨Or.elim hk_ (fun hs_ => ((Kd.R_types (Kd.R_types (Kd.R_apart' (HL1648_1.out) (Kd.R_typed HO1643.out) (by decide)) BK1639.out (by decide)) BK1640.out (by decide)).1 k_ hs_.symm).1.1.2) (fun hn_ => (Kd.fresh' (Kd.R_lt (rl HO1643)) k_ hn_)), Or.elim hk_ (fun hs_ => ((Kd.R_types (Kd.R_types (Kd.R_apart' (HL1648_1.out) (Kd.R_typed HO1643.out) (by decide)) BK1639.out (by decide)) BK1640.out (by decide)).1 k_ hs_.symm).1.1.1.2) (fun hn_ => (Kd.fresh' (Kd.S_lt (by (with_reducible repeat (first | apply Kd.S_alloc | apply Kd.S_drewN | apply Kd.S_drew)); exact HO1647.out)) k_ hn_)), Or.elim hk_ (fun hs_ => ((Kd.R_types (Kd.R_types (Kd.R_apart' (HL1648_1.out) (Kd.R_typed HO1643.out) (by decide)) BK1639.out (by decide)) BK1640.out (by decide)).1 k_ hs_.symm).1.2) (fun hn_ => (fb BK1639 k_ hn_)), Or.elim hk_ (fun hs_ => ((Kd.R_types (Kd.R_types (Kd.R_apart' (HL1648_1.out) (Kd.R_typed HO1643.out) (by decide)) BK1639.out (by decide)) BK1640.out (by decide)).1 k_ hs_.symm).2) (fun hn_ => (fb BK1640 k_ hn_))⟩)) (below_size bs))
     replace HO1643 := Aside0.mk (Kd.R_below (rl HO1643) hb)
     replace HO1647 := Aside0.mk (Kd.S_below (by (with_reducible repeat (first | apply Kd.S_alloc | apply Kd.S_drewN | apply Kd.S_drew)); exact HO1647.out) hb)
     replace HL1648_1 := Aside0.mk (Kd.R_below (rl HL1648_1) hb)
     replace BK1639 := bb BK1639 hb
     replace BK1640 := bb BK1640 hb
     replace HR1648_1 := Aside0.mk (Kd.C_below (cl HR1648_1.out) hb)
     replace HR1648_2 := Aside0.mk (Kd.C_below (cl HR1648_2.out) hb)
     replace HR1649_1 := Aside0.mk (Kd.C_below (cl HR1649_1.out) hb)
     replace HR1649_2 := Aside0.mk (Kd.C_below (cl HR1649_2.out) hb)
     replace HB := hs HB hb
     (try clear hb)
     (try clear hb2)
     (try clear hk)
     (try clear hi)
     (try clear ho0)
     (try clear ho1)
     refine hK.out _ _ ⟨HS0_, HS1_, HS2_, HS3_, HS4_, HS5_⟩ (fun hHeld => ?_)
     clear hK K
     refine norm_ (a' := ?_) ?_ ?_
     rotate_left
     ·show Act.put _ (some 26) _ = _
      simp only [Act.put, List.setIfInBounds_toArray, List.set_cons_zero, List.set_cons_succ, i64_w, i32_w]
      rfl
     refine pu (i := 9) (N := some 17) ?_
     refine pu (i := 10) (N := some 27) ?_
     refine pu (i := 11) (N := some 28) ?_
     refine pu (i := 12) (N := some 6) ?_
     refine pu (i := 13) (N := some 7) ?_
     refine done_ (done_of HT_.out (by kernel_rfl)) ?_
     have q1656 : 0 < (t1644.length : Int) := dt
     obtain ⟨ad1656, A1656_1, c1656_1, A1656_2, c1656_2, e1656, hx1656_0, hx1656_1, hx1656_2, HR1656_1, HC1656_1, HR1656_2, HC1656_2, HL1656_1, HL1656_2⟩ := r88z HO1647.out q1656
     (try rw [← Nbq6.out] at hx1656_0)
     obtain rfl : ad1648 = ad1656 := (by injection e1656)
     (try rw [show ((0 : Int)).toNat = 0 from rfl] at hx1656_0)
     (try rw [show 0 * 3 = 0 from rfl] at hx1656_0)
     (try rw [Addr.add_zero'] at hx1656_0)
     (try rw [show ((0 : Int)).toNat = 0 from rfl] at hx1656_1)
     (try rw [show 0 * 3 = 0 from rfl] at hx1656_1)
     (try rw [Addr.add_zero'] at hx1656_1)
     (try rw [show ((0 : Int)).toNat = 0 from rfl] at hx1656_2)
     (try rw [show 0 * 3 = 0 from rfl] at hx1656_2)
     (try rw [Addr.add_zero'] at hx1656_2)
     have qi1656 : (0 < t1644.length) = True := eq_true (by omega)
     have p1656 : (0 ≤ (0 : Int)) = True := eq_true (by omega)
     replace q1656 := eq_true q1656
     obtain ⟨Ao24, co24, eo24⟩ := Kd.V_slice HO1655.out
     subst eo24
     try go_wp2_with (first | ((with_reducible refine gate_callee (f := 106) rfl ?_); refine goesL_ (some 39) rfl rfl Try.func106 (by kernel_rfl) rfl #[.int .u64 1] rfl ga ?_; (with_reducible refine (bignat_Of.calls k 1 t1657 _ A9.out).mono ?_); rintro e w25 ⟨v1658, rfl, ho0, hb⟩; refine ⟨_, rfl, ?_⟩; replace HL1648_1 := Aside0.mk (Kd.R_below (rl HL1648_1) hb); replace HL1648_2 := Aside0.mk (Kd.R_below (rl HL1648_2) hb); replace HL1649_1 := Aside0.mk (Kd.R_below (rl HL1649_1) hb); replace HL1649_2 := Aside0.mk (Kd.R_below (rl HL1649_2) hb); replace HO1652 := Aside0.mk (Kd.V_below (vl HO1652) hb); replace HO1655 := Aside0.mk (Kd.V_below (vl HO1655) hb); replace HL1656_1 := Aside0.mk (Kd.R_below (rl HL1656_1) hb); replace HL1656_2 := Aside0.mk (Kd.R_below (rl HL1656_2) hb); have HO1659 := Aside0.mk (Kd.V_lower (Kd.V_mono (ok' := fun k_ => some k_ ≠ (.slice Ao19 y1641.length co19 : Value).ownBlock ∧ some k_ ≠ (.slice (some ad1648) t1644.length co22 : Value).ownBlock ∧ k_ ≠ gb1639 ∧ k_ ≠ gb1640) ho0 (fun k_ hk_ => ⟨(Kd.fresh' (Kd.R_lt (rl HO1643)) k_ hk_), (Kd.fresh' (Kd.S_lt (by (with_reducible repeat (first | apply Kd.S_alloc | apply Kd.S_drewN | apply Kd.S_drew)); exact HO1647.out)) k_ hk_), (fb BK1639 k_ hk_), (fb BK1640 k_ hk_)⟩)) (below_size bs)); replace HO1643 := Aside0.mk (Kd.R_below (rl HO1643) hb); replace HO1647 := Aside0.mk (Kd.S_below (by (with_reducible repeat (first | apply Kd.S_alloc | apply Kd.S_drewN | apply Kd.S_drew)); exact HO1647.out) hb); replace BK1639 := bb BK1639 hb; replace BK1640 := bb BK1640 hb; replace HR1648_1 := Aside0.mk (Kd.C_below (cl HR1648_1.out) hb); replace HR1648_2 := Aside0.mk (Kd.C_below (cl HR1648_2.out) hb); replace HR1649_1 := Aside0.mk (Kd.C_below (cl HR1649_1.out) hb); replace HR1649_2 := Aside0.mk (Kd.C_below (cl HR1649_2.out) hb); replace HR1656_1 := Aside0.mk (Kd.C_below (cl HR1656_1.out) hb); replace HR1656_2 := Aside0.mk (Kd.C_below (cl HR1656_2.out) hb); replace HB := hs HB hb; (try clear hb); (try clear ho0); obtain ⟨Ao26, co26, eo26⟩ := Kd.V_slice HO1652.out; subst eo26; obtain ⟨Ao27, co27, eo27⟩ := Kd.V_slice HO1659.out; subst eo27) | ((with_reducible refine gate_callee (f := 79) rfl ?_); refine goesL_ (some 40) rfl rfl Try.func79 (by kernel_rfl) rfl #[.slice Ao26 t1650.length co26, .slice Ao27 t1657.length co27] rfl ga ?_; (with_reducible refine (bignat_Nat_Add.calls k _ _ t1650 _ _ t1657 t1660 _ ?side1 ?side2 ?side3 ?side4 A10.out).mono ?_); (case side1 => exact cl ((Kd.V_reads' HO1652.out).2.2)); (case side2 => exact (Kd.V_reads' HO1652.out).2.1); (case side3 => exact cl ((Kd.V_reads' HO1659.out).2.2)); (case side4 => exact (Kd.V_reads' HO1659.out).2.1); rintro e w28 ⟨v1661, rfl, ho0, hb⟩; refine ⟨_, rfl, ?_⟩; replace HL1648_1 := Aside0.mk (Kd.R_below (rl HL1648_1) hb); replace HL1648_2 := Aside0.mk (Kd.R_below (rl HL1648_2) hb); replace HL1649_1 := Aside0.mk (Kd.R_below (rl HL1649_1) hb); replace HL1649_2 := Aside0.mk (Kd.R_below (rl HL1649_2) hb); replace HO1652 := Aside0.mk (Kd.V_below (vl HO1652) hb); replace HO1655 := Aside0.mk (Kd.V_below (vl HO1655) hb); replace HL1656_1 := Aside0.mk (Kd.R_below (rl HL1656_1) hb); replace HL1656_2 := Aside0.mk (Kd.R_below (rl HL1656_2) hb); replace HO1659 := Aside0.mk (Kd.V_below (vl HO1659) hb); have HO1662 := Aside0.mk (Kd.V_lower (Kd.V_mono (ok' := fun k_ => some k_ ≠ (.slice Ao19 y1641.length co19 : Value).ownBlock ∧ some k_ ≠ (.slice (some ad1648) t1644.length co22 : Value).ownBlock ∧ k_ ≠ gb1639 ∧ k_ ≠ gb1640) ho0 (fun k_ hk_ => ⟨(Kd.fresh' (Kd.R_lt (rl HO1643)) k_ hk_), (Kd.fresh' (Kd.S_lt (by (with_reducible repeat (first | apply Kd.S_alloc | apply Kd.S_drewN | apply Kd.S_drew)); exact HO1647.out)) k_ hk_), (fb BK1639 k_ hk_), (fb BK1640 k_ hk_)⟩)) (below_size bs)); replace HO1643 := Aside0.mk (Kd.R_below (rl HO1643) hb); replace HO1647 := Aside0.mk (Kd.S_below (by (with_reducible repeat (first | apply Kd.S_alloc | apply Kd.S_drewN | apply Kd.S_drew)); exact HO1647.out) hb); replace BK1639 := bb BK1639 hb; replace BK1640 := bb BK1640 hb; replace HR1648_1 := Aside0.mk (Kd.C_below (cl HR1648_1.out) hb); replace HR1648_2 := Aside0.mk (Kd.C_below (cl HR1648_2.out) hb); replace HR1649_1 := Aside0.mk (Kd.C_below (cl HR1649_1.out) hb); replace HR1649_2 := Aside0.mk (Kd.C_below (cl HR1649_2.out) hb); replace HR1656_1 := Aside0.mk (Kd.C_below (cl HR1656_1.out) hb); replace HR1656_2 := Aside0.mk (Kd.C_below (cl HR1656_2.out) hb); replace HB := hs HB hb; (try clear hb); (try clear ho0)))
     replace HO1643 := Aside0.mk (Kd.R_drew HO1643.out)
     replace HO1647 := Aside0.mk (Kd.S_drew HO1647.out)
     replace HL1648_1 := Aside0.mk (Kd.R_drew HL1648_1.out)
     replace HL1648_2 := Aside0.mk (Kd.R_drew HL1648_2.out)
     replace HL1649_1 := Aside0.mk (Kd.R_drew HL1649_1.out)
     replace HL1649_2 := Aside0.mk (Kd.R_drew HL1649_2.out)
     replace HO1652 := Aside0.mk (Kd.V_drew HO1652.out)
     replace HO1655 := Aside0.mk (Kd.V_drew HO1655.out)
     replace HL1656_1 := Aside0.mk (Kd.R_drew HL1656_1.out)
     replace HL1656_2 := Aside0.mk (Kd.R_drew HL1656_2.out)
     replace HO1659 := Aside0.mk (Kd.V_drew HO1659.out)
     replace HO1662 := Aside0.mk (Kd.V_drew HO1662.out)
     replace BK1639 := Aside0.mk (blk_drew BK1639.out)
     replace BK1640 := Aside0.mk (blk_drew BK1640.out)
     replace HR1648_1 := Aside0.mk (Kd.C_drew HR1648_1.out)
     replace HR1648_2 := Aside0.mk (Kd.C_drew HR1648_2.out)
     replace HR1649_1 := Aside0.mk (Kd.C_drew HR1649_1.out)
     replace HR1649_2 := Aside0.mk (Kd.C_drew HR1649_2.out)
     replace HR1656_1 := Aside0.mk (Kd.C_drew HR1656_1.out)
     replace HR1656_2 := Aside0.mk (Kd.C_drew HR1656_2.out)
     replace HB := Aside0.mk (below_drew1 HB.out)
     have q1663 : 0 < (t1644.length : Int) := dt
     obtain ⟨ad1663, A1663_1, c1663_1, A1663_2, c1663_2, e1663, hx1663_0, hx1663_1, hx1663_2, HR1663_1, HC1663_1, HR1663_2, HC1663_2, HL1663_1, HL1663_2⟩ := r88z HO1647.out q1663
     (try rw [← Nbq6.out] at hx1663_0)
     obtain rfl : ad1648 = ad1663 := (by injection e1663)
     (try rw [show ((0 : Int)).toNat = 0 from rfl] at hx1663_0)
     (try rw [show 0 * 3 = 0 from rfl] at hx1663_0)
     (try rw [Addr.add_zero'] at hx1663_0)
     (try rw [show ((0 : Int)).toNat = 0 from rfl] at hx1663_1)
     (try rw [show 0 * 3 = 0 from rfl] at hx1663_1)
     (try rw [Addr.add_zero'] at hx1663_1)
     (try rw [show ((0 : Int)).toNat = 0 from rfl] at hx1663_2)
     (try rw [show 0 * 3 = 0 from rfl] at hx1663_2)
     (try rw [Addr.add_zero'] at hx1663_2)
     have qi1663 : (0 < t1644.length) = True := eq_true (by omega)
     have p1663 : (0 ≤ (0 : Int)) = True := eq_true (by omega)
     replace q1663 := eq_true q1663
     refine start_ (n := 12) (S := fun w' => w'.cell? ad1648 = some (.bool (true)) ∧ w'.cell? ⟨ad1648.block, ad1648.off + 1, none⟩ = some (.slice A1663_1 ((rd_T88 t1644 0).f1).length c1663_1) ∧ w'.cell? ⟨ad1648.block, ad1648.off + 2, none⟩ = some (.slice A1663_2 ((rd_T88 t1644 0).f2).length c1663_2)) (ds := []) #[false, false, false, false, false, false, false, false, false, false, false, false] (by kernel_rfl) rfl rfl ⟨hx1663_0, hx1663_1, hx1663_2⟩ (fun hHeld => ?_); refine with_tabW ratio_Floor.tab7 ratio_Floor.bits7 (fun HT_ HW_ => ?_)
     generalize w28.drew = w29 at HO1643 HO1647 HL1648_1 HL1648_2 HL1649_1 HL1649_2 HO1652 HO1655 HL1656_1 HL1656_2 HO1659 HO1662 BK1639 BK1640 HR1648_1 HR1648_2 HR1649_1 HR1649_2 HR1656_1 HR1656_2 HB HL1663_1 HL1663_2 HR1663_1 HR1663_2 hx1663_0 hx1663_1 hx1663_2 hHeld ⊢
     refine pu (i := 0) (N := some 41) ?_
     refine pu (i := 1) (N := some 42) ?_
     refine pu (i := 2) (N := some 43) ?_
     refine pu (i := 4) (N := some 45) ?_
     refine ta (i := 3) (N := some 44) hHeld ?_
     refine on (i := 5) (N := some 46) (fun K hK => ?_)
     refine goes_ Try.func106 (by kernel_rfl) rfl #[.int .u64 1] (by rfl) rfl rfl ga ?_
     with_reducible refine (bignat_Of.calls k 1 t1664 _ A11.out).mono ?_
     rintro e w30 ⟨v1665, rfl, ho0, hb⟩
     have HS0_ := (hb.cell (World.block_lt_of_cell? _ _ (hHeld.1))).trans (hHeld.1)
     have HS1_ := (hb.cell (World.block_lt_of_cell? _ _ (hHeld.2.1))).trans (hHeld.2.1)
     have HS2_ := (hb.cell (World.block_lt_of_cell? _ _ (hHeld.2.2))).trans (hHeld.2.2)
     refine ⟨_, rfl, ?_⟩
     replace HL1648_1 := Aside0.mk (Kd.R_below (rl HL1648_1) hb)
     replace HL1648_2 := Aside0.mk (Kd.R_below (rl HL1648_2) hb)
     replace HL1649_1 := Aside0.mk (Kd.R_below (rl HL1649_1) hb)
     replace HL1649_2 := Aside0.mk (Kd.R_below (rl HL1649_2) hb)
     replace HO1652 := Aside0.mk (Kd.V_below (vl HO1652) hb)
     replace HO1655 := Aside0.mk (Kd.V_below (vl HO1655) hb)
     replace HL1656_1 := Aside0.mk (Kd.R_below (rl HL1656_1) hb)
     replace HL1656_2 := Aside0.mk (Kd.R_below (rl HL1656_2) hb)
     replace HO1659 := Aside0.mk (Kd.V_below (vl HO1659) hb)
     replace HO1662 := Aside0.mk (Kd.V_below (vl HO1662) hb)
     replace HL1663_1 := Aside0.mk (Kd.R_below (rl HL1663_1) hb)
     replace HL1663_2 := Aside0.mk (Kd.R_below (rl HL1663_2) hb)
     have HO1666 := Aside0.mk (Kd.V_lower (Kd.V_mono (ok' := fun k_ => some k_ ≠ (.slice Ao19 y1641.length co19 : Value).ownBlock ∧ some k_ ≠ (.slice (some ad1648) t1644.length co22 : Value).ownBlock ∧ k_ ≠ gb1639 ∧ k_ ≠ gb1640) ho0 (fun k_ hk_ => ⟨(Kd.fresh' (Kd.R_lt (rl HO1643)) k_ hk_), (Kd.fresh' (Kd.S_lt (by (with_reducible repeat (first | apply Kd.S_alloc | apply Kd.S_drewN | apply Kd.S_drew)); exact HO1647.out)) k_ hk_), (fb BK1639 k_ hk_), (fb BK1640 k_ hk_)⟩)) (below_size bs))
     replace HO1643 := Aside0.mk (Kd.R_below (rl HO1643) hb)
     replace HO1647 := Aside0.mk (Kd.S_below (by (with_reducible repeat (first | apply Kd.S_alloc | apply Kd.S_drewN | apply Kd.S_drew)); exact HO1647.out) hb)
     replace BK1639 := bb BK1639 hb
     replace BK1640 := bb BK1640 hb
     replace HR1648_1 := Aside0.mk (Kd.C_below (cl HR1648_1.out) hb)
     replace HR1648_2 := Aside0.mk (Kd.C_below (cl HR1648_2.out) hb)
     replace HR1649_1 := Aside0.mk (Kd.C_below (cl HR1649_1.out) hb)
     replace HR1649_2 := Aside0.mk (Kd.C_below (cl HR1649_2.out) hb)
     replace HR1656_1 := Aside0.mk (Kd.C_below (cl HR1656_1.out) hb)
     replace HR1656_2 := Aside0.mk (Kd.C_below (cl HR1656_2.out) hb)
     replace HR1663_1 := Aside0.mk (Kd.C_below (cl HR1663_1.out) hb)
     replace HR1663_2 := Aside0.mk (Kd.C_below (cl HR1663_2.out) hb)
     replace HB := hs HB hb
     (try clear hb)
     (try clear hb2)
     (try clear hk)
     (try clear hi)
     (try clear ho0)
     obtain ⟨Ao31, co31, eo31⟩ := Kd.V_slice HO1666.out
     (first | subst eo31 | (injection eo31 with f1_ f2_ f3_; have f4_ := f1_.symm; have f5_ := f3_.symm; clear f1_ f2_ f3_; subst f4_; subst f5_))
     obtain ⟨Ao32, co32, eo32⟩ := Kd.V_slice HO1662.out
     (first | subst eo32 | (injection eo32 with f1_ f2_ f3_; have f4_ := f1_.symm; have f5_ := f3_.symm; clear f1_ f2_ f3_; subst f4_; subst f5_))
     refine hK.out _ _ ⟨HS0_, HS1_, HS2_⟩ (fun hHeld => ?_)
     clear hK K
     refine norm_ (a' := ?_) ?_ ?_
     rotate_left
     ·show Act.put _ (some 46) _ = _
      simp only [Act.put, List.setIfInBounds_toArray, List.set_cons_zero, List.set_cons_succ, i64_w, i32_w]
      rfl
     refine pu (i := 6) (N := some 47) ?_
     refine on (i := 7) (N := some 48) (fun K hK => ?_)
     refine goes_ Try.func83 (by kernel_rfl) rfl #[.agg #[.bool true, .slice Ao32 t1660.length co32, .slice Ao31 t1664.length co31]] (by rfl) rfl rfl ga ?_
     with_reducible refine (ratio_number_lowest.calls k true _ _ t1660 _ _ t1664 t1667 t1668 t1669 t1670 _ ?side1 ?side2 ?side3 ?side4 A12.out).mono ?_
     (case side1 => exact cl ((Kd.V_reads' HO1662.out).2.2))
     (case side2 => exact (Kd.V_reads' HO1662.out).2.1)
     (case side3 => exact cl ((Kd.V_reads' HO1666.out).2.2))
     (case side4 => exact (Kd.V_reads' HO1666.out).2.1)
     rintro e w33 ⟨rfl, hb⟩
     have HS0_ := (hb.cell (World.block_lt_of_cell? _ _ (hHeld.1))).trans (hHeld.1)
     have HS1_ := (hb.cell (World.block_lt_of_cell? _ _ (hHeld.2.1))).trans (hHeld.2.1)
     have HS2_ := (hb.cell (World.block_lt_of_cell? _ _ (hHeld.2.2))).trans (hHeld.2.2)
     refine ⟨_, rfl, ?_⟩
     replace HO1643 := Aside0.mk (Kd.R_below (rl HO1643) hb)
     replace HO1647 := Aside0.mk (Kd.S_below (by (with_reducible repeat (first | apply Kd.S_alloc | apply Kd.S_drewN | apply Kd.S_drew)); exact HO1647.out) hb)
     replace HL1648_1 := Aside0.mk (Kd.R_below (rl HL1648_1) hb)
     replace HL1648_2 := Aside0.mk (Kd.R_below (rl HL1648_2) hb)
     replace HL1649_1 := Aside0.mk (Kd.R_below (rl HL1649_1) hb)
     replace HL1649_2 := Aside0.mk (Kd.R_below (rl HL1649_2) hb)
     replace HO1652 := Aside0.mk (Kd.V_below (vl HO1652) hb)
     replace HO1655 := Aside0.mk (Kd.V_below (vl HO1655) hb)
     replace HL1656_1 := Aside0.mk (Kd.R_below (rl HL1656_1) hb)
     replace HL1656_2 := Aside0.mk (Kd.R_below (rl HL1656_2) hb)
     replace HO1659 := Aside0.mk (Kd.V_below (vl HO1659) hb)
     replace HO1662 := Aside0.mk (Kd.V_below (vl HO1662) hb)
     replace HL1663_1 := Aside0.mk (Kd.R_below (rl HL1663_1) hb)
     replace HL1663_2 := Aside0.mk (Kd.R_below (rl HL1663_2) hb)
     replace HO1666 := Aside0.mk (Kd.V_below (vl HO1666) hb)
     replace BK1639 := bb BK1639 hb
     replace BK1640 := bb BK1640 hb
     replace HR1648_1 := Aside0.mk (Kd.C_below (cl HR1648_1.out) hb)
     replace HR1648_2 := Aside0.mk (Kd.C_below (cl HR1648_2.out) hb)
     replace HR1649_1 := Aside0.mk (Kd.C_below (cl HR1649_1.out) hb)
     replace HR1649_2 := Aside0.mk (Kd.C_below (cl HR1649_2.out) hb)
     replace HR1656_1 := Aside0.mk (Kd.C_below (cl HR1656_1.out) hb)
     replace HR1656_2 := Aside0.mk (Kd.C_below (cl HR1656_2.out) hb)
     replace HR1663_1 := Aside0.mk (Kd.C_below (cl HR1663_1.out) hb)
     replace HR1663_2 := Aside0.mk (Kd.C_below (cl HR1663_2.out) hb)
     replace HB := hs HB hb
     (try clear hb)
     (try clear hb2)
     (try clear hk)
     (try clear hi)
     refine hK.out _ _ ⟨HS0_, HS1_, HS2_⟩ (fun hHeld => ?_)
     clear hK K
     refine norm_ (a' := ?_) ?_ ?_
     rotate_left
     ·show Act.put _ (some 48) _ = _
      simp only [Act.put, List.setIfInBounds_toArray, List.set_cons_zero, List.set_cons_succ, i64_w, i32_w]
      rfl
     refine pu (i := 8) (N := some 49) ?_
     refine pu (i := 9) (N := some 50) ?_
     refine on (i := 10) (N := none) (fun K hK => ?_)
     have hs34 : w33.cell? ⟨gb1640, 0, none⟩ = some (.bool false) := (blk_cell BK1640.out 0).trans rfl
     have hfs34 := blk_frozen BK1640.out 0
     have hns34_0 := NB1639_1640.out
     have hms34_0 := NB1640_1639.out
     have hs35 : w33.cell? ⟨gb1640, 1, none⟩ = some (.string (⟨#[]⟩ : ByteArray)) := (blk_cell BK1640.out 1).trans rfl
     have hfs35 := blk_frozen BK1640.out 1
     have hns35_0 := NB1639_1640.out
     have hms35_0 := NB1640_1639.out
     have hs36 : w33.cell? ⟨gb1640, 2, none⟩ = some (.string (⟨#[]⟩ : ByteArray)) := (blk_cell BK1640.out 2).trans rfl
     have hfs36 := blk_frozen BK1640.out 2
     have hns36_0 := NB1639_1640.out
     have hms36_0 := NB1640_1639.out
     refine skip_ (w1 := ?_) (by rfl) rfl ?_ ?_
     rotate_left
     ·go_simp
      rfl
     have F_ := Kd.S_ne HO1647.out BK1640.out (by decide); refine hK.out _ _ ⟨(cf F_ (cf F_ (cf F_ hHeld.1))), (cf F_ (cf F_ (cf F_ hHeld.2.1))), (cf F_ (cf F_ (cf F_ hHeld.2.2)))⟩ (fun hHeld => ?_)
     clear hK K
     refine pu (i := 11) (N := some 3) ?_
     refine done_ (done_of HT_.out (by kernel_rfl)) ?_
     try go_wp2
     refine bodyPost_ret (results_ct rfl _ _ gb1640 35 #[.bool t1667, .string t1668, .string t1669] (0, 0) _ rfl bw Try.underlying35 rfl (by kernel_rfl)) rfl ?_
     exact ⟨er, bs⟩
    ·rw [if_neg c8] at H
     have c8b0 : decide (0 < (t1653.length : Int)) = false := decide_eq_false c8
     have c8b1 : decide (0 < t1653.length) = false := decide_eq_false (by omega)
     clear c8
     replace H := Option.bind_eq_some_iff.mp H
     obtain ⟨t1672, A370, H⟩ := H
     replace H : Option.bind (ratio_number_lowest.f k (true) t1650 t1672) _ = _ := H
     have A37 := Aside0.mk A370
     clear A370
     replace H := Option.bind_eq_some_iff.mp H
     obtain ⟨⟨t1675, t1676, t1677, t1678⟩, A380, H⟩ := H
     replace H : (some (t1675, t1676, t1677, t1678)) = some (r1, r2, r3, r4) := H
     have A38 := Aside0.mk A380
     clear A380
     simp only [Option.some.injEq, Prod.mk.injEq] at H
     obtain ⟨rfl, rfl, rfl, rfl⟩ := H
     go_enter Try.func60, Try.ntmps60
     try go_wp2_with (first | ((with_reducible refine gate_dst (N := 1) rfl ?_); (try (refine gate_guard (by rfl) ?_; dsimp only)); refine be (N := 1) (cs := #[.bool a0_0, .string a0_1, .string a0_2]) (t := 35) ?_; intro gb1639 hg w39 hbox hb; have BK1639 := Aside0.mk (hbox); have GW1639 := gw HB hg; have GE1639 := GW1639; replace HB := hs HB hb; clear hb hbox hg) | ((with_reducible refine gate_dst (N := 2) rfl ?_); (try (refine gate_guard (by rfl) ?_; dsimp only)); refine be (N := 2) (cs := #[.bool false, .string (⟨#[]⟩ : ByteArray), .string (⟨#[]⟩ : ByteArray)]) (t := 35) ?_; intro gb1640 hg w40 hbox hb; have BK1640 := Aside0.mk (hbox); have GW1640 := gw HB hg; have GE1640 := GW1640; replace HB := hs HB hb; have NB1639_1640 := na BK1639 hg; have NB1640_1639 := nz NB1639_1640; replace BK1639 := bb BK1639 hb; clear hb hbox hg; have hnb41 := NB1639_1640.out; have hnc41 := NB1640_1639.out; obtain ⟨hcz42_0, hcz42_1, hcz42_2, hfz42_0, hfz42_1, hfz42_2⟩ := z3 BK1639) | ((with_reducible refine gate_dst (N := 10) rfl ?_); (try (refine gate_guard (by rfl) ?_; dsimp only)); refine Kd.R_lit k35 _ 35 ?hg (N := 10) ?hd (xs := ([(⟨a0_0, a0_1, a0_2⟩ : S35)] : List (S35))) (inner := [.bool a0_0, .string a0_1, .string a0_2]) (ok := fun _ => True) (okp := fun _ => True) ?hr ?hp (fun _ hk => hk) trivial (Below.refl _ _) (Nat.le_refl _) (by simp) ?_; (case hd => rfl); (case hg => rfl); (case hr => first | (go_simp; done) | (go_simp; rfl)); (case hp => exact (Reps.c3 (show Kd.M k35 _ _ _ (⟨a0_0, a0_1, a0_2⟩ : S35) [.bool a0_0, .string a0_1, .string a0_2] from (k35_mkM _ _ _ (⟨a0_0, a0_1, a0_2⟩ : S35) )) (Reps.none _ _))); intro v1642 w43 ho44 hb hg_ hnew_; clear hg_ hnew_; (first | rw [← Ny1641.out] at ho44 | (simp only [Int.reduceToNat] at ho44; rw [← Ny1641.out] at ho44)); have HO1643 := Aside0.mk (Kd.R_lower (Kd.R_newB (Kd.R_newB ho44 (g := gb1639) (o := .cells #[.bool a0_0, .string a0_1, .string a0_2] 35 (0, 0)) bk) (g := gb1640) (o := .cells #[.bool false, .string (⟨#[]⟩ : ByteArray), .string (⟨#[]⟩ : ByteArray)] 35 (0, 0)) bk) (below_size bs)); replace BK1639 := bb BK1639 hb; replace BK1640 := bb BK1640 hb; replace HB := hs HB hb; clear hb ho44; obtain ⟨Ao45, co45, eo45⟩ := Kd.R_slice HO1643.out; subst eo45) | ((with_reducible refine gate_callee (f := 82) rfl ?_); refine goesL_ (some 11) rfl rfl Try.func82 (by kernel_rfl) rfl #[.slice Ao45 y1641.length co45] rfl ga ?_; (with_reducible refine (ratio_read.calls k _ _ y1641 t1644 true _ ?side1 ?side2 A2.out).mono ?_); (case side1 => exact cl ((Kd.R_reads' HO1643.out).2.2)); (case side2 => exact (Kd.R_reads' HO1643.out).2.1); rintro e w46 ⟨v1646, rfl, ho0, hb⟩; refine ⟨_, rfl, ?_⟩; replace HO1643 := Aside0.mk (Kd.R_below (rl HO1643) hb); have HO1647 := Aside0.mk (Kd.S_lower ho0 (below_size bs)); replace BK1639 := bb BK1639 hb; replace BK1640 := bb BK1640 hb; replace HB := hs HB hb; (try clear hb); (try clear ho0)))
     replace HO1643 := Aside0.mk (Kd.R_drew HO1643.out)
     replace HO1647 := Aside0.mk (Kd.S_drew HO1647.out)
     replace BK1639 := Aside0.mk (blk_drew BK1639.out)
     replace BK1640 := Aside0.mk (blk_drew BK1640.out)
     replace HB := Aside0.mk (below_drew1 HB.out)
     obtain ⟨Ao48, co48, eo48⟩ := Kd.S_slice HO1647.out
     (first | subst eo48 | (injection eo48 with f1_ f2_ f3_; have f4_ := f1_.symm; have f5_ := f3_.symm; clear f1_ f2_ f3_; subst f4_; subst f5_))
     have q1648 : 0 < (t1644.length : Int) := dt
     obtain ⟨ad1648, A1648_1, c1648_1, A1648_2, c1648_2, e1648, hx1648_0, hx1648_1, hx1648_2, HR1648_1, HC1648_1, HR1648_2, HC1648_2, HL1648_1, HL1648_2⟩ := r88z HO1647.out q1648
     (try rw [← Nbq6.out] at hx1648_0)
     cases e1648
     (try rw [show ((0 : Int)).toNat = 0 from rfl] at hx1648_0)
     (try rw [show 0 * 3 = 0 from rfl] at hx1648_0)
     (try rw [Addr.add_zero'] at hx1648_0)
     (try rw [show ((0 : Int)).toNat = 0 from rfl] at hx1648_1)
     (try rw [show 0 * 3 = 0 from rfl] at hx1648_1)
     (try rw [Addr.add_zero'] at hx1648_1)
     (try rw [show ((0 : Int)).toNat = 0 from rfl] at hx1648_2)
     (try rw [show 0 * 3 = 0 from rfl] at hx1648_2)
     (try rw [Addr.add_zero'] at hx1648_2)
     have qi1648 : (0 < t1644.length) = True := eq_true (by omega)
     have p1648 : (0 ≤ (0 : Int)) = True := eq_true (by omega)
     replace q1648 := eq_true q1648
     have q1649 : 0 < (t1644.length : Int) := dt
     obtain ⟨ad1649, A1649_1, c1649_1, A1649_2, c1649_2, e1649, hx1649_0, hx1649_1, hx1649_2, HR1649_1, HC1649_1, HR1649_2, HC1649_2, HL1649_1, HL1649_2⟩ := r88z HO1647.out q1649
     (try rw [← Nbq6.out] at hx1649_0)
     obtain rfl : ad1648 = ad1649 := (by injection e1649)
     (try rw [show ((0 : Int)).toNat = 0 from rfl] at hx1649_0)
     (try rw [show 0 * 3 = 0 from rfl] at hx1649_0)
     (try rw [Addr.add_zero'] at hx1649_0)
     (try rw [show ((0 : Int)).toNat = 0 from rfl] at hx1649_1)
     (try rw [show 0 * 3 = 0 from rfl] at hx1649_1)
     (try rw [Addr.add_zero'] at hx1649_1)
     (try rw [show ((0 : Int)).toNat = 0 from rfl] at hx1649_2)
     (try rw [show 0 * 3 = 0 from rfl] at hx1649_2)
     (try rw [Addr.add_zero'] at hx1649_2)
     have qi1649 : (0 < t1644.length) = True := eq_true (by omega)
     have p1649 : (0 ≤ (0 : Int)) = True := eq_true (by omega)
     replace q1649 := eq_true q1649
     obtain ⟨rfl, rfl⟩ := se hx1648_1 hx1649_1
     obtain ⟨rfl, rfl⟩ := se hx1648_2 hx1649_2
     refine start_ (n := 14) (S := fun w' => w'.cell? ad1648 = some (.bool true) ∧ w'.cell? ⟨ad1648.block, ad1648.off + 1, none⟩ = some (.slice A1648_1 ((rd_T88 t1644 0).f1).length c1648_1) ∧ w'.cell? ⟨ad1648.block, ad1648.off + 2, none⟩ = some (.slice A1648_2 ((rd_T88 t1644 0).f2).length c1648_2) ∧ w'.cell? ad1648 = some (.bool true) ∧ w'.cell? ⟨ad1648.block, ad1648.off + 1, none⟩ = some (.slice A1648_1 ((rd_T88 t1644 0).f1).length c1648_1) ∧ w'.cell? ⟨ad1648.block, ad1648.off + 2, none⟩ = some (.slice A1648_2 ((rd_T88 t1644 0).f2).length c1648_2)) (ds := []) #[false, false, false, false, false, false, false, false, false, false, false, false, false, false] (by kernel_rfl) rfl rfl ⟨hx1648_0, hx1648_1, hx1648_2, hx1649_0, hx1649_1, hx1649_2⟩ (fun hHeld => ?_); refine with_tabW ratio_Floor.tab4 ratio_Floor.bits4 (fun HT_ HW_ => ?_)
     generalize w46.drew = w47 at HO1643 HO1647 BK1639 BK1640 HB HL1648_1 HL1648_2 HL1649_1 HL1649_2 HR1648_1 HR1648_2 HR1649_1 HR1649_2 hx1648_0 hx1648_1 hx1648_2 hx1649_0 hx1649_1 hx1649_2 hHeld ⊢
     refine pu (i := 0) (N := some 18) ?_
     refine pu (i := 1) (N := some 19) ?_
     refine pu (i := 2) (N := some 20) ?_
     refine pu (i := 4) (N := some 22) ?_
     refine pu (i := 5) (N := some 23) ?_
     refine pu (i := 6) (N := some 24) ?_
     refine ta (i := 3) (N := some 21) hHeld ?_
     refine ta (i := 7) (N := some 25) hHeld ?_
     refine on (i := 8) (N := some 26) (fun K hK => ?_)
     refine goes_ Try.func74 (by kernel_rfl) rfl #[.slice A1648_1 ((rd_T88 t1644 0).f1).length c1648_1, .slice A1648_2 ((rd_T88 t1644 0).f2).length c1648_2] (by rfl) rfl rfl ga ?_
     with_reducible refine (bignat_Nat_Div.calls k (fun k_ => some k_ = (.slice A1648_1 ((rd_T88 t1644 0).f1).length c1648_1 : Value).ownBlock) _ _ ((rd_T88 t1644 0).f1) _ _ ((rd_T88 t1644 0).f2) t1650 t1653 _ ?side1 ?side2 ?side3 A5.out).mono ?_
     (case side1 => exact Kd.R_V (Kd.R_tight rfl (Kd.R_types (Kd.R_types (Kd.R_apart' (HL1648_1.out) (Kd.R_typed HO1643.out) (by decide)) BK1639.out (by decide)) BK1640.out (by decide))))
     (case side2 => repeat (first | exact (cl HR1649_2.out) | (with_reducible refine Kd.C_alloc ?_ _) | (with_reducible refine Kd.C_drewN ?_ _) | (with_reducible refine Kd.C_drew ?_)))
     (case side3 => exact HC1649_2.out)
     rintro e w49 ⟨v1651, v1654, rfl, ho0, ho1, hb⟩
     have HS0_ := (hb.cell (World.block_lt_of_cell? _ _ (hHeld.1))).trans (hHeld.1)
     have HS1_ := (hb.cell (World.block_lt_of_cell? _ _ (hHeld.2.1))).trans (hHeld.2.1)
     have HS2_ := (hb.cell (World.block_lt_of_cell? _ _ (hHeld.2.2.1))).trans (hHeld.2.2.1)
     have HS3_ := (hb.cell (World.block_lt_of_cell? _ _ (hHeld.2.2.2.1))).trans (hHeld.2.2.2.1)
     have HS4_ := (hb.cell (World.block_lt_of_cell? _ _ (hHeld.2.2.2.2.1))).trans (hHeld.2.2.2.2.1)
     have HS5_ := (hb.cell (World.block_lt_of_cell? _ _ (hHeld.2.2.2.2.2))).trans (hHeld.2.2.2.2.2)
     refine ⟨_, rfl, ?_⟩
     replace HL1648_2 := Aside0.mk (Kd.R_below (rl HL1648_2) hb)
     replace HL1649_1 := Aside0.mk (Kd.R_below (rl HL1649_1) hb)
     replace HL1649_2 := Aside0.mk (Kd.R_below (rl HL1649_2) hb)
     have HO1652 := Aside0.mk (Kd.V_lower (Kd.V_mono (ok' := fun k_ => some k_ ≠ (.slice Ao45 y1641.length co45 : Value).ownBlock ∧ some k_ ≠ (.slice (some ad1648) t1644.length co48 : Value).ownBlock ∧ k_ ≠ gb1639 ∧ k_ ≠ gb1640) ho0 (fun k_ hk_ => ⟨Or.elim hk_ (fun hs_ => ((Kd.R_types (Kd.R_types (Kd.R_apart' (HL1648_1.out) (Kd.R_typed HO1643.out) (by decide)) BK1639.out (by decide)) BK1640.out (by decide)).1 k_ hs_.symm).1.1.2) (fun hn_ => (Kd.fresh' (Kd.R_lt (rl HO1643)) k_ hn_)), Or.elim hk_ (fun hs_ => ((Kd.R_types (Kd.R_types (Kd.R_apart' (HL1648_1.out) (Kd.R_typed HO1643.out) (by decide)) BK1639.out (by decide)) BK1640.out (by decide)).1 k_ hs_.symm).1.1.1.2) (fun hn_ => (Kd.fresh' (Kd.S_lt (by (with_reducible repeat (first | apply Kd.S_alloc | apply Kd.S_drewN | apply Kd.S_drew)); exact HO1647.out)) k_ hn_)), Or.elim hk_ (fun hs_ => ((Kd.R_types (Kd.R_types (Kd.R_apart' (HL1648_1.out) (Kd.R_typed HO1643.out) (by decide)) BK1639.out (by decide)) BK1640.out (by decide)).1 k_ hs_.symm).1.2) (fun hn_ => (fb BK1639 k_ hn_)), Or.elim hk_ (fun hs_ => ((Kd.R_types (Kd.R_types (Kd.R_apart' (HL1648_1.out) (Kd.R_typed HO1643.out) (by decide)) BK1639.out (by decide)) BK1640.out (by decide)).1 k_ hs_.symm).2) (fun hn_ => (fb BK1640 k_ hn_))⟩)) (below_size bs))
     have HO1655 := Aside0.mk (Kd.V_lower (Kd.V_mono (ok' := fun k_ => some k_ ≠ (.slice Ao45 y1641.length co45 : Value).ownBlock ∧ some k_ ≠ (.slice (some ad1648) t1644.length co48 : Value).ownBlock ∧ k_ ≠ gb1639 ∧ k_ ≠ gb1640) ho1 (fun k_ hk_ => ⟨Or.elim hk_ (fun hs_ => ((Kd.R_types (Kd.R_types (Kd.R_apart' (HL1648_1.out) (Kd.R_typed HO1643.out) (by decide)) BK1639.out (by decide)) BK1640.out (by decide)).1 k_ hs_.symm).1.1.2) (fun hn_ => (Kd.fresh' (Kd.R_lt (rl HO1643)) k_ hn_)), Or.elim hk_ (fun hs_ => ((Kd.R_types (Kd.R_types (Kd.R_apart' (HL1648_1.out) (Kd.R_typed HO1643.out) (by decide)) BK1639.out (by decide)) BK1640.out (by decide)).1 k_ hs_.symm).1.1.1.2) (fun hn_ => (Kd.fresh' (Kd.S_lt (by (with_reducible repeat (first | apply Kd.S_alloc | apply Kd.S_drewN | apply Kd.S_drew)); exact HO1647.out)) k_ hn_)), Or.elim hk_ (fun hs_ => ((Kd.R_types (Kd.R_types (Kd.R_apart' (HL1648_1.out) (Kd.R_typed HO1643.out) (by decide)) BK1639.out (by decide)) BK1640.out (by decide)).1 k_ hs_.symm).1.2) (fun hn_ => (fb BK1639 k_ hn_)), Or.elim hk_ (fun hs_ => ((Kd.R_types (Kd.R_types (Kd.R_apart' (HL1648_1.out) (Kd.R_typed HO1643.out) (by decide)) BK1639.out (by decide)) BK1640.out (by decide)).1 k_ hs_.symm).2) (fun hn_ => (fb BK1640 k_ hn_))⟩)) (below_size bs))
     replace HO1643 := Aside0.mk (Kd.R_below (rl HO1643) hb)
     replace HO1647 := Aside0.mk (Kd.S_below (by (with_reducible repeat (first | apply Kd.S_alloc | apply Kd.S_drewN | apply Kd.S_drew)); exact HO1647.out) hb)
     replace HL1648_1 := Aside0.mk (Kd.R_below (rl HL1648_1) hb)
     replace BK1639 := bb BK1639 hb
     replace BK1640 := bb BK1640 hb
     replace HR1648_1 := Aside0.mk (Kd.C_below (cl HR1648_1.out) hb)
     replace HR1648_2 := Aside0.mk (Kd.C_below (cl HR1648_2.out) hb)
     replace HR1649_1 := Aside0.mk (Kd.C_below (cl HR1649_1.out) hb)
     replace HR1649_2 := Aside0.mk (Kd.C_below (cl HR1649_2.out) hb)
     replace HB := hs HB hb
     (try clear hb)
     (try clear hb2)
     (try clear hk)
     (try clear hi)
     (try clear ho0)
     (try clear ho1)
     refine hK.out _ _ ⟨HS0_, HS1_, HS2_, HS3_, HS4_, HS5_⟩ (fun hHeld => ?_)
     clear hK K
     refine norm_ (a' := ?_) ?_ ?_
     rotate_left
     ·show Act.put _ (some 26) _ = _
      simp only [Act.put, List.setIfInBounds_toArray, List.set_cons_zero, List.set_cons_succ, i64_w, i32_w]
      rfl
     refine pu (i := 9) (N := some 17) ?_
     refine pu (i := 10) (N := some 27) ?_
     refine pu (i := 11) (N := some 28) ?_
     refine pu (i := 12) (N := some 6) ?_
     refine pu (i := 13) (N := some 7) ?_
     refine done_ (done_of HT_.out (by kernel_rfl)) ?_
     have q1656 : 0 < (t1644.length : Int) := dt
     obtain ⟨ad1656, A1656_1, c1656_1, A1656_2, c1656_2, e1656, hx1656_0, hx1656_1, hx1656_2, HR1656_1, HC1656_1, HR1656_2, HC1656_2, HL1656_1, HL1656_2⟩ := r88z HO1647.out q1656
     (try rw [← Nbq6.out] at hx1656_0)
     obtain rfl : ad1648 = ad1656 := (by injection e1656)
     (try rw [show ((0 : Int)).toNat = 0 from rfl] at hx1656_0)
     (try rw [show 0 * 3 = 0 from rfl] at hx1656_0)
     (try rw [Addr.add_zero'] at hx1656_0)
     (try rw [show ((0 : Int)).toNat = 0 from rfl] at hx1656_1)
     (try rw [show 0 * 3 = 0 from rfl] at hx1656_1)
     (try rw [Addr.add_zero'] at hx1656_1)
     (try rw [show ((0 : Int)).toNat = 0 from rfl] at hx1656_2)
     (try rw [show 0 * 3 = 0 from rfl] at hx1656_2)
     (try rw [Addr.add_zero'] at hx1656_2)
     have qi1656 : (0 < t1644.length) = True := eq_true (by omega)
     have p1656 : (0 ≤ (0 : Int)) = True := eq_true (by omega)
     replace q1656 := eq_true q1656
     obtain ⟨Ao50, co50, eo50⟩ := Kd.V_slice HO1655.out
     subst eo50
     try go_wp2
     replace HO1643 := Aside0.mk (Kd.R_drew HO1643.out)
     replace HO1647 := Aside0.mk (Kd.S_drew HO1647.out)
     replace HL1648_1 := Aside0.mk (Kd.R_drew HL1648_1.out)
     replace HL1648_2 := Aside0.mk (Kd.R_drew HL1648_2.out)
     replace HL1649_1 := Aside0.mk (Kd.R_drew HL1649_1.out)
     replace HL1649_2 := Aside0.mk (Kd.R_drew HL1649_2.out)
     replace HO1652 := Aside0.mk (Kd.V_drew HO1652.out)
     replace HO1655 := Aside0.mk (Kd.V_drew HO1655.out)
     replace HL1656_1 := Aside0.mk (Kd.R_drew HL1656_1.out)
     replace HL1656_2 := Aside0.mk (Kd.R_drew HL1656_2.out)
     replace BK1639 := Aside0.mk (blk_drew BK1639.out)
     replace BK1640 := Aside0.mk (blk_drew BK1640.out)
     replace HR1648_1 := Aside0.mk (Kd.C_drew HR1648_1.out)
     replace HR1648_2 := Aside0.mk (Kd.C_drew HR1648_2.out)
     replace HR1649_1 := Aside0.mk (Kd.C_drew HR1649_1.out)
     replace HR1649_2 := Aside0.mk (Kd.C_drew HR1649_2.out)
     replace HR1656_1 := Aside0.mk (Kd.C_drew HR1656_1.out)
     replace HR1656_2 := Aside0.mk (Kd.C_drew HR1656_2.out)
     replace HB := Aside0.mk (below_drew1 HB.out)
     have q1671 : 0 < (t1644.length : Int) := dt
     obtain ⟨ad1671, A1671_1, c1671_1, A1671_2, c1671_2, e1671, hx1671_0, hx1671_1, hx1671_2, HR1671_1, HC1671_1, HR1671_2, HC1671_2, HL1671_1, HL1671_2⟩ := r88z HO1647.out q1671
     (try rw [← Nbq6.out] at hx1671_0)
     obtain rfl : ad1648 = ad1671 := (by injection e1671)
     (try rw [show ((0 : Int)).toNat = 0 from rfl] at hx1671_0)
     (try rw [show 0 * 3 = 0 from rfl] at hx1671_0)
     (try rw [Addr.add_zero'] at hx1671_0)
     (try rw [show ((0 : Int)).toNat = 0 from rfl] at hx1671_1)
     (try rw [show 0 * 3 = 0 from rfl] at hx1671_1)
     (try rw [Addr.add_zero'] at hx1671_1)
     (try rw [show ((0 : Int)).toNat = 0 from rfl] at hx1671_2)
     (try rw [show 0 * 3 = 0 from rfl] at hx1671_2)
     (try rw [Addr.add_zero'] at hx1671_2)
     have qi1671 : (0 < t1644.length) = True := eq_true (by omega)
     have p1671 : (0 ≤ (0 : Int)) = True := eq_true (by omega)
     replace q1671 := eq_true q1671
     refine start_ (n := 12) (S := fun w' => w'.cell? ad1648 = some (.bool (true)) ∧ w'.cell? ⟨ad1648.block, ad1648.off + 1, none⟩ = some (.slice A1671_1 ((rd_T88 t1644 0).f1).length c1671_1) ∧ w'.cell? ⟨ad1648.block, ad1648.off + 2, none⟩ = some (.slice A1671_2 ((rd_T88 t1644 0).f2).length c1671_2)) (ds := []) #[false, false, false, false, false, false, false, false, false, false, false, false] (by kernel_rfl) rfl rfl ⟨hx1671_0, hx1671_1, hx1671_2⟩ (fun hHeld => ?_); refine with_tabW ratio_Floor.tab7 ratio_Floor.bits7 (fun HT_ HW_ => ?_)
     generalize w49.drew = w51 at HO1643 HO1647 HL1648_1 HL1648_2 HL1649_1 HL1649_2 HO1652 HO1655 HL1656_1 HL1656_2 BK1639 BK1640 HR1648_1 HR1648_2 HR1649_1 HR1649_2 HR1656_1 HR1656_2 HB HL1671_1 HL1671_2 HR1671_1 HR1671_2 hx1671_0 hx1671_1 hx1671_2 hHeld ⊢
     refine pu (i := 0) (N := some 41) ?_
     refine pu (i := 1) (N := some 42) ?_
     refine pu (i := 2) (N := some 43) ?_
     refine pu (i := 4) (N := some 45) ?_
     refine ta (i := 3) (N := some 44) hHeld ?_
     refine on (i := 5) (N := some 46) (fun K hK => ?_)
     refine goes_ Try.func106 (by kernel_rfl) rfl #[.int .u64 1] (by rfl) rfl rfl ga ?_
     with_reducible refine (bignat_Of.calls k 1 t1672 _ A37.out).mono ?_
     rintro e w52 ⟨v1673, rfl, ho0, hb⟩
     have HS0_ := (hb.cell (World.block_lt_of_cell? _ _ (hHeld.1))).trans (hHeld.1)
     have HS1_ := (hb.cell (World.block_lt_of_cell? _ _ (hHeld.2.1))).trans (hHeld.2.1)
     have HS2_ := (hb.cell (World.block_lt_of_cell? _ _ (hHeld.2.2))).trans (hHeld.2.2)
     refine ⟨_, rfl, ?_⟩
     replace HL1648_1 := Aside0.mk (Kd.R_below (rl HL1648_1) hb)
     replace HL1648_2 := Aside0.mk (Kd.R_below (rl HL1648_2) hb)
     replace HL1649_1 := Aside0.mk (Kd.R_below (rl HL1649_1) hb)
     replace HL1649_2 := Aside0.mk (Kd.R_below (rl HL1649_2) hb)
     replace HO1652 := Aside0.mk (Kd.V_below (vl HO1652) hb)
     replace HO1655 := Aside0.mk (Kd.V_below (vl HO1655) hb)
     replace HL1656_1 := Aside0.mk (Kd.R_below (rl HL1656_1) hb)
     replace HL1656_2 := Aside0.mk (Kd.R_below (rl HL1656_2) hb)
     replace HL1671_1 := Aside0.mk (Kd.R_below (rl HL1671_1) hb)
     replace HL1671_2 := Aside0.mk (Kd.R_below (rl HL1671_2) hb)
     have HO1674 := Aside0.mk (Kd.V_lower (Kd.V_mono (ok' := fun k_ => some k_ ≠ (.slice Ao45 y1641.length co45 : Value).ownBlock ∧ some k_ ≠ (.slice (some ad1648) t1644.length co48 : Value).ownBlock ∧ k_ ≠ gb1639 ∧ k_ ≠ gb1640) ho0 (fun k_ hk_ => ⟨(Kd.fresh' (Kd.R_lt (rl HO1643)) k_ hk_), (Kd.fresh' (Kd.S_lt (by (with_reducible repeat (first | apply Kd.S_alloc | apply Kd.S_drewN | apply Kd.S_drew)); exact HO1647.out)) k_ hk_), (fb BK1639 k_ hk_), (fb BK1640 k_ hk_)⟩)) (below_size bs))
     replace HO1643 := Aside0.mk (Kd.R_below (rl HO1643) hb)
     replace HO1647 := Aside0.mk (Kd.S_below (by (with_reducible repeat (first | apply Kd.S_alloc | apply Kd.S_drewN | apply Kd.S_drew)); exact HO1647.out) hb)
     replace BK1639 := bb BK1639 hb
     replace BK1640 := bb BK1640 hb
     replace HR1648_1 := Aside0.mk (Kd.C_below (cl HR1648_1.out) hb)
     replace HR1648_2 := Aside0.mk (Kd.C_below (cl HR1648_2.out) hb)
     replace HR1649_1 := Aside0.mk (Kd.C_below (cl HR1649_1.out) hb)
     replace HR1649_2 := Aside0.mk (Kd.C_below (cl HR1649_2.out) hb)
     replace HR1656_1 := Aside0.mk (Kd.C_below (cl HR1656_1.out) hb)
     replace HR1656_2 := Aside0.mk (Kd.C_below (cl HR1656_2.out) hb)
     replace HR1671_1 := Aside0.mk (Kd.C_below (cl HR1671_1.out) hb)
     replace HR1671_2 := Aside0.mk (Kd.C_below (cl HR1671_2.out) hb)
     replace HB := hs HB hb
     (try clear hb)
     (try clear hb2)
     (try clear hk)
     (try clear hi)
     (try clear ho0)
     obtain ⟨Ao53, co53, eo53⟩ := Kd.V_slice HO1674.out
     (first | subst eo53 | (injection eo53 with f1_ f2_ f3_; have f4_ := f1_.symm; have f5_ := f3_.symm; clear f1_ f2_ f3_; subst f4_; subst f5_))
     obtain ⟨Ao54, co54, eo54⟩ := Kd.V_slice HO1652.out
     (first | subst eo54 | (injection eo54 with f1_ f2_ f3_; have f4_ := f1_.symm; have f5_ := f3_.symm; clear f1_ f2_ f3_; subst f4_; subst f5_))
     refine hK.out _ _ ⟨HS0_, HS1_, HS2_⟩ (fun hHeld => ?_)
     clear hK K
     refine norm_ (a' := ?_) ?_ ?_
     rotate_left
     ·show Act.put _ (some 46) _ = _
      simp only [Act.put, List.setIfInBounds_toArray, List.set_cons_zero, List.set_cons_succ, i64_w, i32_w]
      rfl
     refine pu (i := 6) (N := some 47) ?_
     refine on (i := 7) (N := some 48) (fun K hK => ?_)
     refine goes_ Try.func83 (by kernel_rfl) rfl #[.agg #[.bool true, .slice Ao54 t1650.length co54, .slice Ao53 t1672.length co53]] (by rfl) rfl rfl ga ?_
     with_reducible refine (ratio_number_lowest.calls k true _ _ t1650 _ _ t1672 t1675 t1676 t1677 t1678 _ ?side1 ?side2 ?side3 ?side4 A38.out).mono ?_
     (case side1 => exact cl ((Kd.V_reads' HO1652.out).2.2))
     (case side2 => exact (Kd.V_reads' HO1652.out).2.1)
     (case side3 => exact cl ((Kd.V_reads' HO1674.out).2.2))
     (case side4 => exact (Kd.V_reads' HO1674.out).2.1)
     rintro e w55 ⟨rfl, hb⟩
     have HS0_ := (hb.cell (World.block_lt_of_cell? _ _ (hHeld.1))).trans (hHeld.1)
     have HS1_ := (hb.cell (World.block_lt_of_cell? _ _ (hHeld.2.1))).trans (hHeld.2.1)
     have HS2_ := (hb.cell (World.block_lt_of_cell? _ _ (hHeld.2.2))).trans (hHeld.2.2)
     refine ⟨_, rfl, ?_⟩
     replace HO1643 := Aside0.mk (Kd.R_below (rl HO1643) hb)
     replace HO1647 := Aside0.mk (Kd.S_below (by (with_reducible repeat (first | apply Kd.S_alloc | apply Kd.S_drewN | apply Kd.S_drew)); exact HO1647.out) hb)
     replace HL1648_1 := Aside0.mk (Kd.R_below (rl HL1648_1) hb)
     replace HL1648_2 := Aside0.mk (Kd.R_below (rl HL1648_2) hb)
     replace HL1649_1 := Aside0.mk (Kd.R_below (rl HL1649_1) hb)
     replace HL1649_2 := Aside0.mk (Kd.R_below (rl HL1649_2) hb)
     replace HO1652 := Aside0.mk (Kd.V_below (vl HO1652) hb)
     replace HO1655 := Aside0.mk (Kd.V_below (vl HO1655) hb)
     replace HL1656_1 := Aside0.mk (Kd.R_below (rl HL1656_1) hb)
     replace HL1656_2 := Aside0.mk (Kd.R_below (rl HL1656_2) hb)
     replace HL1671_1 := Aside0.mk (Kd.R_below (rl HL1671_1) hb)
     replace HL1671_2 := Aside0.mk (Kd.R_below (rl HL1671_2) hb)
     replace HO1674 := Aside0.mk (Kd.V_below (vl HO1674) hb)
     replace BK1639 := bb BK1639 hb
     replace BK1640 := bb BK1640 hb
     replace HR1648_1 := Aside0.mk (Kd.C_below (cl HR1648_1.out) hb)
     replace HR1648_2 := Aside0.mk (Kd.C_below (cl HR1648_2.out) hb)
     replace HR1649_1 := Aside0.mk (Kd.C_below (cl HR1649_1.out) hb)
     replace HR1649_2 := Aside0.mk (Kd.C_below (cl HR1649_2.out) hb)
     replace HR1656_1 := Aside0.mk (Kd.C_below (cl HR1656_1.out) hb)
     replace HR1656_2 := Aside0.mk (Kd.C_below (cl HR1656_2.out) hb)
     replace HR1671_1 := Aside0.mk (Kd.C_below (cl HR1671_1.out) hb)
     replace HR1671_2 := Aside0.mk (Kd.C_below (cl HR1671_2.out) hb)
     replace HB := hs HB hb
     (try clear hb)
     (try clear hb2)
     (try clear hk)
     (try clear hi)
     refine hK.out _ _ ⟨HS0_, HS1_, HS2_⟩ (fun hHeld => ?_)
     clear hK K
     refine norm_ (a' := ?_) ?_ ?_
     rotate_left
     ·show Act.put _ (some 48) _ = _
      simp only [Act.put, List.setIfInBounds_toArray, List.set_cons_zero, List.set_cons_succ, i64_w, i32_w]
      rfl
     refine pu (i := 8) (N := some 49) ?_
     refine pu (i := 9) (N := some 50) ?_
     refine on (i := 10) (N := none) (fun K hK => ?_)
     have hs56 : w55.cell? ⟨gb1640, 0, none⟩ = some (.bool false) := (blk_cell BK1640.out 0).trans rfl
     have hfs56 := blk_frozen BK1640.out 0
     have hns56_0 := NB1639_1640.out
     have hms56_0 := NB1640_1639.out
     have hs57 : w55.cell? ⟨gb1640, 1, none⟩ = some (.string (⟨#[]⟩ : ByteArray)) := (blk_cell BK1640.out 1).trans rfl
     have hfs57 := blk_frozen BK1640.out 1
     have hns57_0 := NB1639_1640.out
     have hms57_0 := NB1640_1639.out
     have hs58 : w55.cell? ⟨gb1640, 2, none⟩ = some (.string (⟨#[]⟩ : ByteArray)) := (blk_cell BK1640.out 2).trans rfl
     have hfs58 := blk_frozen BK1640.out 2
     have hns58_0 := NB1639_1640.out
     have hms58_0 := NB1640_1639.out
     refine skip_ (w1 := ?_) (by rfl) rfl ?_ ?_
     rotate_left
     ·go_simp
      rfl
     have F_ := Kd.S_ne HO1647.out BK1640.out (by decide); refine hK.out _ _ ⟨(cf F_ (cf F_ (cf F_ hHeld.1))), (cf F_ (cf F_ (cf F_ hHeld.2.1))), (cf F_ (cf F_ (cf F_ hHeld.2.2)))⟩ (fun hHeld => ?_)
     clear hK K
     refine pu (i := 11) (N := some 3) ?_
     refine done_ (done_of HT_.out (by kernel_rfl)) ?_
     try go_wp2
     refine bodyPost_ret (results_ct rfl _ _ gb1640 35 #[.bool t1675, .string t1676, .string t1677] (0, 0) _ rfl bw Try.underlying35 rfl (by kernel_rfl)) rfl ?_
     exact ⟨er, bs⟩
   ·replace c7 := Bool.eq_false_iff.mpr c7
    subst c7
    have H1 : Option.bind (bignat_Of.f k 1) _ = _ := (if_neg (show ¬ (false = true) by decide)).symm.trans H
    clear H
    have H := H1
    clear H1
    replace H := Option.bind_eq_some_iff.mp H
    obtain ⟨t1680, A590, H⟩ := H
    replace H : Option.bind (ratio_number_lowest.f k (false) t1650 t1680) _ = _ := H
    have A59 := Aside0.mk A590
    clear A590
    replace H := Option.bind_eq_some_iff.mp H
    obtain ⟨⟨t1683, t1684, t1685, t1686⟩, A600, H⟩ := H
    replace H : (some (t1683, t1684, t1685, t1686)) = some (r1, r2, r3, r4) := H
    have A60 := Aside0.mk A600
    clear A600
    simp only [Option.some.injEq, Prod.mk.injEq] at H
    obtain ⟨rfl, rfl, rfl, rfl⟩ := H
    go_enter Try.func60, Try.ntmps60
    try go_wp2_with (first | ((with_reducible refine gate_dst (N := 1) rfl ?_); (try (refine gate_guard (by rfl) ?_; dsimp only)); refine be (N := 1) (cs := #[.bool a0_0, .string a0_1, .string a0_2]) (t := 35) ?_; intro gb1639 hg w61 hbox hb; have BK1639 := Aside0.mk (hbox); have GW1639 := gw HB hg; have GE1639 := GW1639; replace HB := hs HB hb; clear hb hbox hg) | ((with_reducible refine gate_dst (N := 2) rfl ?_); (try (refine gate_guard (by rfl) ?_; dsimp only)); refine be (N := 2) (cs := #[.bool false, .string (⟨#[]⟩ : ByteArray), .string (⟨#[]⟩ : ByteArray)]) (t := 35) ?_; intro gb1640 hg w62 hbox hb; have BK1640 := Aside0.mk (hbox); have GW1640 := gw HB hg; have GE1640 := GW1640; replace HB := hs HB hb; have NB1639_1640 := na BK1639 hg; have NB1640_1639 := nz NB1639_1640; replace BK1639 := bb BK1639 hb; clear hb hbox hg; have hnb63 := NB1639_1640.out; have hnc63 := NB1640_1639.out; obtain ⟨hcz64_0, hcz64_1, hcz64_2, hfz64_0, hfz64_1, hfz64_2⟩ := z3 BK1639) | ((with_reducible refine gate_dst (N := 10) rfl ?_); (try (refine gate_guard (by rfl) ?_; dsimp only)); refine Kd.R_lit k35 _ 35 ?hg (N := 10) ?hd (xs := ([(⟨a0_0, a0_1, a0_2⟩ : S35)] : List (S35))) (inner := [.bool a0_0, .string a0_1, .string a0_2]) (ok := fun _ => True) (okp := fun _ => True) ?hr ?hp (fun _ hk => hk) trivial (Below.refl _ _) (Nat.le_refl _) (by simp) ?_; (case hd => rfl); (case hg => rfl); (case hr => first | (go_simp; done) | (go_simp; rfl)); (case hp => exact (Reps.c3 (show Kd.M k35 _ _ _ (⟨a0_0, a0_1, a0_2⟩ : S35) [.bool a0_0, .string a0_1, .string a0_2] from (k35_mkM _ _ _ (⟨a0_0, a0_1, a0_2⟩ : S35) )) (Reps.none _ _))); intro v1642 w65 ho66 hb hg_ hnew_; clear hg_ hnew_; (first | rw [← Ny1641.out] at ho66 | (simp only [Int.reduceToNat] at ho66; rw [← Ny1641.out] at ho66)); have HO1643 := Aside0.mk (Kd.R_lower (Kd.R_newB (Kd.R_newB ho66 (g := gb1639) (o := .cells #[.bool a0_0, .string a0_1, .string a0_2] 35 (0, 0)) bk) (g := gb1640) (o := .cells #[.bool false, .string (⟨#[]⟩ : ByteArray), .string (⟨#[]⟩ : ByteArray)] 35 (0, 0)) bk) (below_size bs)); replace BK1639 := bb BK1639 hb; replace BK1640 := bb BK1640 hb; replace HB := hs HB hb; clear hb ho66; obtain ⟨Ao67, co67, eo67⟩ := Kd.R_slice HO1643.out; subst eo67) | ((with_reducible refine gate_callee (f := 82) rfl ?_); refine goesL_ (some 11) rfl rfl Try.func82 (by kernel_rfl) rfl #[.slice Ao67 y1641.length co67] rfl ga ?_; (with_reducible refine (ratio_read.calls k _ _ y1641 t1644 true _ ?side1 ?side2 A2.out).mono ?_); (case side1 => exact cl ((Kd.R_reads' HO1643.out).2.2)); (case side2 => exact (Kd.R_reads' HO1643.out).2.1); rintro e w68 ⟨v1646, rfl, ho0, hb⟩; refine ⟨_, rfl, ?_⟩; replace HO1643 := Aside0.mk (Kd.R_below (rl HO1643) hb); have HO1647 := Aside0.mk (Kd.S_lower ho0 (below_size bs)); replace BK1639 := bb BK1639 hb; replace BK1640 := bb BK1640 hb; replace HB := hs HB hb; (try clear hb); (try clear ho0)))
    replace HO1643 := Aside0.mk (Kd.R_drew HO1643.out)
    replace HO1647 := Aside0.mk (Kd.S_drew HO1647.out)
    replace BK1639 := Aside0.mk (blk_drew BK1639.out)
    replace BK1640 := Aside0.mk (blk_drew BK1640.out)
    replace HB := Aside0.mk (below_drew1 HB.out)
    obtain ⟨Ao70, co70, eo70⟩ := Kd.S_slice HO1647.out
    (first | subst eo70 | (injection eo70 with f1_ f2_ f3_; have f4_ := f1_.symm; have f5_ := f3_.symm; clear f1_ f2_ f3_; subst f4_; subst f5_))
    have q1648 : 0 < (t1644.length : Int) := dt
    obtain ⟨ad1648, A1648_1, c1648_1, A1648_2, c1648_2, e1648, hx1648_0, hx1648_1, hx1648_2, HR1648_1, HC1648_1, HR1648_2, HC1648_2, HL1648_1, HL1648_2⟩ := r88z HO1647.out q1648
    (try rw [← Nbq6.out] at hx1648_0)
    cases e1648
    (try rw [show ((0 : Int)).toNat = 0 from rfl] at hx1648_0)
    (try rw [show 0 * 3 = 0 from rfl] at hx1648_0)
    (try rw [Addr.add_zero'] at hx1648_0)
    (try rw [show ((0 : Int)).toNat = 0 from rfl] at hx1648_1)
    (try rw [show 0 * 3 = 0 from rfl] at hx1648_1)
    (try rw [Addr.add_zero'] at hx1648_1)
    (try rw [show ((0 : Int)).toNat = 0 from rfl] at hx1648_2)
    (try rw [show 0 * 3 = 0 from rfl] at hx1648_2)
    (try rw [Addr.add_zero'] at hx1648_2)
    have qi1648 : (0 < t1644.length) = True := eq_true (by omega)
    have p1648 : (0 ≤ (0 : Int)) = True := eq_true (by omega)
    replace q1648 := eq_true q1648
    have q1649 : 0 < (t1644.length : Int) := dt
    obtain ⟨ad1649, A1649_1, c1649_1, A1649_2, c1649_2, e1649, hx1649_0, hx1649_1, hx1649_2, HR1649_1, HC1649_1, HR1649_2, HC1649_2, HL1649_1, HL1649_2⟩ := r88z HO1647.out q1649
    (try rw [← Nbq6.out] at hx1649_0)
    obtain rfl : ad1648 = ad1649 := (by injection e1649)
    (try rw [show ((0 : Int)).toNat = 0 from rfl] at hx1649_0)
    (try rw [show 0 * 3 = 0 from rfl] at hx1649_0)
    (try rw [Addr.add_zero'] at hx1649_0)
    (try rw [show ((0 : Int)).toNat = 0 from rfl] at hx1649_1)
    (try rw [show 0 * 3 = 0 from rfl] at hx1649_1)
    (try rw [Addr.add_zero'] at hx1649_1)
    (try rw [show ((0 : Int)).toNat = 0 from rfl] at hx1649_2)
    (try rw [show 0 * 3 = 0 from rfl] at hx1649_2)
    (try rw [Addr.add_zero'] at hx1649_2)
    have qi1649 : (0 < t1644.length) = True := eq_true (by omega)
    have p1649 : (0 ≤ (0 : Int)) = True := eq_true (by omega)
    replace q1649 := eq_true q1649
    obtain ⟨rfl, rfl⟩ := se hx1648_1 hx1649_1
    obtain ⟨rfl, rfl⟩ := se hx1648_2 hx1649_2
    refine start_ (n := 14) (S := fun w' => w'.cell? ad1648 = some (.bool false) ∧ w'.cell? ⟨ad1648.block, ad1648.off + 1, none⟩ = some (.slice A1648_1 ((rd_T88 t1644 0).f1).length c1648_1) ∧ w'.cell? ⟨ad1648.block, ad1648.off + 2, none⟩ = some (.slice A1648_2 ((rd_T88 t1644 0).f2).length c1648_2) ∧ w'.cell? ad1648 = some (.bool false) ∧ w'.cell? ⟨ad1648.block, ad1648.off + 1, none⟩ = some (.slice A1648_1 ((rd_T88 t1644 0).f1).length c1648_1) ∧ w'.cell? ⟨ad1648.block, ad1648.off + 2, none⟩ = some (.slice A1648_2 ((rd_T88 t1644 0).f2).length c1648_2)) (ds := []) #[false, false, false, false, false, false, false, false, false, false, false, false, false, false] (by kernel_rfl) rfl rfl ⟨hx1648_0, hx1648_1, hx1648_2, hx1649_0, hx1649_1, hx1649_2⟩ (fun hHeld => ?_); refine with_tabW ratio_Floor.tab4 ratio_Floor.bits4 (fun HT_ HW_ => ?_)
    generalize w68.drew = w69 at HO1643 HO1647 BK1639 BK1640 HB HL1648_1 HL1648_2 HL1649_1 HL1649_2 HR1648_1 HR1648_2 HR1649_1 HR1649_2 hx1648_0 hx1648_1 hx1648_2 hx1649_0 hx1649_1 hx1649_2 hHeld ⊢
    refine pu (i := 0) (N := some 18) ?_
    refine pu (i := 1) (N := some 19) ?_
    refine pu (i := 2) (N := some 20) ?_
    refine pu (i := 4) (N := some 22) ?_
    refine pu (i := 5) (N := some 23) ?_
    refine pu (i := 6) (N := some 24) ?_
    refine ta (i := 3) (N := some 21) hHeld ?_
    refine ta (i := 7) (N := some 25) hHeld ?_
    refine on (i := 8) (N := some 26) (fun K hK => ?_)
    refine goes_ Try.func74 (by kernel_rfl) rfl #[.slice A1648_1 ((rd_T88 t1644 0).f1).length c1648_1, .slice A1648_2 ((rd_T88 t1644 0).f2).length c1648_2] (by rfl) rfl rfl ga ?_
    with_reducible refine (bignat_Nat_Div.calls k (fun k_ => some k_ = (.slice A1648_1 ((rd_T88 t1644 0).f1).length c1648_1 : Value).ownBlock) _ _ ((rd_T88 t1644 0).f1) _ _ ((rd_T88 t1644 0).f2) t1650 t1653 _ ?side1 ?side2 ?side3 A5.out).mono ?_
    (case side1 => exact Kd.R_V (Kd.R_tight rfl (Kd.R_types (Kd.R_types (Kd.R_apart' (HL1648_1.out) (Kd.R_typed HO1643.out) (by decide)) BK1639.out (by decide)) BK1640.out (by decide))))
    (case side2 => repeat (first | exact (cl HR1649_2.out) | (with_reducible refine Kd.C_alloc ?_ _) | (with_reducible refine Kd.C_drewN ?_ _) | (with_reducible refine Kd.C_drew ?_)))
    (case side3 => exact HC1649_2.out)
    rintro e w71 ⟨v1651, v1654, rfl, ho0, ho1, hb⟩
    have HS0_ := (hb.cell (World.block_lt_of_cell? _ _ (hHeld.1))).trans (hHeld.1)
    have HS1_ := (hb.cell (World.block_lt_of_cell? _ _ (hHeld.2.1))).trans (hHeld.2.1)
    have HS2_ := (hb.cell (World.block_lt_of_cell? _ _ (hHeld.2.2.1))).trans (hHeld.2.2.1)
    have HS3_ := (hb.cell (World.block_lt_of_cell? _ _ (hHeld.2.2.2.1))).trans (hHeld.2.2.2.1)
    have HS4_ := (hb.cell (World.block_lt_of_cell? _ _ (hHeld.2.2.2.2.1))).trans (hHeld.2.2.2.2.1)
    have HS5_ := (hb.cell (World.block_lt_of_cell? _ _ (hHeld.2.2.2.2.2))).trans (hHeld.2.2.2.2.2)
    refine ⟨_, rfl, ?_⟩
    replace HL1648_2 := Aside0.mk (Kd.R_below (rl HL1648_2) hb)
    replace HL1649_1 := Aside0.mk (Kd.R_below (rl HL1649_1) hb)
    replace HL1649_2 := Aside0.mk (Kd.R_below (rl HL1649_2) hb)
    have HO1652 := Aside0.mk (Kd.V_lower (Kd.V_mono (ok' := fun k_ => some k_ ≠ (.slice Ao67 y1641.length co67 : Value).ownBlock ∧ some k_ ≠ (.slice (some ad1648) t1644.length co70 : Value).ownBlock ∧ k_ ≠ gb1639 ∧ k_ ≠ gb1640) ho0 (fun k_ hk_ => ⟨Or.elim hk_ (fun hs_ => ((Kd.R_types (Kd.R_types (Kd.R_apart' (HL1648_1.out) (Kd.R_typed HO1643.out) (by decide)) BK1639.out (by decide)) BK1640.out (by decide)).1 k_ hs_.symm).1.1.2) (fun hn_ => (Kd.fresh' (Kd.R_lt (rl HO1643)) k_ hn_)), Or.elim hk_ (fun hs_ => ((Kd.R_types (Kd.R_types (Kd.R_apart' (HL1648_1.out) (Kd.R_typed HO1643.out) (by decide)) BK1639.out (by decide)) BK1640.out (by decide)).1 k_ hs_.symm).1.1.1.2) (fun hn_ => (Kd.fresh' (Kd.S_lt (by (with_reducible repeat (first | apply Kd.S_alloc | apply Kd.S_drewN | apply Kd.S_drew)); exact HO1647.out)) k_ hn_)), Or.elim hk_ (fun hs_ => ((Kd.R_types (Kd.R_types (Kd.R_apart' (HL1648_1.out) (Kd.R_typed HO1643.out) (by decide)) BK1639.out (by decide)) BK1640.out (by decide)).1 k_ hs_.symm).1.2) (fun hn_ => (fb BK1639 k_ hn_)), Or.elim hk_ (fun hs_ => ((Kd.R_types (Kd.R_types (Kd.R_apart' (HL1648_1.out) (Kd.R_typed HO1643.out) (by decide)) BK1639.out (by decide)) BK1640.out (by decide)).1 k_ hs_.symm).2) (fun hn_ => (fb BK1640 k_ hn_))⟩)) (below_size bs))
    have HO1655 := Aside0.mk (Kd.V_lower (Kd.V_mono (ok' := fun k_ => some k_ ≠ (.slice Ao67 y1641.length co67 : Value).ownBlock ∧ some k_ ≠ (.slice (some ad1648) t1644.length co70 : Value).ownBlock ∧ k_ ≠ gb1639 ∧ k_ ≠ gb1640) ho1 (fun k_ hk_ => ⟨Or.elim hk_ (fun hs_ => ((Kd.R_types (Kd.R_types (Kd.R_apart' (HL1648_1.out) (Kd.R_typed HO1643.out) (by decide)) BK1639.out (by decide)) BK1640.out (by decide)).1 k_ hs_.symm).1.1.2) (fun hn_ => (Kd.fresh' (Kd.R_lt (rl HO1643)) k_ hn_)), Or.elim hk_ (fun hs_ => ((Kd.R_types (Kd.R_types (Kd.R_apart' (HL1648_1.out) (Kd.R_typed HO1643.out) (by decide)) BK1639.out (by decide)) BK1640.out (by decide)).1 k_ hs_.symm).1.1.1.2) (fun hn_ => (Kd.fresh' (Kd.S_lt (by (with_reducible repeat (first | apply Kd.S_alloc | apply Kd.S_drewN | apply Kd.S_drew)); exact HO1647.out)) k_ hn_)), Or.elim hk_ (fun hs_ => ((Kd.R_types (Kd.R_types (Kd.R_apart' (HL1648_1.out) (Kd.R_typed HO1643.out) (by decide)) BK1639.out (by decide)) BK1640.out (by decide)).1 k_ hs_.symm).1.2) (fun hn_ => (fb BK1639 k_ hn_)), Or.elim hk_ (fun hs_ => ((Kd.R_types (Kd.R_types (Kd.R_apart' (HL1648_1.out) (Kd.R_typed HO1643.out) (by decide)) BK1639.out (by decide)) BK1640.out (by decide)).1 k_ hs_.symm).2) (fun hn_ => (fb BK1640 k_ hn_))⟩)) (below_size bs))
    replace HO1643 := Aside0.mk (Kd.R_below (rl HO1643) hb)
    replace HO1647 := Aside0.mk (Kd.S_below (by (with_reducible repeat (first | apply Kd.S_alloc | apply Kd.S_drewN | apply Kd.S_drew)); exact HO1647.out) hb)
    replace HL1648_1 := Aside0.mk (Kd.R_below (rl HL1648_1) hb)
    replace BK1639 := bb BK1639 hb
    replace BK1640 := bb BK1640 hb
    replace HR1648_1 := Aside0.mk (Kd.C_below (cl HR1648_1.out) hb)
    replace HR1648_2 := Aside0.mk (Kd.C_below (cl HR1648_2.out) hb)
    replace HR1649_1 := Aside0.mk (Kd.C_below (cl HR1649_1.out) hb)
    replace HR1649_2 := Aside0.mk (Kd.C_below (cl HR1649_2.out) hb)
    replace HB := hs HB hb
    (try clear hb)
    (try clear hb2)
    (try clear hk)
    (try clear hi)
    (try clear ho0)
    (try clear ho1)
    refine hK.out _ _ ⟨HS0_, HS1_, HS2_, HS3_, HS4_, HS5_⟩ (fun hHeld => ?_)
    clear hK K
    refine norm_ (a' := ?_) ?_ ?_
    rotate_left
    ·show Act.put _ (some 26) _ = _
     simp only [Act.put, List.setIfInBounds_toArray, List.set_cons_zero, List.set_cons_succ, i64_w, i32_w]
     rfl
    refine pu (i := 9) (N := some 17) ?_
    refine pu (i := 10) (N := some 27) ?_
    refine pu (i := 11) (N := some 28) ?_
    refine pu (i := 12) (N := some 6) ?_
    refine pu (i := 13) (N := some 7) ?_
    refine done_ (done_of HT_.out (by kernel_rfl)) ?_
    have q1656 : 0 < (t1644.length : Int) := dt
    obtain ⟨ad1656, A1656_1, c1656_1, A1656_2, c1656_2, e1656, hx1656_0, hx1656_1, hx1656_2, HR1656_1, HC1656_1, HR1656_2, HC1656_2, HL1656_1, HL1656_2⟩ := r88z HO1647.out q1656
    (try rw [← Nbq6.out] at hx1656_0)
    obtain rfl : ad1648 = ad1656 := (by injection e1656)
    (try rw [show ((0 : Int)).toNat = 0 from rfl] at hx1656_0)
    (try rw [show 0 * 3 = 0 from rfl] at hx1656_0)
    (try rw [Addr.add_zero'] at hx1656_0)
    (try rw [show ((0 : Int)).toNat = 0 from rfl] at hx1656_1)
    (try rw [show 0 * 3 = 0 from rfl] at hx1656_1)
    (try rw [Addr.add_zero'] at hx1656_1)
    (try rw [show ((0 : Int)).toNat = 0 from rfl] at hx1656_2)
    (try rw [show 0 * 3 = 0 from rfl] at hx1656_2)
    (try rw [Addr.add_zero'] at hx1656_2)
    have qi1656 : (0 < t1644.length) = True := eq_true (by omega)
    have p1656 : (0 ≤ (0 : Int)) = True := eq_true (by omega)
    replace q1656 := eq_true q1656
    try go_wp2
    replace HO1643 := Aside0.mk (Kd.R_drew HO1643.out)
    replace HO1647 := Aside0.mk (Kd.S_drew HO1647.out)
    replace HL1648_1 := Aside0.mk (Kd.R_drew HL1648_1.out)
    replace HL1648_2 := Aside0.mk (Kd.R_drew HL1648_2.out)
    replace HL1649_1 := Aside0.mk (Kd.R_drew HL1649_1.out)
    replace HL1649_2 := Aside0.mk (Kd.R_drew HL1649_2.out)
    replace HO1652 := Aside0.mk (Kd.V_drew HO1652.out)
    replace HO1655 := Aside0.mk (Kd.V_drew HO1655.out)
    replace HL1656_1 := Aside0.mk (Kd.R_drew HL1656_1.out)
    replace HL1656_2 := Aside0.mk (Kd.R_drew HL1656_2.out)
    replace BK1639 := Aside0.mk (blk_drew BK1639.out)
    replace BK1640 := Aside0.mk (blk_drew BK1640.out)
    replace HR1648_1 := Aside0.mk (Kd.C_drew HR1648_1.out)
    replace HR1648_2 := Aside0.mk (Kd.C_drew HR1648_2.out)
    replace HR1649_1 := Aside0.mk (Kd.C_drew HR1649_1.out)
    replace HR1649_2 := Aside0.mk (Kd.C_drew HR1649_2.out)
    replace HR1656_1 := Aside0.mk (Kd.C_drew HR1656_1.out)
    replace HR1656_2 := Aside0.mk (Kd.C_drew HR1656_2.out)
    replace HB := Aside0.mk (below_drew1 HB.out)
    have q1679 : 0 < (t1644.length : Int) := dt
    obtain ⟨ad1679, A1679_1, c1679_1, A1679_2, c1679_2, e1679, hx1679_0, hx1679_1, hx1679_2, HR1679_1, HC1679_1, HR1679_2, HC1679_2, HL1679_1, HL1679_2⟩ := r88z HO1647.out q1679
    (try rw [← Nbq6.out] at hx1679_0)
    obtain rfl : ad1648 = ad1679 := (by injection e1679)
    (try rw [show ((0 : Int)).toNat = 0 from rfl] at hx1679_0)
    (try rw [show 0 * 3 = 0 from rfl] at hx1679_0)
    (try rw [Addr.add_zero'] at hx1679_0)
    (try rw [show ((0 : Int)).toNat = 0 from rfl] at hx1679_1)
    (try rw [show 0 * 3 = 0 from rfl] at hx1679_1)
    (try rw [Addr.add_zero'] at hx1679_1)
    (try rw [show ((0 : Int)).toNat = 0 from rfl] at hx1679_2)
    (try rw [show 0 * 3 = 0 from rfl] at hx1679_2)
    (try rw [Addr.add_zero'] at hx1679_2)
    have qi1679 : (0 < t1644.length) = True := eq_true (by omega)
    have p1679 : (0 ≤ (0 : Int)) = True := eq_true (by omega)
    replace q1679 := eq_true q1679
    refine start_ (n := 12) (S := fun w' => w'.cell? ad1648 = some (.bool (false)) ∧ w'.cell? ⟨ad1648.block, ad1648.off + 1, none⟩ = some (.slice A1679_1 ((rd_T88 t1644 0).f1).length c1679_1) ∧ w'.cell? ⟨ad1648.block, ad1648.off + 2, none⟩ = some (.slice A1679_2 ((rd_T88 t1644 0).f2).length c1679_2)) (ds := []) #[false, false, false, false, false, false, false, false, false, false, false, false] (by kernel_rfl) rfl rfl ⟨hx1679_0, hx1679_1, hx1679_2⟩ (fun hHeld => ?_); refine with_tabW ratio_Floor.tab7 ratio_Floor.bits7 (fun HT_ HW_ => ?_)
    generalize w71.drew = w72 at HO1643 HO1647 HL1648_1 HL1648_2 HL1649_1 HL1649_2 HO1652 HO1655 HL1656_1 HL1656_2 BK1639 BK1640 HR1648_1 HR1648_2 HR1649_1 HR1649_2 HR1656_1 HR1656_2 HB HL1679_1 HL1679_2 HR1679_1 HR1679_2 hx1679_0 hx1679_1 hx1679_2 hHeld ⊢
    refine pu (i := 0) (N := some 41) ?_
    refine pu (i := 1) (N := some 42) ?_
    refine pu (i := 2) (N := some 43) ?_
    refine pu (i := 4) (N := some 45) ?_
    refine ta (i := 3) (N := some 44) hHeld ?_
    refine on (i := 5) (N := some 46) (fun K hK => ?_)
    refine goes_ Try.func106 (by kernel_rfl) rfl #[.int .u64 1] (by rfl) rfl rfl ga ?_
    with_reducible refine (bignat_Of.calls k 1 t1680 _ A59.out).mono ?_
    rintro e w73 ⟨v1681, rfl, ho0, hb⟩
    have HS0_ := (hb.cell (World.block_lt_of_cell? _ _ (hHeld.1))).trans (hHeld.1)
    have HS1_ := (hb.cell (World.block_lt_of_cell? _ _ (hHeld.2.1))).trans (hHeld.2.1)
    have HS2_ := (hb.cell (World.block_lt_of_cell? _ _ (hHeld.2.2))).trans (hHeld.2.2)
    refine ⟨_, rfl, ?_⟩
    replace HL1648_1 := Aside0.mk (Kd.R_below (rl HL1648_1) hb)
    replace HL1648_2 := Aside0.mk (Kd.R_below (rl HL1648_2) hb)
    replace HL1649_1 := Aside0.mk (Kd.R_below (rl HL1649_1) hb)
    replace HL1649_2 := Aside0.mk (Kd.R_below (rl HL1649_2) hb)
    replace HO1652 := Aside0.mk (Kd.V_below (vl HO1652) hb)
    replace HO1655 := Aside0.mk (Kd.V_below (vl HO1655) hb)
    replace HL1656_1 := Aside0.mk (Kd.R_below (rl HL1656_1) hb)
    replace HL1656_2 := Aside0.mk (Kd.R_below (rl HL1656_2) hb)
    replace HL1679_1 := Aside0.mk (Kd.R_below (rl HL1679_1) hb)
    replace HL1679_2 := Aside0.mk (Kd.R_below (rl HL1679_2) hb)
    have HO1682 := Aside0.mk (Kd.V_lower (Kd.V_mono (ok' := fun k_ => some k_ ≠ (.slice Ao67 y1641.length co67 : Value).ownBlock ∧ some k_ ≠ (.slice (some ad1648) t1644.length co70 : Value).ownBlock ∧ k_ ≠ gb1639 ∧ k_ ≠ gb1640) ho0 (fun k_ hk_ => ⟨(Kd.fresh' (Kd.R_lt (rl HO1643)) k_ hk_), (Kd.fresh' (Kd.S_lt (by (with_reducible repeat (first | apply Kd.S_alloc | apply Kd.S_drewN | apply Kd.S_drew)); exact HO1647.out)) k_ hk_), (fb BK1639 k_ hk_), (fb BK1640 k_ hk_)⟩)) (below_size bs))
    replace HO1643 := Aside0.mk (Kd.R_below (rl HO1643) hb)
    replace HO1647 := Aside0.mk (Kd.S_below (by (with_reducible repeat (first | apply Kd.S_alloc | apply Kd.S_drewN | apply Kd.S_drew)); exact HO1647.out) hb)
    replace BK1639 := bb BK1639 hb
    replace BK1640 := bb BK1640 hb
    replace HR1648_1 := Aside0.mk (Kd.C_below (cl HR1648_1.out) hb)
    replace HR1648_2 := Aside0.mk (Kd.C_below (cl HR1648_2.out) hb)
    replace HR1649_1 := Aside0.mk (Kd.C_below (cl HR1649_1.out) hb)
    replace HR1649_2 := Aside0.mk (Kd.C_below (cl HR1649_2.out) hb)
    replace HR1656_1 := Aside0.mk (Kd.C_below (cl HR1656_1.out) hb)
    replace HR1656_2 := Aside0.mk (Kd.C_below (cl HR1656_2.out) hb)
    replace HR1679_1 := Aside0.mk (Kd.C_below (cl HR1679_1.out) hb)
    replace HR1679_2 := Aside0.mk (Kd.C_below (cl HR1679_2.out) hb)
    replace HB := hs HB hb
    (try clear hb)
    (try clear hb2)
    (try clear hk)
    (try clear hi)
    (try clear ho0)
    obtain ⟨Ao74, co74, eo74⟩ := Kd.V_slice HO1682.out
    (first | subst eo74 | (injection eo74 with f1_ f2_ f3_; have f4_ := f1_.symm; have f5_ := f3_.symm; clear f1_ f2_ f3_; subst f4_; subst f5_))
    obtain ⟨Ao75, co75, eo75⟩ := Kd.V_slice HO1652.out
    (first | subst eo75 | (injection eo75 with f1_ f2_ f3_; have f4_ := f1_.symm; have f5_ := f3_.symm; clear f1_ f2_ f3_; subst f4_; subst f5_))
    refine hK.out _ _ ⟨HS0_, HS1_, HS2_⟩ (fun hHeld => ?_)
    clear hK K
    refine norm_ (a' := ?_) ?_ ?_
    rotate_left
    ·show Act.put _ (some 46) _ = _
     simp only [Act.put, List.setIfInBounds_toArray, List.set_cons_zero, List.set_cons_succ, i64_w, i32_w]
     rfl
    refine pu (i := 6) (N := some 47) ?_
    refine on (i := 7) (N := some 48) (fun K hK => ?_)
    refine goes_ Try.func83 (by kernel_rfl) rfl #[.agg #[.bool false, .slice Ao75 t1650.length co75, .slice Ao74 t1680.length co74]] (by rfl) rfl rfl ga ?_
    with_reducible refine (ratio_number_lowest.calls k false _ _ t1650 _ _ t1680 t1683 t1684 t1685 t1686 _ ?side1 ?side2 ?side3 ?side4 A60.out).mono ?_
    (case side1 => exact cl ((Kd.V_reads' HO1652.out).2.2))
    (case side2 => exact (Kd.V_reads' HO1652.out).2.1)
    (case side3 => exact cl ((Kd.V_reads' HO1682.out).2.2))
    (case side4 => exact (Kd.V_reads' HO1682.out).2.1)
    rintro e w76 ⟨rfl, hb⟩
    have HS0_ := (hb.cell (World.block_lt_of_cell? _ _ (hHeld.1))).trans (hHeld.1)
    have HS1_ := (hb.cell (World.block_lt_of_cell? _ _ (hHeld.2.1))).trans (hHeld.2.1)
    have HS2_ := (hb.cell (World.block_lt_of_cell? _ _ (hHeld.2.2))).trans (hHeld.2.2)
    refine ⟨_, rfl, ?_⟩
    replace HO1643 := Aside0.mk (Kd.R_below (rl HO1643) hb)
    replace HO1647 := Aside0.mk (Kd.S_below (by (with_reducible repeat (first | apply Kd.S_alloc | apply Kd.S_drewN | apply Kd.S_drew)); exact HO1647.out) hb)
    replace HL1648_1 := Aside0.mk (Kd.R_below (rl HL1648_1) hb)
    replace HL1648_2 := Aside0.mk (Kd.R_below (rl HL1648_2) hb)
    replace HL1649_1 := Aside0.mk (Kd.R_below (rl HL1649_1) hb)
    replace HL1649_2 := Aside0.mk (Kd.R_below (rl HL1649_2) hb)
    replace HO1652 := Aside0.mk (Kd.V_below (vl HO1652) hb)
    replace HO1655 := Aside0.mk (Kd.V_below (vl HO1655) hb)
    replace HL1656_1 := Aside0.mk (Kd.R_below (rl HL1656_1) hb)
    replace HL1656_2 := Aside0.mk (Kd.R_below (rl HL1656_2) hb)
    replace HL1679_1 := Aside0.mk (Kd.R_below (rl HL1679_1) hb)
    replace HL1679_2 := Aside0.mk (Kd.R_below (rl HL1679_2) hb)
    replace HO1682 := Aside0.mk (Kd.V_below (vl HO1682) hb)
    replace BK1639 := bb BK1639 hb
    replace BK1640 := bb BK1640 hb
    replace HR1648_1 := Aside0.mk (Kd.C_below (cl HR1648_1.out) hb)
    replace HR1648_2 := Aside0.mk (Kd.C_below (cl HR1648_2.out) hb)
    replace HR1649_1 := Aside0.mk (Kd.C_below (cl HR1649_1.out) hb)
    replace HR1649_2 := Aside0.mk (Kd.C_below (cl HR1649_2.out) hb)
    replace HR1656_1 := Aside0.mk (Kd.C_below (cl HR1656_1.out) hb)
    replace HR1656_2 := Aside0.mk (Kd.C_below (cl HR1656_2.out) hb)
    replace HR1679_1 := Aside0.mk (Kd.C_below (cl HR1679_1.out) hb)
    replace HR1679_2 := Aside0.mk (Kd.C_below (cl HR1679_2.out) hb)
    replace HB := hs HB hb
    (try clear hb)
    (try clear hb2)
    (try clear hk)
    (try clear hi)
    refine hK.out _ _ ⟨HS0_, HS1_, HS2_⟩ (fun hHeld => ?_)
    clear hK K
    refine norm_ (a' := ?_) ?_ ?_
    rotate_left
    ·show Act.put _ (some 48) _ = _
     simp only [Act.put, List.setIfInBounds_toArray, List.set_cons_zero, List.set_cons_succ, i64_w, i32_w]
     rfl
    refine pu (i := 8) (N := some 49) ?_
    refine pu (i := 9) (N := some 50) ?_
    refine on (i := 10) (N := none) (fun K hK => ?_)
    have hs77 : w76.cell? ⟨gb1640, 0, none⟩ = some (.bool false) := (blk_cell BK1640.out 0).trans rfl
    have hfs77 := blk_frozen BK1640.out 0
    have hns77_0 := NB1639_1640.out
    have hms77_0 := NB1640_1639.out
    have hs78 : w76.cell? ⟨gb1640, 1, none⟩ = some (.string (⟨#[]⟩ : ByteArray)) := (blk_cell BK1640.out 1).trans rfl
    have hfs78 := blk_frozen BK1640.out 1
    have hns78_0 := NB1639_1640.out
    have hms78_0 := NB1640_1639.out
    have hs79 : w76.cell? ⟨gb1640, 2, none⟩ = some (.string (⟨#[]⟩ : ByteArray)) := (blk_cell BK1640.out 2).trans rfl
    have hfs79 := blk_frozen BK1640.out 2
    have hns79_0 := NB1639_1640.out
    have hms79_0 := NB1640_1639.out
    refine skip_ (w1 := ?_) (by rfl) rfl ?_ ?_
    rotate_left
    ·go_simp
     rfl
    have F_ := Kd.S_ne HO1647.out BK1640.out (by decide); refine hK.out _ _ ⟨(cf F_ (cf F_ (cf F_ hHeld.1))), (cf F_ (cf F_ (cf F_ hHeld.2.1))), (cf F_ (cf F_ (cf F_ hHeld.2.2)))⟩ (fun hHeld => ?_)
    clear hK K
    refine pu (i := 11) (N := some 3) ?_
    refine done_ (done_of HT_.out (by kernel_rfl)) ?_
    try go_wp2
    refine bodyPost_ret (results_ct rfl _ _ gb1640 35 #[.bool t1683, .string t1684, .string t1685] (0, 0) _ rfl bw Try.underlying35 rfl (by kernel_rfl)) rfl ?_
    exact ⟨er, bs⟩
  ·rw [if_neg c4] at H
   exact absurd H (by simp)
 ·replace c3 := Bool.eq_false_iff.mpr c3
  subst c3
  have H1 : (some (false, (⟨#[]⟩ : ByteArray), (⟨#[]⟩ : ByteArray), 1)) = some (r1, r2, r3, r4) := by rw [if_neg (show ¬ (false = true) by decide)] at H; exact H
  clear H
  have H := H1
  clear H1
  simp only [Option.some.injEq, Prod.mk.injEq] at H
  obtain ⟨rfl, rfl, rfl, rfl⟩ := H
  go_enter Try.func60, Try.ntmps60
  go_wp2_with (first | ((with_reducible refine gate_dst (N := 1) rfl ?_); (try (refine gate_guard (by rfl) ?_; dsimp only)); refine be (N := 1) (cs := #[.bool a0_0, .string a0_1, .string a0_2]) (t := 35) ?_; intro gb1639 hg w80 hbox hb; have BK1639 := Aside0.mk (hbox); have GW1639 := gw HB hg; have GE1639 := GW1639; replace HB := hs HB hb; clear hb hbox hg) | ((with_reducible refine gate_dst (N := 2) rfl ?_); (try (refine gate_guard (by rfl) ?_; dsimp only)); refine be (N := 2) (cs := #[.bool false, .string (⟨#[]⟩ : ByteArray), .string (⟨#[]⟩ : ByteArray)]) (t := 35) ?_; intro gb1640 hg w81 hbox hb; have BK1640 := Aside0.mk (hbox); have GW1640 := gw HB hg; have GE1640 := GW1640; replace HB := hs HB hb; have NB1639_1640 := na BK1639 hg; have NB1640_1639 := nz NB1639_1640; replace BK1639 := bb BK1639 hb; clear hb hbox hg; have hnb82 := NB1639_1640.out; have hnc82 := NB1640_1639.out; obtain ⟨hcz83_0, hcz83_1, hcz83_2, hfz83_0, hfz83_1, hfz83_2⟩ := z3 BK1639) | ((with_reducible refine gate_dst (N := 10) rfl ?_); (try (refine gate_guard (by rfl) ?_; dsimp only)); refine Kd.R_lit k35 _ 35 ?hg (N := 10) ?hd (xs := ([(⟨a0_0, a0_1, a0_2⟩ : S35)] : List (S35))) (inner := [.bool a0_0, .string a0_1, .string a0_2]) (ok := fun _ => True) (okp := fun _ => True) ?hr ?hp (fun _ hk => hk) trivial (Below.refl _ _) (Nat.le_refl _) (by simp) ?_; (case hd => rfl); (case hg => rfl); (case hr => first | (go_simp; done) | (go_simp; rfl)); (case hp => exact (Reps.c3 (show Kd.M k35 _ _ _ (⟨a0_0, a0_1, a0_2⟩ : S35) [.bool a0_0, .string a0_1, .string a0_2] from (k35_mkM _ _ _ (⟨a0_0, a0_1, a0_2⟩ : S35) )) (Reps.none _ _))); intro v1642 w84 ho85 hb hg_ hnew_; clear hg_ hnew_; (first | rw [← Ny1641.out] at ho85 | (simp only [Int.reduceToNat] at ho85; rw [← Ny1641.out] at ho85)); have HO1643 := Aside0.mk (Kd.R_lower (Kd.R_newB (Kd.R_newB ho85 (g := gb1639) (o := .cells #[.bool a0_0, .string a0_1, .string a0_2] 35 (0, 0)) bk) (g := gb1640) (o := .cells #[.bool false, .string (⟨#[]⟩ : ByteArray), .string (⟨#[]⟩ : ByteArray)] 35 (0, 0)) bk) (below_size bs)); replace BK1639 := bb BK1639 hb; replace BK1640 := bb BK1640 hb; replace HB := hs HB hb; clear hb ho85; obtain ⟨Ao86, co86, eo86⟩ := Kd.R_slice HO1643.out; subst eo86) | ((with_reducible refine gate_callee (f := 82) rfl ?_); refine goesL_ (some 11) rfl rfl Try.func82 (by kernel_rfl) rfl #[.slice Ao86 y1641.length co86] rfl ga ?_; (with_reducible refine (ratio_read.calls k _ _ y1641 t1644 false _ ?side1 ?side2 A2.out).mono ?_); (case side1 => exact cl ((Kd.R_reads' HO1643.out).2.2)); (case side2 => exact (Kd.R_reads' HO1643.out).2.1); rintro e w87 ⟨v1646, rfl, ho0, hb⟩; refine ⟨_, rfl, ?_⟩; replace HO1643 := Aside0.mk (Kd.R_below (rl HO1643) hb); have HO1647 := Aside0.mk (Kd.S_lower ho0 (below_size bs)); replace BK1639 := bb BK1639 hb; replace BK1640 := bb BK1640 hb; replace HB := hs HB hb; (try clear hb); (try clear ho0); obtain ⟨hcz88_0, hcz88_1, hcz88_2, hfz88_0, hfz88_1, hfz88_2⟩ := z3 BK1640))
  refine bodyPost_ret (results_ct rfl _ _ gb1640 35 #[.bool false, .string (⟨#[]⟩ : ByteArray), .string (⟨#[]⟩ : ByteArray)] (0, 0) _ rfl bw Try.underlying35 rfl (by kernel_rfl)) rfl ?_
  exact ⟨er, bs⟩
end Go.Proofs.Ytccgfmjcldifcaa.P
