/- Walks of Go functions: what they compute; each theorem's conditions stand in it. -/
import Derived.Test.YtccgfmjcldifcaaT
import Derived.Test.YtccgfmjcldifcaaCIsRatio
import Derived.Test.YtccgfmjcldifcaaCPlus
import Derived.Test.YtccgfmjcldifcaaDE
namespace Go.Proofs.Ytccgfmjcldifcaa.P
open Go.RowKit Go.Proofs.YtccgfmjcldifcaaW.PrintWords Go.Proofs.YtccgfmjcldifcaaW.PrintLast Go.Proofs.YtccgfmjcldifcaaW.PrintMore
attribute [local go_sem] max2_int min2_int max_two min_two max_three min_three max_four min_four
set_option linter.unusedVariables false
set_option linter.unusedSimpArgs false
def ratio_Compare.T5 : Bool × List (List Nat × List Nat) := (true, [([], []), ([0], [0]), ([1], [1]), ([], []), ([3], [3]), ([4], [4]), ([2, 5], [2, 5]), ([], []), ([7, 6, 6, 0, 1, 2, 3, 4, 5, 6, 7], [6, 7])])
def ratio_Compare.B5 : List Nat := [0, 1, 3, 0, 8, 24, 63, 0, 255]
theorem ratio_Compare.tab5 : rtab .any (opsOf Try.f47 5) = ratio_Compare.T5 := by kernel_rfl
theorem ratio_Compare.bits5 : waitsOk ratio_Compare.T5.2 ratio_Compare.B5 = true := by kernel_rfl
set_option maxHeartbeats 8000000 in
set_option maxRecDepth 100000 in
theorem ratio_Compare.calls (k : Nat) (a0_0 : Bool) (a0_1 : ByteArray) (a0_2 : ByteArray) (a1_0 : Bool) (a1_1 : ByteArray) (a1_2 : ByteArray) (r : Int) (w : World) (h : ratio_Compare.f k a0_0 a0_1 a0_2 a1_0 a1_1 a1_2 = some r) :
  Calls Try.prog 47 #[.agg #[.bool a0_0, .string a0_1, .string a0_2], .agg #[.bool a1_0, .string a1_1, .string a1_2]] w fun e w' => e = .returned (.int .i64 r) ∧ Below w.heap.size w w' := by
 have hu35 := Try.underlying35
 have hu88 := Try.underlying88
 have HB := Aside0.mk (Below.refl w.heap.size w)
 have H : Option.bind (ratio_read.f k (([(⟨a0_0, a0_1, a0_2⟩ : S35), (⟨a1_0, a1_1, a1_2⟩ : S35)] : List (S35)))) _ = _ := h
 clear h
 obtain ⟨y1184, hy1184⟩ : ∃ y_ : List (S35), y_ = (([(⟨a0_0, a0_1, a0_2⟩ : S35), (⟨a1_0, a1_1, a1_2⟩ : S35)] : List (S35))) := ⟨_, rfl⟩
 replace H : ((ratio_read.f k y1184).bind fun bt1187 => (if bt1187.2 = true then (if 1 < (bt1187.1.length : Int) then ((some (bt1187.1.set (1 : Int).toNat (⟨!((rd_T88 bt1187.1 1).f0), (rd_T88 bt1187.1 1).f1, (rd_T88 bt1187.1 1).f2⟩ : S88) : List (S88))).bind fun y1192 => (if 0 < (bt1187.1.length : Int) then ((ratio_plus.f k ((rd_T88 y1192 0).f0) ((rd_T88 y1192 0).f1) ((rd_T88 y1192 0).f2) ((rd_T88 y1192 1).f0) ((rd_T88 y1192 1).f1) ((rd_T88 y1192 1).f2)).bind fun bt1195 => (if (bt1195.2.1.length : Int) = 0 then (some 0) else (if bt1195.1 = true then (some (-1)) else (some 1)))) else (none))) else (none)) else (some 0))) = some r := by first | (rw [hy1184]; with_reducible exact H) | (have H2_ := (Option.bind_some _ _).symm.trans H; rw [hy1184]; with_reducible exact H2_) | (have H2_ := (Option.bind_some _ _).symm.trans H; with_reducible exact H2_) | with_reducible exact H | (rw [hy1184]; exact H) | exact H
 have Ny1184 := Aside0.mk hy1184
 clear hy1184
 replace H := Option.bind_eq_some_iff.mp H
 obtain ⟨⟨t1187, t1188⟩, A30, H⟩ := H
 replace H : (if t1188 = true then _ else _) = _ := H
 have A3 := Aside0.mk A30
 clear A30
 by_cases c4 : t1188 = true
 ·subst c4
  have H1 : (if 1 < (t1187.length : Int) then _ else _) = _ := (if_pos rfl).symm.trans H
  clear H
  have H := H1
  clear H1
  by_cases c5 : 1 < (t1187.length : Int)
  ·rw [if_pos c5] at H
   have c5b0 : decide (1 < (t1187.length : Int)) = true := decide_eq_true c5
   have c5b1 : decide (1 < t1187.length) = true := decide_eq_true (by omega)
   clear c5
   obtain ⟨y1192, hy1192⟩ : ∃ y_ : List (S88), y_ = (t1187.set (1 : Int).toNat (⟨!((rd_T88 t1187 1).f0), (rd_T88 t1187 1).f1, (rd_T88 t1187 1).f2⟩ : S88)) := ⟨_, rfl⟩
   replace H : (if 0 < (t1187.length : Int) then ((ratio_plus.f k ((rd_T88 y1192 0).f0) ((rd_T88 y1192 0).f1) ((rd_T88 y1192 0).f2) ((rd_T88 y1192 1).f0) ((rd_T88 y1192 1).f1) ((rd_T88 y1192 1).f2)).bind fun bt1195 => (if (bt1195.2.1.length : Int) = 0 then (some 0) else (if bt1195.1 = true then (some (-1)) else (some 1)))) else (none)) = some r := by first | (rw [hy1192]; with_reducible exact H) | (have H2_ := (Option.bind_some _ _).symm.trans H; rw [hy1192]; with_reducible exact H2_) | (have H2_ := (Option.bind_some _ _).symm.trans H; with_reducible exact H2_) | with_reducible exact H | (rw [hy1192]; exact H) | exact H
   have Ny1192 := Aside0.mk hy1192
   clear hy1192
   by_cases c7 : 0 < (t1187.length : Int)
   ·rw [if_pos c7] at H
    have c7b0 : decide (0 < (t1187.length : Int)) = true := decide_eq_true c7
    have c7b1 : decide (0 < t1187.length) = true := decide_eq_true (by omega)
    clear c7
    replace H := Option.bind_eq_some_iff.mp H
    obtain ⟨⟨t1195, t1196, t1199⟩, A80, H⟩ := H
    replace H : (if (t1196.length : Int) = 0 then (some 0) else (if t1195 = true then (some (-1)) else (some 1))) = some r := H
    have A8 := Aside0.mk A80
    clear A80
    have HH_ := Aside0.mk H
    clear H
    go_enter Try.func47, Try.ntmps47
    try go_wp2_with (first | ((with_reducible refine gate_dst (N := 2) rfl ?_); refine be (N := 2) (cs := #[.bool a0_0, .string a0_1, .string a0_2]) (t := 35) ?_; intro gb1182 hg w10 hbox hb; have BK1182 := Aside0.mk (hbox); have GW1182 := gw HB hg; have GE1182 := GW1182; replace HB := hs HB hb; clear hb hbox hg) | ((with_reducible refine gate_dst (N := 3) rfl ?_); refine be (N := 3) (cs := #[.bool a1_0, .string a1_1, .string a1_2]) (t := 35) ?_; intro gb1183 hg w11 hbox hb; have BK1183 := Aside0.mk (hbox); have GW1183 := gw HB hg; have GE1183 := GW1183; replace HB := hs HB hb; have NB1182_1183 := na BK1182 hg; have NB1183_1182 := nz NB1182_1183; replace BK1182 := bb BK1182 hb; clear hb hbox hg; have hnb12 := NB1182_1183.out; have hnc12 := NB1183_1182.out; obtain ⟨hcz13_0, hcz13_1, hcz13_2, hfz13_0, hfz13_1, hfz13_2⟩ := z3 BK1182; obtain ⟨hcz14_0, hcz14_1, hcz14_2, hfz14_0, hfz14_1, hfz14_2⟩ := z3 BK1183) | ((with_reducible refine gate_dst (N := 11) rfl ?_); refine Kd.R_lit k35 _ 35 ?hg (N := 11) ?hd (xs := ([(⟨a0_0, a0_1, a0_2⟩ : S35), (⟨a1_0, a1_1, a1_2⟩ : S35)] : List (S35))) (inner := [.bool a0_0, .string a0_1, .string a0_2, .bool a1_0, .string a1_1, .string a1_2]) (ok := fun _ => True) (okp := fun _ => True) ?hr ?hp (fun _ hk => hk) trivial (Below.refl _ _) (Nat.le_refl _) (by simp) ?_; (case hd => rfl); (case hg => rfl); (case hr => first | (go_simp; done) | (go_simp; rfl)); (case hp => exact (Reps.c3 (show Kd.M k35 _ _ _ (⟨a0_0, a0_1, a0_2⟩ : S35) [.bool a0_0, .string a0_1, .string a0_2] from (k35_mkM _ _ _ (⟨a0_0, a0_1, a0_2⟩ : S35) )) (Reps.c3 (show Kd.M k35 _ _ _ (⟨a1_0, a1_1, a1_2⟩ : S35) [.bool a1_0, .string a1_1, .string a1_2] from (k35_mkM _ _ _ (⟨a1_0, a1_1, a1_2⟩ : S35) )) (Reps.none _ _)))); intro v1185 w15 ho16 hb hg_ hnew_; clear hg_ hnew_; (first | rw [← Ny1184.out] at ho16 | (simp only [Int.reduceToNat] at ho16; rw [← Ny1184.out] at ho16)); have HO1186 := Aside0.mk (Kd.R_lower (Kd.R_newB (Kd.R_newB ho16 (g := gb1182) (o := .cells #[.bool a0_0, .string a0_1, .string a0_2] 35 (0, 0)) bk) (g := gb1183) (o := .cells #[.bool a1_0, .string a1_1, .string a1_2] 35 (0, 0)) bk) (below_size bs)); replace BK1182 := bb BK1182 hb; replace BK1183 := bb BK1183 hb; replace HB := hs HB hb; clear hb ho16; obtain ⟨Ao17, co17, eo17⟩ := Kd.R_slice HO1186.out; subst eo17) | ((with_reducible refine gate_callee (f := 82) rfl ?_); refine goesL_ (some 12) rfl rfl Try.func82 (by kernel_rfl) rfl #[.slice Ao17 y1184.length co17] rfl ga ?_; (with_reducible refine (ratio_read.calls k _ _ y1184 t1187 true _ ?side1 ?side2 A3.out).mono ?_); (case side1 => exact cl ((Kd.R_reads' HO1186.out).2.2)); (case side2 => exact (Kd.R_reads' HO1186.out).2.1); rintro e w18 ⟨v1189, rfl, ho0, hb⟩; refine ⟨_, rfl, ?_⟩; replace HO1186 := Aside0.mk (Kd.R_below (rl HO1186) hb); have HO1190 := Aside0.mk (Kd.S_lower ho0 (below_size bs)); replace BK1182 := bb BK1182 hb; replace BK1183 := bb BK1183 hb; replace HB := hs HB hb; (try clear hb); (try clear ho0); obtain ⟨Ao19, co19, eo19⟩ := Kd.S_slice HO1190.out; subst eo19; have p1191 : 0 ≤ (1 : Int) := (by omega); have q1191 : 1 < (t1187.length : Int) := dt; obtain ⟨ad1191, A1191_1, c1191_1, A1191_2, c1191_2, e1191, hx1191_0, hx1191_1, hx1191_2, hl1191_1, hi1191_1, hl1191_2, hi1191_2⟩ := at_T88 (Kd.S_reads' HO1190.out).2.2 1 p1191 q1191; cases e1191; obtain ⟨ce1191, hce1191, hMe1191, hcc1191⟩ := Kd.S_get HO1190.out z88 1 p1191 (by first | exact q1191 | exact dt | (have e_ := (Kd.S_reads' HO1190.out).1; omega)); obtain ⟨ve1191_1, ve1191_2, rfl, ge1191_1, ge1191_2⟩ := k88_openM hMe1191; have hv1191_1 := hcc1191 1 _ rfl; rw [add_field _ _ 1 (by omega)] at hv1191_1; replace hv1191_1 := Option.some.inj (hv1191_1.symm.trans hx1191_1); rw [hv1191_1] at ge1191_1; have HL1191_1 := Aside0.mk (show Kd.R (Kd.int .u32) 117 _ _ _ _ ((rd_T88 t1187 1).f1) from ge1191_1); clear hv1191_1 ge1191_1; have hv1191_2 := hcc1191 2 _ rfl; rw [add_field _ _ 2 (by omega)] at hv1191_2; replace hv1191_2 := Option.some.inj (hv1191_2.symm.trans hx1191_2); rw [hv1191_2] at ge1191_2; have HL1191_2 := Aside0.mk (show Kd.R (Kd.int .u32) 117 _ _ _ _ ((rd_T88 t1187 1).f2) from ge1191_2); clear hv1191_2 ge1191_2; clear hcc1191 hce1191; (try simp only [show (1 : Int).toNat = 1 from rfl, Nat.reduceMul, Nat.reduceEqDiff, Go.Addr.add, ↓reduceIte] at hx1191_0); (try simp only [show (1 : Int).toNat = 1 from rfl, Nat.reduceMul, Nat.reduceEqDiff, Go.Addr.add, ↓reduceIte] at hx1191_1); (try simp only [show (1 : Int).toNat = 1 from rfl, Nat.reduceMul, Nat.reduceEqDiff, Go.Addr.add, ↓reduceIte] at hx1191_2); have qi1191 : (1 < t1187.length) = True := eq_true (by omega); (try rw [show ((1 : Int)).toNat = 1 from rfl] at hx1191_0); (try rw [show 1 * 3 = 3 from rfl] at hx1191_0); (try rw [show ((1 : Int)).toNat = 1 from rfl] at hx1191_1); (try rw [show 1 * 3 = 3 from rfl] at hx1191_1); (try rw [show ((1 : Int)).toNat = 1 from rfl] at hx1191_2); (try rw [show 1 * 3 = 3 from rfl] at hx1191_2); have HR1191_1 := Aside0.mk hi1191_1; have HC1191_1 := Aside0.mk hl1191_1; clear hi1191_1 hl1191_1; have HR1191_2 := Aside0.mk hi1191_2; have HC1191_2 := Aside0.mk hl1191_2; clear hi1191_2 hl1191_2; replace p1191 := eq_true p1191; replace q1191 := eq_true q1191; have p6 : 0 ≤ (1 : Int) := (by omega); have q6 : (1 : Int) < ((t1187.length : Int) : Int) := dt; have qi6 : (1 < t1187.length) = True := eq_true (by omega); obtain ⟨go6, co6, eo6, gb6, gl6, cl6, HG6⟩ := Kd.S_form HO1190.out (by omega); (first | cases eo6 | (injection eo6 with ea_ en_ ec_; (first | subst ea_ | (injection ea_ with ea_; subst ea_)); subst ec_; clear en_)); have GB6 := Aside0.mk gb6; have GG6 := Aside0.mk HG6; clear gb6 gl6 HG6; (first | simp only [add_plain] at hx1191_0 | skip); (first | simp only [add_plain] at hx1191_1 | skip); (first | simp only [add_plain] at hx1191_2 | skip); obtain ⟨_, ce6, hcl6, hM6, hcc6, hfr6, _, _⟩ := Kd.S_elem HO1190.out z88 (1 : Int) p6 q6; obtain ⟨ve6_1, ve6_2, rfl, ge6_1, ge6_2⟩ := k88_openM hM6; have hx6_0 : w18.cell? ⟨go6, (1 : Int).toNat * 3, none⟩ = some (.bool ((rd_T88 t1187 1).f0)) := hcc6 0 _ rfl; have hx6_1 : w18.cell? ⟨go6, (1 : Int).toNat * 3 + 1, none⟩ = some (ve6_1) := hcc6 1 _ rfl; have hx6_2 : w18.cell? ⟨go6, (1 : Int).toNat * 3 + 2, none⟩ = some (ve6_2) := hcc6 2 _ rfl; have hf6_0 : w18.frozen? ⟨go6, (1 : Int).toNat * 3, none⟩ = false := hfr6 0; have hf6_1 : w18.frozen? ⟨go6, (1 : Int).toNat * 3 + 1, none⟩ = false := hfr6 1; have hf6_2 : w18.frozen? ⟨go6, (1 : Int).toNat * 3 + 2, none⟩ = false := hfr6 2; clear hcl6 hcc6 hfr6 hM6; (try rw [show ((1 : Int)).toNat = 1 from rfl] at hx6_0); (try simp only [Nat.reduceMul, Nat.zero_mul, Nat.zero_add, Nat.reduceAdd] at hx6_0); (try rw [show ((1 : Int)).toNat = 1 from rfl] at hf6_0); (try simp only [Nat.reduceMul, Nat.zero_mul, Nat.zero_add, Nat.reduceAdd] at hf6_0); (try rw [show ((1 : Int)).toNat = 1 from rfl] at hx6_1); (try simp only [Nat.reduceMul, Nat.zero_mul, Nat.zero_add, Nat.reduceAdd] at hx6_1); (try rw [show ((1 : Int)).toNat = 1 from rfl] at hf6_1); (try simp only [Nat.reduceMul, Nat.zero_mul, Nat.zero_add, Nat.reduceAdd] at hf6_1); (try rw [show ((1 : Int)).toNat = 1 from rfl] at hx6_2); (try simp only [Nat.reduceMul, Nat.zero_mul, Nat.zero_add, Nat.reduceAdd] at hx6_2); (try rw [show ((1 : Int)).toNat = 1 from rfl] at hf6_2); (try simp only [Nat.reduceMul, Nat.zero_mul, Nat.zero_add, Nat.reduceAdd] at hf6_2); replace p6 := eq_true p6; replace q6 := eq_true q6; have HX20 := Aside0.mk (show Kd.S k88 88 w18 w.heap.size (fun k_ => ((fun _ => True)) k_ ∧ ¬ ((fun _ => False)) k_) (.slice (some ⟨go6, 0, none⟩) t1187.length co19) t1187 from (by (with_reducible repeat (first | apply Kd.S_alloc | apply Kd.S_drewN | apply Kd.S_drew)); exact Kd.S_mono HO1190.out (fun k_ hk => ⟨trivial, fun e_ => e_⟩))); obtain ⟨oki20, ce20, hcl20, hM20, hcc20, hfr20, hoki20, hH20⟩ := Kd.S_elem HX20.out z88 (1 : Int) (by omega) (by have h_ : (1 : Int) < ((t1187.length : Int) : Int) := dt; first | exact h_ | (have e_ := (Kd.S_reads' HO1190.out).1; omega) | simpa using h_); obtain ⟨ve20_1, ve20_2, rfl, ge20_1, ge20_2⟩ := k88_openM hM20; have HP20 := Kd.S_seg hH20 (by omega) (by have h_ : (1 : Int) < ((t1187.length : Int) : Int) := dt; first | exact h_ | (have e_ := (Kd.S_reads' HO1190.out).1; omega) | simpa using h_) (seg := [.bool (!((rd_T88 t1187 1).f0))]) (j := 0) (show 1 ≤ 3 from by decide) (x' := (⟨!((rd_T88 t1187 1).f0), (rd_T88 t1187 1).f1, (rd_T88 t1187 1).f2⟩ : S88)) (k88_mkM _ _ _ (⟨!((rd_T88 t1187 1).f0), (rd_T88 t1187 1).f1, (rd_T88 t1187 1).f2⟩ : S88) (Kd.R_mono ge20_1 (fun _ h_ => Or.inl h_)) (Kd.R_mono ge20_2 (fun _ h_ => Or.inl h_))) (fun _ hk => hk) (fun k_ hk_ => hk_.elim); have hx20_0 := hcc20 0 _ rfl; (try simp only [show (k88).sz = 3 from rfl, Nat.mul_one, Nat.add_zero] at hx20_0); (try rw [show ((1 : Int)).toNat = 1 from rfl] at hx20_0); (try simp only [Nat.reduceMul, Nat.zero_mul, Nat.zero_add, Nat.reduceAdd] at hx20_0); have hf20_0 := hfr20 0; (try simp only [show (k88).sz = 3 from rfl, Nat.mul_one, Nat.add_zero] at hf20_0); (try rw [show ((1 : Int)).toNat = 1 from rfl] at hf20_0); (try simp only [Nat.reduceMul, Nat.zero_mul, Nat.zero_add, Nat.reduceAdd] at hf20_0); clear hcl20 hcc20 hfr20 hM20 hoki20 hH20) | ((with_reducible refine gate_store (t := 4) (p := 24) rfl ?_); refine store_event (t := 4) (p := 24) (v := ?vo_w21) (w1 := (w18.setCell ⟨go6, 3, none⟩ (.bool (!((rd_T88 t1187 1).f0))))) ?hg ?ho ?hn ?hr ?_; (case ho => rfl); (case hg => rfl); (case hn => rfl); (case hr => first | (go_simp; done) | (go_simp; rfl)); intro w21 hw; have hg : w18.grownBy w21 (some go6) := (by rw [hw]; exact HP20.2); have hp_ : Kd.S k88 88 w21 w.heap.size (fun _ => True) (.slice (some ⟨go6, 0, none⟩) t1187.length co19) y1192 := (by rw [hw, Ny1192.out]; exact HP20.1); clear HP20; replace BK1182 := Aside0.mk (blk_grown (g := gb1182) (o := .cells #[.bool a0_0, .string a0_1, .string a0_2] 35 (0, 0)) bk hg (Kd.S_ne HO1190.out BK1182.out (by decide))); replace BK1183 := Aside0.mk (blk_grown (g := gb1183) (o := .cells #[.bool a1_0, .string a1_1, .string a1_2] 35 (0, 0)) bk hg (Kd.S_ne HO1190.out BK1183.out (by decide))); replace HO1186 := Aside0.mk (Kd.R_over' (v := (.slice (some ⟨go6, 0, none⟩) t1187.length co19)) (rl HO1186) (Kd.S_typed HO1190.out) (by decide) hg); replace HO1190 := Aside0.mk (hp_); replace HL1191_1 := Aside0.mk (Kd.R_after (v := (.slice (some ⟨go6, 0, none⟩) t1187.length co19)) (v1 := (.slice (some ⟨go6, 0, none⟩) t1187.length co19)) (ok := (fun _ => True)) (rl HL1191_1) hg (.inl rfl)); replace HL1191_2 := Aside0.mk (Kd.R_after (v := (.slice (some ⟨go6, 0, none⟩) t1187.length co19)) (v1 := (.slice (some ⟨go6, 0, none⟩) t1187.length co19)) (ok := (fun _ => True)) (rl HL1191_2) hg (.inl rfl)); replace HB := Aside0.mk ((by rw [hw]; exact below_set (HB.out) GB6.out : Below w.heap.size w w21)); clear hg hw hp_))
    replace HO1186 := Aside0.mk (Kd.R_drew HO1186.out)
    replace HO1190 := Aside0.mk (Kd.S_drew HO1190.out)
    replace HL1191_1 := Aside0.mk (Kd.R_drew HL1191_1.out)
    replace HL1191_2 := Aside0.mk (Kd.R_drew HL1191_2.out)
    replace BK1182 := Aside0.mk (blk_drew BK1182.out)
    replace BK1183 := Aside0.mk (blk_drew BK1183.out)
    replace HB := Aside0.mk (below_drew1 HB.out)
    have p1193 : 0 ≤ (0 : Int) := (by omega)
    have q1193 : 0 < (y1192.length : Int) := (by have h_ : (0 : Int) < ((t1187.length : Int) : Int) := dt; first | (have e_ := (Kd.S_reads' HO1190.out).1; omega) | simpa only [Ny1192.out, List.length_set] using h_)
    have ql1193 : ((0 : Int) < ((t1187.length : Int) : Int)) = True := eq_true (dt)
    (try have qn1193 : (0 < t1187.length) = True := eq_true (by have h_ : (0 : Int) < ((t1187.length : Int) : Int) := dt; omega))
    obtain ⟨ad1193, A1193_1, c1193_1, A1193_2, c1193_2, e1193, hx1193_0, hx1193_1, hx1193_2, hl1193_1, hi1193_1, hl1193_2, hi1193_2⟩ := at_T88 (Kd.S_reads' HO1190.out).2.2 0 p1193 q1193
    obtain rfl : (⟨go6, 0, none⟩ : Addr) = ad1193 := (by injection e1193)
    obtain ⟨ce1193, hce1193, hMe1193, hcc1193⟩ := Kd.S_get HO1190.out z88 0 p1193 (by first | exact q1193 | exact dt | (have e_ := (Kd.S_reads' HO1190.out).1; omega))
    obtain ⟨ve1193_1, ve1193_2, rfl, ge1193_1, ge1193_2⟩ := k88_openM hMe1193
    have hv1193_1 := hcc1193 1 _ rfl
    rw [add_field _ _ 1 (by omega)] at hv1193_1
    replace hv1193_1 := Option.some.inj (hv1193_1.symm.trans hx1193_1)
    rw [hv1193_1] at ge1193_1
    have HL1193_1 := Aside0.mk (show Kd.R (Kd.int .u32) 117 _ _ _ _ ((rd_T88 y1192 0).f1) from ge1193_1)
    clear hv1193_1 ge1193_1
    have hv1193_2 := hcc1193 2 _ rfl
    rw [add_field _ _ 2 (by omega)] at hv1193_2
    replace hv1193_2 := Option.some.inj (hv1193_2.symm.trans hx1193_2)
    rw [hv1193_2] at ge1193_2
    have HL1193_2 := Aside0.mk (show Kd.R (Kd.int .u32) 117 _ _ _ _ ((rd_T88 y1192 0).f2) from ge1193_2)
    clear hv1193_2 ge1193_2 hcc1193 hce1193
    (first | simp only [add_plain] at hx1193_0 | simp only [add_at] at hx1193_0 | simp only [Addr.add, Nat.zero_add] at hx1193_0 | skip)
    (first | simp only [add_plain] at hx1193_1 | simp only [add_at] at hx1193_1 | simp only [Addr.add, Nat.zero_add] at hx1193_1 | skip)
    (first | simp only [add_plain] at hx1193_2 | simp only [add_at] at hx1193_2 | simp only [Addr.add, Nat.zero_add] at hx1193_2 | skip)
    have qi1193 : (0 < y1192.length) = True := eq_true (by omega)
    (try rw [show ((0 : Int)).toNat = 0 from rfl] at hx1193_0)
    (try rw [show 0 * 3 = 0 from rfl] at hx1193_0)
    (try rw [Addr.add_zero'] at hx1193_0)
    (try rw [show ((0 : Int)).toNat = 0 from rfl] at hx1193_1)
    (try rw [show 0 * 3 = 0 from rfl] at hx1193_1)
    (try rw [Addr.add_zero'] at hx1193_1)
    (try rw [show ((0 : Int)).toNat = 0 from rfl] at hx1193_2)
    (try rw [show 0 * 3 = 0 from rfl] at hx1193_2)
    (try rw [Addr.add_zero'] at hx1193_2)
    have HR1193_1 := Aside0.mk hi1193_1
    have HC1193_1 := Aside0.mk hl1193_1
    clear hi1193_1 hl1193_1
    have HR1193_2 := Aside0.mk hi1193_2
    have HC1193_2 := Aside0.mk hl1193_2
    clear hi1193_2 hl1193_2
    replace p1193 := eq_true p1193
    replace q1193 := eq_true q1193
    have p1194 : 0 ≤ (1 : Int) := (by omega)
    have q1194 : 1 < (y1192.length : Int) := (by have h_ : (1 : Int) < ((t1187.length : Int) : Int) := dt; first | (have e_ := (Kd.S_reads' HO1190.out).1; omega) | simpa only [Ny1192.out, List.length_set] using h_)
    have ql1194 : ((1 : Int) < ((t1187.length : Int) : Int)) = True := eq_true (dt)
    (try have qn1194 : (1 < t1187.length) = True := eq_true (by have h_ : (1 : Int) < ((t1187.length : Int) : Int) := dt; omega))
    obtain ⟨ad1194, A1194_1, c1194_1, A1194_2, c1194_2, e1194, hx1194_0, hx1194_1, hx1194_2, hl1194_1, hi1194_1, hl1194_2, hi1194_2⟩ := at_T88 (Kd.S_reads' HO1190.out).2.2 1 p1194 q1194
    obtain rfl : (⟨go6, 0, none⟩ : Addr) = ad1194 := (by injection e1194)
    obtain ⟨ce1194, hce1194, hMe1194, hcc1194⟩ := Kd.S_get HO1190.out z88 1 p1194 (by first | exact q1194 | exact dt | (have e_ := (Kd.S_reads' HO1190.out).1; omega))
    obtain ⟨ve1194_1, ve1194_2, rfl, ge1194_1, ge1194_2⟩ := k88_openM hMe1194
    have hv1194_1 := hcc1194 1 _ rfl
    rw [add_field _ _ 1 (by omega)] at hv1194_1
    replace hv1194_1 := Option.some.inj (hv1194_1.symm.trans hx1194_1)
    rw [hv1194_1] at ge1194_1
    have HL1194_1 := Aside0.mk (show Kd.R (Kd.int .u32) 117 _ _ _ _ ((rd_T88 y1192 1).f1) from ge1194_1)
    clear hv1194_1 ge1194_1
    have hv1194_2 := hcc1194 2 _ rfl
    rw [add_field _ _ 2 (by omega)] at hv1194_2
    replace hv1194_2 := Option.some.inj (hv1194_2.symm.trans hx1194_2)
    rw [hv1194_2] at ge1194_2
    have HL1194_2 := Aside0.mk (show Kd.R (Kd.int .u32) 117 _ _ _ _ ((rd_T88 y1192 1).f2) from ge1194_2)
    clear hv1194_2 ge1194_2 hcc1194 hce1194
    (first | simp only [add_plain] at hx1194_0 | simp only [add_at] at hx1194_0 | simp only [Addr.add, Nat.zero_add] at hx1194_0 | skip)
    (first | simp only [add_plain] at hx1194_1 | simp only [add_at] at hx1194_1 | simp only [Addr.add, Nat.zero_add] at hx1194_1 | skip)
    (first | simp only [add_plain] at hx1194_2 | simp only [add_at] at hx1194_2 | simp only [Addr.add, Nat.zero_add] at hx1194_2 | skip)
    have qi1194 : (1 < y1192.length) = True := eq_true (by omega)
    (try rw [show ((1 : Int)).toNat = 1 from rfl] at hx1194_0)
    (try rw [show 1 * 3 = 3 from rfl] at hx1194_0)
    (try rw [show ((1 : Int)).toNat = 1 from rfl] at hx1194_1)
    (try rw [show 1 * 3 = 3 from rfl] at hx1194_1)
    (try rw [show ((1 : Int)).toNat = 1 from rfl] at hx1194_2)
    (try rw [show 1 * 3 = 3 from rfl] at hx1194_2)
    have HR1194_1 := Aside0.mk hi1194_1
    have HC1194_1 := Aside0.mk hl1194_1
    clear hi1194_1 hl1194_1
    have HR1194_2 := Aside0.mk hi1194_2
    have HC1194_2 := Aside0.mk hl1194_2
    clear hi1194_2 hl1194_2
    replace p1194 := eq_true p1194
    replace q1194 := eq_true q1194
    refine start_ (n := 9) (S := fun w' => w'.cell? ⟨go6, 0, none⟩ = some (.bool ((rd_T88 y1192 0).f0)) ∧ w'.cell? ⟨go6, 1, none⟩ = some (.slice A1193_1 ((rd_T88 y1192 0).f1).length c1193_1) ∧ w'.cell? ⟨go6, 2, none⟩ = some (.slice A1193_2 ((rd_T88 y1192 0).f2).length c1193_2) ∧ w'.cell? ⟨go6, 3, none⟩ = some (.bool ((rd_T88 y1192 1).f0)) ∧ w'.cell? ⟨go6, 4, none⟩ = some (.slice A1194_1 ((rd_T88 y1192 1).f1).length c1194_1) ∧ w'.cell? ⟨go6, 5, none⟩ = some (.slice A1194_2 ((rd_T88 y1192 1).f2).length c1194_2)) (ds := []) #[false, false, false, false, false, false, false, false, false] (by kernel_rfl) rfl rfl ⟨hx1193_0, hx1193_1, hx1193_2, hx1194_0, hx1194_1, hx1194_2⟩ (fun hHeld => ?_); refine with_tabW ratio_Compare.tab5 ratio_Compare.bits5 (fun HT_ HW_ => ?_)
    generalize w21.drew = w22 at HO1186 HO1190 HL1191_1 HL1191_2 BK1182 BK1183 HB HL1193_1 HL1193_2 HL1194_1 HL1194_2 HR1193_1 HR1193_2 HR1194_1 HR1194_2 hx1193_0 hx1193_1 hx1193_2 hx1194_0 hx1194_1 hx1194_2 hHeld ⊢
    refine pu (i := 0) (N := some 25) ?_
    refine pu (i := 1) (N := some 26) ?_
    refine pu (i := 3) (N := some 28) ?_
    refine pu (i := 4) (N := some 29) ?_
    refine ta (i := 2) (N := some 27) hHeld ?_
    refine ta (i := 5) (N := some 30) hHeld ?_
    refine join_ (σ := Value × Value × Nat) 1 #[true, true, true, true, true, true, true, true, false] (fun s_ => [(31, .agg #[.bool t1195, s_.1, s_.2.1]), (7, .pointer (some ⟨s_.2.2, 0, none⟩))]) (fun s_ w' => (w'.cell? ⟨go6, 0, none⟩ = some (.bool ((rd_T88 y1192 0).f0)) ∧ w'.cell? ⟨go6, 1, none⟩ = some (.slice A1193_1 ((rd_T88 y1192 0).f1).length c1193_1) ∧ w'.cell? ⟨go6, 2, none⟩ = some (.slice A1193_2 ((rd_T88 y1192 0).f2).length c1193_2) ∧ w'.cell? ⟨go6, 3, none⟩ = some (.bool ((rd_T88 y1192 1).f0)) ∧ w'.cell? ⟨go6, 4, none⟩ = some (.slice A1194_1 ((rd_T88 y1192 1).f1).length c1194_1) ∧ w'.cell? ⟨go6, 5, none⟩ = some (.slice A1194_2 ((rd_T88 y1192 1).f2).length c1194_2)) ∧ (Kd.R (Kd.int .u32) 117 w' w.heap.size (fun k_ => some k_ ≠ (.slice (some ⟨go6, 0, none⟩) t1187.length co19 : Value).ownBlock) (.slice A1191_1 ((rd_T88 t1187 1).f1).length c1191_1) ((rd_T88 t1187 1).f1)) ∧ (Kd.R (Kd.int .u32) 117 w' w.heap.size (fun k_ => some k_ ≠ (.slice (some ⟨go6, 0, none⟩) t1187.length co19 : Value).ownBlock) (.slice A1191_2 ((rd_T88 t1187 1).f2).length c1191_2) ((rd_T88 t1187 1).f2)) ∧ (Kd.R (Kd.int .u32) 117 w' w.heap.size (fun k_ => some k_ ≠ (.slice (some ⟨go6, 0, none⟩) t1187.length co19 : Value).ownBlock) (.slice A1193_1 ((rd_T88 y1192 0).f1).length c1193_1) ((rd_T88 y1192 0).f1)) ∧ (Kd.R (Kd.int .u32) 117 w' w.heap.size (fun k_ => some k_ ≠ (.slice (some ⟨go6, 0, none⟩) t1187.length co19 : Value).ownBlock) (.slice A1193_2 ((rd_T88 y1192 0).f2).length c1193_2) ((rd_T88 y1192 0).f2)) ∧ (Kd.R (Kd.int .u32) 117 w' w.heap.size (fun k_ => some k_ ≠ (.slice (some ⟨go6, 0, none⟩) t1187.length co19 : Value).ownBlock) (.slice A1194_1 ((rd_T88 y1192 1).f1).length c1194_1) ((rd_T88 y1192 1).f1)) ∧ (Kd.R (Kd.int .u32) 117 w' w.heap.size (fun k_ => some k_ ≠ (.slice (some ⟨go6, 0, none⟩) t1187.length co19 : Value).ownBlock) (.slice A1194_2 ((rd_T88 y1192 1).f2).length c1194_2) ((rd_T88 y1192 1).f2)) ∧ (Kd.R k35 35 w' w.heap.size (fun k_ => k_ ≠ gb1182 ∧ k_ ≠ gb1183) (.slice Ao17 y1184.length co17) y1184) ∧ (Kd.S k88 88 w' w.heap.size (fun k_ => k_ ≠ s_.2.2) (.slice (some ⟨go6, 0, none⟩) t1187.length co19) y1192) ∧ (Kd.V (Kd.int .u32) 117 w' w.heap.size (fun k_ => some k_ ≠ (.slice Ao17 y1184.length co17 : Value).ownBlock ∧ some k_ ≠ (.slice (some ⟨go6, 0, none⟩) t1187.length co19 : Value).ownBlock ∧ k_ ≠ gb1182 ∧ k_ ≠ gb1183 ∧ k_ ≠ s_.2.2) s_.1 t1196) ∧ (Kd.V (Kd.int .u32) 117 w' w.heap.size (fun k_ => some k_ ≠ (.slice Ao17 y1184.length co17 : Value).ownBlock ∧ some k_ ≠ (.slice (some ⟨go6, 0, none⟩) t1187.length co19 : Value).ownBlock ∧ k_ ≠ gb1182 ∧ k_ ≠ gb1183 ∧ k_ ≠ s_.2.2) s_.2.1 t1199) ∧ (w'.heap[gb1182]? = some (.cells #[.bool a0_0, .string a0_1, .string a0_2] 35 (0, 0))) ∧ (w'.heap[gb1183]? = some (.cells #[.bool a1_0, .string a1_1, .string a1_2] 35 (0, 0))) ∧ (w'.heap[s_.2.2]? = some (.cells #[.bool false, .slice none 0 0, .slice none 0 0] 88 (0, 0))) ∧ (w.heap.size ≤ s_.2.2) ∧ (w.heap.size ≤ s_.2.2) ∧ (gb1182 ≠ s_.2.2) ∧ (s_.2.2 ≠ gb1182) ∧ (gb1183 ≠ s_.2.2) ∧ (s_.2.2 ≠ gb1183) ∧ (Below w.heap.size w w')) ?_ ?_
    rotate_left
    ·intro hCont
     refine two_ (i := 6) (j := 7) (Ni := some 31) (Nj := some 7) #[true, true, true, true, true, true, true, false, false] #[true, true, true, true, true, true, false, true, false] rfl rfl rfl rfl (two_of HT_.out (by kernel_rfl)) (by decide) (by decide) (fun K hK => ?_) (fun K hK => ?_)
     ·skip
      refine goes_ Try.func105 (by kernel_rfl) rfl #[.agg #[.bool ((rd_T88 y1192 0).f0), .slice A1193_1 ((rd_T88 y1192 0).f1).length c1193_1, .slice A1193_2 ((rd_T88 y1192 0).f2).length c1193_2], .agg #[.bool ((rd_T88 y1192 1).f0), .slice A1194_1 ((rd_T88 y1192 1).f1).length c1194_1, .slice A1194_2 ((rd_T88 y1192 1).f2).length c1194_2]] (by rfl) rfl rfl ga ?_
      with_reducible refine (ratio_plus.calls k ((rd_T88 y1192 0).f0) _ _ ((rd_T88 y1192 0).f1) _ _ ((rd_T88 y1192 0).f2) ((rd_T88 y1192 1).f0) _ _ ((rd_T88 y1192 1).f1) _ _ ((rd_T88 y1192 1).f2) t1195 t1196 t1199 _ ?side1 ?side2 ?side3 ?side4 ?side5 ?side6 ?side7 ?side8 A8.out).mono ?_
      (case side1 => repeat (first | exact (cl HR1193_1.out) | (with_reducible refine Kd.C_alloc ?_ _) | (with_reducible refine Kd.C_drewN ?_ _) | (with_reducible refine Kd.C_drew ?_)))
      (case side2 => exact HC1193_1.out)
      (case side3 => repeat (first | exact (cl HR1193_2.out) | (with_reducible refine Kd.C_alloc ?_ _) | (with_reducible refine Kd.C_drewN ?_ _) | (with_reducible refine Kd.C_drew ?_)))
      (case side4 => exact HC1193_2.out)
      (case side5 => repeat (first | exact (cl HR1194_1.out) | (with_reducible refine Kd.C_alloc ?_ _) | (with_reducible refine Kd.C_drewN ?_ _) | (with_reducible refine Kd.C_drew ?_)))
      (case side6 => exact HC1194_1.out)
      (case side7 => repeat (first | exact (cl HR1194_2.out) | (with_reducible refine Kd.C_alloc ?_ _) | (with_reducible refine Kd.C_drewN ?_ _) | (with_reducible refine Kd.C_drew ?_)))
      (case side8 => exact HC1194_2.out)
      rintro e w23 ⟨v1197, v1200, rfl, ho0, ho1, hb⟩
      have HS0_ := (hb.cell (World.block_lt_of_cell? _ _ (hHeld.1))).trans (hHeld.1)
      have HS1_ := (hb.cell (World.block_lt_of_cell? _ _ (hHeld.2.1))).trans (hHeld.2.1)
      have HS2_ := (hb.cell (World.block_lt_of_cell? _ _ (hHeld.2.2.1))).trans (hHeld.2.2.1)
      have HS3_ := (hb.cell (World.block_lt_of_cell? _ _ (hHeld.2.2.2.1))).trans (hHeld.2.2.2.1)
      have HS4_ := (hb.cell (World.block_lt_of_cell? _ _ (hHeld.2.2.2.2.1))).trans (hHeld.2.2.2.2.1)
      have HS5_ := (hb.cell (World.block_lt_of_cell? _ _ (hHeld.2.2.2.2.2))).trans (hHeld.2.2.2.2.2)
      refine ⟨_, rfl, ?_⟩
      replace HL1191_1 := Aside0.mk (Kd.R_below (rl HL1191_1) hb)
      replace HL1191_2 := Aside0.mk (Kd.R_below (rl HL1191_2) hb)
      replace HL1193_1 := Aside0.mk (Kd.R_below (rl HL1193_1) hb)
      replace HL1193_2 := Aside0.mk (Kd.R_below (rl HL1193_2) hb)
      replace HL1194_1 := Aside0.mk (Kd.R_below (rl HL1194_1) hb)
      replace HL1194_2 := Aside0.mk (Kd.R_below (rl HL1194_2) hb)
      have HO1198 := Aside0.mk (Kd.V_lower (Kd.V_mono (ok' := fun k_ => some k_ ≠ (.slice Ao17 y1184.length co17 : Value).ownBlock ∧ some k_ ≠ (.slice (some ⟨go6, 0, none⟩) t1187.length co19 : Value).ownBlock ∧ k_ ≠ gb1182 ∧ k_ ≠ gb1183) ho0 (fun k_ hk_ => ⟨(Kd.fresh' (Kd.R_lt (rl HO1186)) k_ hk_), (Kd.fresh' (Kd.S_lt (by (with_reducible repeat (first | apply Kd.S_alloc | apply Kd.S_drewN | apply Kd.S_drew)); exact HO1190.out)) k_ hk_), (fb BK1182 k_ hk_), (fb BK1183 k_ hk_)⟩)) (below_size bs))
      have HO1201 := Aside0.mk (Kd.V_lower (Kd.V_mono (ok' := fun k_ => some k_ ≠ (.slice Ao17 y1184.length co17 : Value).ownBlock ∧ some k_ ≠ (.slice (some ⟨go6, 0, none⟩) t1187.length co19 : Value).ownBlock ∧ k_ ≠ gb1182 ∧ k_ ≠ gb1183) ho1 (fun k_ hk_ => ⟨(Kd.fresh' (Kd.R_lt (rl HO1186)) k_ hk_), (Kd.fresh' (Kd.S_lt (by (with_reducible repeat (first | apply Kd.S_alloc | apply Kd.S_drewN | apply Kd.S_drew)); exact HO1190.out)) k_ hk_), (fb BK1182 k_ hk_), (fb BK1183 k_ hk_)⟩)) (below_size bs))
      replace HO1186 := Aside0.mk (Kd.R_below (rl HO1186) hb)
      replace HO1190 := Aside0.mk (Kd.S_below (by (with_reducible repeat (first | apply Kd.S_alloc | apply Kd.S_drewN | apply Kd.S_drew)); exact HO1190.out) hb)
      replace BK1182 := bb BK1182 hb
      replace BK1183 := bb BK1183 hb
      replace HR1193_1 := Aside0.mk (Kd.C_below (cl HR1193_1.out) hb)
      replace HR1193_2 := Aside0.mk (Kd.C_below (cl HR1193_2.out) hb)
      replace HR1194_1 := Aside0.mk (Kd.C_below (cl HR1194_1.out) hb)
      replace HR1194_2 := Aside0.mk (Kd.C_below (cl HR1194_2.out) hb)
      replace HB := hs HB hb
      (try clear hb)
      (try clear hb2)
      (try clear hk)
      (try clear hi)
      (try clear ho0)
      (try clear ho1)
      refine hK.out _ _ ⟨HS0_, HS1_, HS2_, HS3_, HS4_, HS5_⟩ (fun hHeld => ?_)
      clear hK K
      refine norm_ (a' := ?_) ?_ ?_
      rotate_left
      ·show Act.put _ (some 31) _ = _
       simp only [Act.put, List.setIfInBounds_toArray, List.set_cons_zero, List.set_cons_succ, i64_w, i32_w]
       rfl
      refine on (i := 7) (N := some 7) (fun K hK => ?_)
      refine box_step ?hg (N := 7) ?hd (cs := #[.bool false, .slice none 0 0, .slice none 0 0]) (t := 88) ?hr ?_; (case hd => rfl); (case hg => rfl); (case hr => first | (go_simp; done) | (go_simp; rfl))
      intro gb1202 hg w24 hbox hb
      have HS0_ := (hb.cell (World.block_lt_of_cell? _ _ (hHeld.1))).trans (hHeld.1)
      have HS1_ := (hb.cell (World.block_lt_of_cell? _ _ (hHeld.2.1))).trans (hHeld.2.1)
      have HS2_ := (hb.cell (World.block_lt_of_cell? _ _ (hHeld.2.2.1))).trans (hHeld.2.2.1)
      have HS3_ := (hb.cell (World.block_lt_of_cell? _ _ (hHeld.2.2.2.1))).trans (hHeld.2.2.2.1)
      have HS4_ := (hb.cell (World.block_lt_of_cell? _ _ (hHeld.2.2.2.2.1))).trans (hHeld.2.2.2.2.1)
      have HS5_ := (hb.cell (World.block_lt_of_cell? _ _ (hHeld.2.2.2.2.2))).trans (hHeld.2.2.2.2.2)
      replace HO1186 := Aside0.mk (Kd.R_below (rl HO1186) hb)
      replace HO1190 := Aside0.mk (Kd.S_below (Kd.S_elderB (by (with_reducible repeat (first | apply Kd.S_alloc | apply Kd.S_drewN | apply Kd.S_drew)); exact HO1190.out) gb1202 (Nat.le_of_eq hg.symm)) hb)
      replace HL1191_1 := Aside0.mk (Kd.R_below (rl HL1191_1) hb)
      replace HL1191_2 := Aside0.mk (Kd.R_below (rl HL1191_2) hb)
      replace HL1193_1 := Aside0.mk (Kd.R_below (rl HL1193_1) hb)
      replace HL1193_2 := Aside0.mk (Kd.R_below (rl HL1193_2) hb)
      replace HL1194_1 := Aside0.mk (Kd.R_below (rl HL1194_1) hb)
      replace HL1194_2 := Aside0.mk (Kd.R_below (rl HL1194_2) hb)
      replace HO1198 := Aside0.mk (Kd.V_below (Kd.V_elderB (vl HO1198) gb1202 (Nat.le_of_eq hg.symm)) hb)
      replace HO1201 := Aside0.mk (Kd.V_below (Kd.V_elderB (vl HO1201) gb1202 (Nat.le_of_eq hg.symm)) hb)
      replace HR1193_1 := Aside0.mk (Kd.C_below (cl HR1193_1.out) hb)
      replace HR1193_2 := Aside0.mk (Kd.C_below (cl HR1193_2.out) hb)
      replace HR1194_1 := Aside0.mk (Kd.C_below (cl HR1194_1.out) hb)
      replace HR1194_2 := Aside0.mk (Kd.C_below (cl HR1194_2.out) hb)
      have GW1202 := Aside0.mk ((by rw [hg]; exact (below_size bs) : w.heap.size ≤ gb1202))
      have GE1202 := Aside0.mk ((by rw [hg]; exact (below_size bs) : w.heap.size ≤ gb1202))
      replace HB := hs HB hb
      have NB1182_1202 := Aside0.mk ((by rw [hg]; exact Nat.ne_of_lt (blk_lt (g := gb1182) (o := .cells #[.bool a0_0, .string a0_1, .string a0_2] 35 (0, 0)) bk) : gb1182 ≠ gb1202))
      have NB1202_1182 := Aside0.mk ((by rw [hg]; exact Nat.ne_of_gt (blk_lt (g := gb1182) (o := .cells #[.bool a0_0, .string a0_1, .string a0_2] 35 (0, 0)) bk) : gb1202 ≠ gb1182))
      have NB1183_1202 := Aside0.mk ((by rw [hg]; exact Nat.ne_of_lt (blk_lt (g := gb1183) (o := .cells #[.bool a1_0, .string a1_1, .string a1_2] 35 (0, 0)) bk) : gb1183 ≠ gb1202))
      have NB1202_1183 := Aside0.mk ((by rw [hg]; exact Nat.ne_of_gt (blk_lt (g := gb1183) (o := .cells #[.bool a1_0, .string a1_1, .string a1_2] 35 (0, 0)) bk) : gb1202 ≠ gb1183))
      replace BK1182 := bb BK1182 hb
      replace BK1183 := bb BK1183 hb
      have BK1202 := Aside0.mk (hbox)
      clear hb hbox hg
      refine hK.out _ _ ⟨HS0_, HS1_, HS2_, HS3_, HS4_, HS5_⟩ (fun hHeld => ?_)
      clear hK K
      refine norm_ (a' := ?_) ?_ ?_
      rotate_left
      ·show Act.put _ (some 7) _ = _
       simp only [Act.put, List.setIfInBounds_toArray, List.set_cons_zero, List.set_cons_succ, i64_w, i32_w]
       rfl
      exact norm_ (by simp only [putAll, Act.put, List.setIfInBounds_toArray, List.set_cons_zero, List.set_cons_succ]) (hCont (v1197, v1200, gb1202) _ ⟨hHeld, (by (with_reducible repeat (first | apply Kd.R_alloc | apply Kd.R_drewN | apply Kd.R_drew)); exact Kd.R_mono HL1191_1.out (fun _ hk => hk.2)), (by (with_reducible repeat (first | apply Kd.R_alloc | apply Kd.R_drewN | apply Kd.R_drew)); exact Kd.R_mono HL1191_2.out (fun _ hk => hk.2)), (by (with_reducible repeat (first | apply Kd.R_alloc | apply Kd.R_drewN | apply Kd.R_drew)); exact Kd.R_mono HL1193_1.out (fun _ hk => hk.2)), (by (with_reducible repeat (first | apply Kd.R_alloc | apply Kd.R_drewN | apply Kd.R_drew)); exact Kd.R_mono HL1193_2.out (fun _ hk => hk.2)), (by (with_reducible repeat (first | apply Kd.R_alloc | apply Kd.R_drewN | apply Kd.R_drew)); exact Kd.R_mono HL1194_1.out (fun _ hk => hk.2)), (by (with_reducible repeat (first | apply Kd.R_alloc | apply Kd.R_drewN | apply Kd.R_drew)); exact Kd.R_mono HL1194_2.out (fun _ hk => hk.2)), (by (with_reducible repeat (first | apply Kd.R_alloc | apply Kd.R_drewN | apply Kd.R_drew)); exact Kd.R_mono HO1186.out (fun _ hk => ⟨hk.1.2, hk.2⟩)), (by (with_reducible repeat (first | apply Kd.S_alloc | apply Kd.S_drewN | apply Kd.S_drew)); exact Kd.S_mono HO1190.out (fun _ hk => hk.2)), (by (with_reducible repeat (first | apply Kd.V_alloc | apply Kd.V_drewN | apply Kd.V_drew)); exact Kd.V_mono HO1198.out (fun _ hk => ⟨hk.1.1, ⟨hk.1.2.1, ⟨hk.1.2.2.1, ⟨hk.1.2.2.2, hk.2⟩⟩⟩⟩)), (by (with_reducible repeat (first | apply Kd.V_alloc | apply Kd.V_drewN | apply Kd.V_drew)); exact Kd.V_mono HO1201.out (fun _ hk => ⟨hk.1.1, ⟨hk.1.2.1, ⟨hk.1.2.2.1, ⟨hk.1.2.2.2, hk.2⟩⟩⟩⟩)), bk, bk, bk, GW1202.out, GE1202.out, NB1182_1202.out, NB1202_1182.out, NB1183_1202.out, NB1202_1183.out, bs⟩)
     ·skip
      refine box_step ?hg (N := 7) ?hd (cs := #[.bool false, .slice none 0 0, .slice none 0 0]) (t := 88) ?hr ?_; (case hd => rfl); (case hg => rfl); (case hr => first | (go_simp; done) | (go_simp; rfl))
      intro gb1202 hg w23 hbox hb
      have HS0_ := (hb.cell (World.block_lt_of_cell? _ _ (hHeld.1))).trans (hHeld.1)
      have HS1_ := (hb.cell (World.block_lt_of_cell? _ _ (hHeld.2.1))).trans (hHeld.2.1)
      have HS2_ := (hb.cell (World.block_lt_of_cell? _ _ (hHeld.2.2.1))).trans (hHeld.2.2.1)
      have HS3_ := (hb.cell (World.block_lt_of_cell? _ _ (hHeld.2.2.2.1))).trans (hHeld.2.2.2.1)
      have HS4_ := (hb.cell (World.block_lt_of_cell? _ _ (hHeld.2.2.2.2.1))).trans (hHeld.2.2.2.2.1)
      have HS5_ := (hb.cell (World.block_lt_of_cell? _ _ (hHeld.2.2.2.2.2))).trans (hHeld.2.2.2.2.2)
      replace HO1186 := Aside0.mk (Kd.R_below (rl HO1186) hb)
      replace HO1190 := Aside0.mk (Kd.S_below (Kd.S_elderB (by (with_reducible repeat (first | apply Kd.S_alloc | apply Kd.S_drewN | apply Kd.S_drew)); exact HO1190.out) gb1202 (Nat.le_of_eq hg.symm)) hb)
      replace HL1191_1 := Aside0.mk (Kd.R_below (rl HL1191_1) hb)
      replace HL1191_2 := Aside0.mk (Kd.R_below (rl HL1191_2) hb)
      replace HL1193_1 := Aside0.mk (Kd.R_below (rl HL1193_1) hb)
      replace HL1193_2 := Aside0.mk (Kd.R_below (rl HL1193_2) hb)
      replace HL1194_1 := Aside0.mk (Kd.R_below (rl HL1194_1) hb)
      replace HL1194_2 := Aside0.mk (Kd.R_below (rl HL1194_2) hb)
      replace HR1193_1 := Aside0.mk (Kd.C_below (cl HR1193_1.out) hb)
      replace HR1193_2 := Aside0.mk (Kd.C_below (cl HR1193_2.out) hb)
      replace HR1194_1 := Aside0.mk (Kd.C_below (cl HR1194_1.out) hb)
      replace HR1194_2 := Aside0.mk (Kd.C_below (cl HR1194_2.out) hb)
      have GW1202 := Aside0.mk ((by rw [hg]; exact (below_size bs) : w.heap.size ≤ gb1202))
      have GE1202 := Aside0.mk ((by rw [hg]; exact (below_size bs) : w.heap.size ≤ gb1202))
      replace HB := hs HB hb
      have NB1182_1202 := Aside0.mk ((by rw [hg]; exact Nat.ne_of_lt (blk_lt (g := gb1182) (o := .cells #[.bool a0_0, .string a0_1, .string a0_2] 35 (0, 0)) bk) : gb1182 ≠ gb1202))
      have NB1202_1182 := Aside0.mk ((by rw [hg]; exact Nat.ne_of_gt (blk_lt (g := gb1182) (o := .cells #[.bool a0_0, .string a0_1, .string a0_2] 35 (0, 0)) bk) : gb1202 ≠ gb1182))
      have NB1183_1202 := Aside0.mk ((by rw [hg]; exact Nat.ne_of_lt (blk_lt (g := gb1183) (o := .cells #[.bool a1_0, .string a1_1, .string a1_2] 35 (0, 0)) bk) : gb1183 ≠ gb1202))
      have NB1202_1183 := Aside0.mk ((by rw [hg]; exact Nat.ne_of_gt (blk_lt (g := gb1183) (o := .cells #[.bool a1_0, .string a1_1, .string a1_2] 35 (0, 0)) bk) : gb1202 ≠ gb1183))
      replace BK1182 := bb BK1182 hb
      replace BK1183 := bb BK1183 hb
      have BK1202 := Aside0.mk (hbox)
      clear hb hbox hg
      refine hK.out _ _ ⟨HS0_, HS1_, HS2_, HS3_, HS4_, HS5_⟩ (fun hHeld => ?_)
      clear hK K
      refine norm_ (a' := ?_) ?_ ?_
      rotate_left
      ·show Act.put _ (some 7) _ = _
       simp only [Act.put, List.setIfInBounds_toArray, List.set_cons_zero, List.set_cons_succ, i64_w, i32_w]
       rfl
      refine on (i := 6) (N := some 31) (fun K hK => ?_)
      refine goes_ Try.func105 (by kernel_rfl) rfl #[.agg #[.bool ((rd_T88 y1192 0).f0), .slice A1193_1 ((rd_T88 y1192 0).f1).length c1193_1, .slice A1193_2 ((rd_T88 y1192 0).f2).length c1193_2], .agg #[.bool ((rd_T88 y1192 1).f0), .slice A1194_1 ((rd_T88 y1192 1).f1).length c1194_1, .slice A1194_2 ((rd_T88 y1192 1).f2).length c1194_2]] (by rfl) rfl rfl ga ?_
      with_reducible refine (ratio_plus.calls k ((rd_T88 y1192 0).f0) _ _ ((rd_T88 y1192 0).f1) _ _ ((rd_T88 y1192 0).f2) ((rd_T88 y1192 1).f0) _ _ ((rd_T88 y1192 1).f1) _ _ ((rd_T88 y1192 1).f2) t1195 t1196 t1199 _ ?side1 ?side2 ?side3 ?side4 ?side5 ?side6 ?side7 ?side8 A8.out).mono ?_
      (case side1 => repeat (first | exact (cl HR1193_1.out) | (with_reducible refine Kd.C_alloc ?_ _) | (with_reducible refine Kd.C_drewN ?_ _) | (with_reducible refine Kd.C_drew ?_)))
      (case side2 => exact HC1193_1.out)
      (case side3 => repeat (first | exact (cl HR1193_2.out) | (with_reducible refine Kd.C_alloc ?_ _) | (with_reducible refine Kd.C_drewN ?_ _) | (with_reducible refine Kd.C_drew ?_)))
      (case side4 => exact HC1193_2.out)
      (case side5 => repeat (first | exact (cl HR1194_1.out) | (with_reducible refine Kd.C_alloc ?_ _) | (with_reducible refine Kd.C_drewN ?_ _) | (with_reducible refine Kd.C_drew ?_)))
      (case side6 => exact HC1194_1.out)
      (case side7 => repeat (first | exact (cl HR1194_2.out) | (with_reducible refine Kd.C_alloc ?_ _) | (with_reducible refine Kd.C_drewN ?_ _) | (with_reducible refine Kd.C_drew ?_)))
      (case side8 => exact HC1194_2.out)
      rintro e w24 ⟨v1197, v1200, rfl, ho0, ho1, hb⟩
      have HS0_ := (hb.cell (World.block_lt_of_cell? _ _ (hHeld.1))).trans (hHeld.1)
      have HS1_ := (hb.cell (World.block_lt_of_cell? _ _ (hHeld.2.1))).trans (hHeld.2.1)
      have HS2_ := (hb.cell (World.block_lt_of_cell? _ _ (hHeld.2.2.1))).trans (hHeld.2.2.1)
      have HS3_ := (hb.cell (World.block_lt_of_cell? _ _ (hHeld.2.2.2.1))).trans (hHeld.2.2.2.1)
      have HS4_ := (hb.cell (World.block_lt_of_cell? _ _ (hHeld.2.2.2.2.1))).trans (hHeld.2.2.2.2.1)
      have HS5_ := (hb.cell (World.block_lt_of_cell? _ _ (hHeld.2.2.2.2.2))).trans (hHeld.2.2.2.2.2)
      refine ⟨_, rfl, ?_⟩
      replace HL1191_1 := Aside0.mk (Kd.R_below (rl HL1191_1) hb)
      replace HL1191_2 := Aside0.mk (Kd.R_below (rl HL1191_2) hb)
      replace HL1193_1 := Aside0.mk (Kd.R_below (rl HL1193_1) hb)
      replace HL1193_2 := Aside0.mk (Kd.R_below (rl HL1193_2) hb)
      replace HL1194_1 := Aside0.mk (Kd.R_below (rl HL1194_1) hb)
      replace HL1194_2 := Aside0.mk (Kd.R_below (rl HL1194_2) hb)
      have HO1198 := Aside0.mk (Kd.V_lower (Kd.V_mono (ok' := fun k_ => some k_ ≠ (.slice Ao17 y1184.length co17 : Value).ownBlock ∧ some k_ ≠ (.slice (some ⟨go6, 0, none⟩) t1187.length co19 : Value).ownBlock ∧ k_ ≠ gb1182 ∧ k_ ≠ gb1183 ∧ k_ ≠ gb1202) ho0 (fun k_ hk_ => ⟨(Kd.fresh' (Kd.R_lt (rl HO1186)) k_ hk_), (Kd.fresh' (Kd.S_lt (by (with_reducible repeat (first | apply Kd.S_alloc | apply Kd.S_drewN | apply Kd.S_drew)); exact HO1190.out)) k_ hk_), (fb BK1182 k_ hk_), (fb BK1183 k_ hk_), (fb BK1202 k_ hk_)⟩)) (below_size bs))
      have HO1201 := Aside0.mk (Kd.V_lower (Kd.V_mono (ok' := fun k_ => some k_ ≠ (.slice Ao17 y1184.length co17 : Value).ownBlock ∧ some k_ ≠ (.slice (some ⟨go6, 0, none⟩) t1187.length co19 : Value).ownBlock ∧ k_ ≠ gb1182 ∧ k_ ≠ gb1183 ∧ k_ ≠ gb1202) ho1 (fun k_ hk_ => ⟨(Kd.fresh' (Kd.R_lt (rl HO1186)) k_ hk_), (Kd.fresh' (Kd.S_lt (by (with_reducible repeat (first | apply Kd.S_alloc | apply Kd.S_drewN | apply Kd.S_drew)); exact HO1190.out)) k_ hk_), (fb BK1182 k_ hk_), (fb BK1183 k_ hk_), (fb BK1202 k_ hk_)⟩)) (below_size bs))
      replace HO1186 := Aside0.mk (Kd.R_below (rl HO1186) hb)
      replace HO1190 := Aside0.mk (Kd.S_below (by (with_reducible repeat (first | apply Kd.S_alloc | apply Kd.S_drewN | apply Kd.S_drew)); exact HO1190.out) hb)
      replace BK1182 := bb BK1182 hb
      replace BK1183 := bb BK1183 hb
      replace HR1193_1 := Aside0.mk (Kd.C_below (cl HR1193_1.out) hb)
      replace HR1193_2 := Aside0.mk (Kd.C_below (cl HR1193_2.out) hb)
      replace HR1194_1 := Aside0.mk (Kd.C_below (cl HR1194_1.out) hb)
      replace HR1194_2 := Aside0.mk (Kd.C_below (cl HR1194_2.out) hb)
      replace BK1202 := bb BK1202 hb
      replace HB := hs HB hb
      (try clear hb)
      (try clear hb2)
      (try clear hk)
      (try clear hi)
      (try clear ho0)
      (try clear ho1)
      refine hK.out _ _ ⟨HS0_, HS1_, HS2_, HS3_, HS4_, HS5_⟩ (fun hHeld => ?_)
      clear hK K
      refine norm_ (a' := ?_) ?_ ?_
      rotate_left
      ·show Act.put _ (some 31) _ = _
       simp only [Act.put, List.setIfInBounds_toArray, List.set_cons_zero, List.set_cons_succ, i64_w, i32_w]
       rfl
      exact norm_ (by simp only [putAll, Act.put, List.setIfInBounds_toArray, List.set_cons_zero, List.set_cons_succ]) (hCont (v1197, v1200, gb1202) _ ⟨hHeld, (by (with_reducible repeat (first | apply Kd.R_alloc | apply Kd.R_drewN | apply Kd.R_drew)); exact Kd.R_mono HL1191_1.out (fun _ hk => hk.2)), (by (with_reducible repeat (first | apply Kd.R_alloc | apply Kd.R_drewN | apply Kd.R_drew)); exact Kd.R_mono HL1191_2.out (fun _ hk => hk.2)), (by (with_reducible repeat (first | apply Kd.R_alloc | apply Kd.R_drewN | apply Kd.R_drew)); exact Kd.R_mono HL1193_1.out (fun _ hk => hk.2)), (by (with_reducible repeat (first | apply Kd.R_alloc | apply Kd.R_drewN | apply Kd.R_drew)); exact Kd.R_mono HL1193_2.out (fun _ hk => hk.2)), (by (with_reducible repeat (first | apply Kd.R_alloc | apply Kd.R_drewN | apply Kd.R_drew)); exact Kd.R_mono HL1194_1.out (fun _ hk => hk.2)), (by (with_reducible repeat (first | apply Kd.R_alloc | apply Kd.R_drewN | apply Kd.R_drew)); exact Kd.R_mono HL1194_2.out (fun _ hk => hk.2)), (by (with_reducible repeat (first | apply Kd.R_alloc | apply Kd.R_drewN | apply Kd.R_drew)); exact Kd.R_mono HO1186.out (fun _ hk => ⟨hk.1.2, hk.2⟩)), (by (with_reducible repeat (first | apply Kd.S_alloc | apply Kd.S_drewN | apply Kd.S_drew)); exact Kd.S_mono HO1190.out (fun _ hk => hk.2)), (vl HO1198), (vl HO1201), bk, bk, bk, GW1202.out, GE1202.out, NB1182_1202.out, NB1202_1182.out, NB1183_1202.out, NB1202_1183.out, bs⟩)
    rintro ⟨v1197, v1200, gb1202⟩ w25 ⟨hS_, h0_, h1_, h2_, h3_, h4_, h5_, h6_, h7_, h8_, h9_, h10_, h11_, h12_, h13_, h14_, h15_, h16_, h17_, h18_, h19_⟩
    have n0_ : Aside0 (Kd.R (Kd.int .u32) 117 w25 w.heap.size (fun k_ => some k_ ≠ (.slice (some ⟨go6, 0, none⟩) t1187.length co19 : Value).ownBlock) (.slice A1191_1 ((rd_T88 t1187 1).f1).length c1191_1) ((rd_T88 t1187 1).f1)) := ⟨h0_⟩
    have n1_ : Aside0 (Kd.R (Kd.int .u32) 117 w25 w.heap.size (fun k_ => some k_ ≠ (.slice (some ⟨go6, 0, none⟩) t1187.length co19 : Value).ownBlock) (.slice A1191_2 ((rd_T88 t1187 1).f2).length c1191_2) ((rd_T88 t1187 1).f2)) := ⟨h1_⟩
    have n2_ : Aside0 (Kd.R (Kd.int .u32) 117 w25 w.heap.size (fun k_ => some k_ ≠ (.slice (some ⟨go6, 0, none⟩) t1187.length co19 : Value).ownBlock) (.slice A1193_1 ((rd_T88 y1192 0).f1).length c1193_1) ((rd_T88 y1192 0).f1)) := ⟨h2_⟩
    have n3_ : Aside0 (Kd.R (Kd.int .u32) 117 w25 w.heap.size (fun k_ => some k_ ≠ (.slice (some ⟨go6, 0, none⟩) t1187.length co19 : Value).ownBlock) (.slice A1193_2 ((rd_T88 y1192 0).f2).length c1193_2) ((rd_T88 y1192 0).f2)) := ⟨h3_⟩
    have n4_ : Aside0 (Kd.R (Kd.int .u32) 117 w25 w.heap.size (fun k_ => some k_ ≠ (.slice (some ⟨go6, 0, none⟩) t1187.length co19 : Value).ownBlock) (.slice A1194_1 ((rd_T88 y1192 1).f1).length c1194_1) ((rd_T88 y1192 1).f1)) := ⟨h4_⟩
    have n5_ : Aside0 (Kd.R (Kd.int .u32) 117 w25 w.heap.size (fun k_ => some k_ ≠ (.slice (some ⟨go6, 0, none⟩) t1187.length co19 : Value).ownBlock) (.slice A1194_2 ((rd_T88 y1192 1).f2).length c1194_2) ((rd_T88 y1192 1).f2)) := ⟨h5_⟩
    have n6_ : Aside0 (Kd.R k35 35 w25 w.heap.size (fun k_ => k_ ≠ gb1182 ∧ k_ ≠ gb1183) (.slice Ao17 y1184.length co17) y1184) := ⟨h6_⟩
    have n7_ : Aside0 (Kd.S k88 88 w25 w.heap.size (fun k_ => k_ ≠ gb1202) (.slice (some ⟨go6, 0, none⟩) t1187.length co19) y1192) := ⟨h7_⟩
    have n8_ : Aside0 (Kd.V (Kd.int .u32) 117 w25 w.heap.size (fun k_ => some k_ ≠ (.slice Ao17 y1184.length co17 : Value).ownBlock ∧ some k_ ≠ (.slice (some ⟨go6, 0, none⟩) t1187.length co19 : Value).ownBlock ∧ k_ ≠ gb1182 ∧ k_ ≠ gb1183 ∧ k_ ≠ gb1202) v1197 t1196) := ⟨h8_⟩
    have n9_ : Aside0 (Kd.V (Kd.int .u32) 117 w25 w.heap.size (fun k_ => some k_ ≠ (.slice Ao17 y1184.length co17 : Value).ownBlock ∧ some k_ ≠ (.slice (some ⟨go6, 0, none⟩) t1187.length co19 : Value).ownBlock ∧ k_ ≠ gb1182 ∧ k_ ≠ gb1183 ∧ k_ ≠ gb1202) v1200 t1199) := ⟨h9_⟩
    have n10_ : Aside0 (w25.heap[gb1182]? = some (.cells #[.bool a0_0, .string a0_1, .string a0_2] 35 (0, 0))) := ⟨h10_⟩
    have n11_ : Aside0 (w25.heap[gb1183]? = some (.cells #[.bool a1_0, .string a1_1, .string a1_2] 35 (0, 0))) := ⟨h11_⟩
    have n12_ : Aside0 (w25.heap[gb1202]? = some (.cells #[.bool false, .slice none 0 0, .slice none 0 0] 88 (0, 0))) := ⟨h12_⟩
    have n13_ : Aside0 (w.heap.size ≤ gb1202) := ⟨h13_⟩
    have n14_ : Aside0 (w.heap.size ≤ gb1202) := ⟨h14_⟩
    have n15_ : Aside0 (gb1182 ≠ gb1202) := ⟨h15_⟩
    have n16_ : Aside0 (gb1202 ≠ gb1182) := ⟨h16_⟩
    have n17_ : Aside0 (gb1183 ≠ gb1202) := ⟨h17_⟩
    have n18_ : Aside0 (gb1202 ≠ gb1183) := ⟨h18_⟩
    have n19_ : Aside0 (Below w.heap.size w w25) := ⟨h19_⟩
    clear HO1186 HO1190 HL1191_1 HL1191_2 BK1182 BK1183 HB h0_ h1_ h2_ h3_ h4_ h5_ h6_ h7_ h8_ h9_ h10_ h11_ h12_ h13_ h14_ h15_ h16_ h17_ h18_ h19_
    have HL1191_1 := n0_
    have HL1191_2 := n1_
    have HL1193_1 := n2_
    have HL1193_2 := n3_
    have HL1194_1 := n4_
    have HL1194_2 := n5_
    have HO1186 := n6_
    have HO1190 := n7_
    have HO1198 := n8_
    have HO1201 := n9_
    have BK1182 := n10_
    have BK1183 := n11_
    have BK1202 := n12_
    have GW1202 := n13_
    have GE1202 := n14_
    have NB1182_1202 := n15_
    have NB1202_1182 := n16_
    have NB1183_1202 := n17_
    have NB1202_1183 := n18_
    have HB := n19_
    clear n0_ n1_ n2_ n3_ n4_ n5_ n6_ n7_ n8_ n9_ n10_ n11_ n12_ n13_ n14_ n15_ n16_ n17_ n18_ n19_
    have hHeld : w25.cell? ⟨go6, 0, none⟩ = some (.bool ((rd_T88 y1192 0).f0)) ∧ w25.cell? ⟨go6, 1, none⟩ = some (.slice A1193_1 ((rd_T88 y1192 0).f1).length c1193_1) ∧ w25.cell? ⟨go6, 2, none⟩ = some (.slice A1193_2 ((rd_T88 y1192 0).f2).length c1193_2) ∧ w25.cell? ⟨go6, 3, none⟩ = some (.bool ((rd_T88 y1192 1).f0)) ∧ w25.cell? ⟨go6, 4, none⟩ = some (.slice A1194_1 ((rd_T88 y1192 1).f1).length c1194_1) ∧ w25.cell? ⟨go6, 5, none⟩ = some (.slice A1194_2 ((rd_T88 y1192 1).f2).length c1194_2) := hS_
    obtain ⟨Ao27, co27, eo27⟩ := Kd.V_slice HO1198.out
    (first | subst eo27 | (injection eo27 with f1_ f2_ f3_; have f4_ := f1_.symm; have f5_ := f3_.symm; clear f1_ f2_ f3_; subst f4_; subst f5_))
    obtain ⟨Ao29, co29, eo29⟩ := Kd.V_slice HO1201.out
    (first | subst eo29 | (injection eo29 with f1_ f2_ f3_; have f4_ := f1_.symm; have f5_ := f3_.symm; clear f1_ f2_ f3_; subst f4_; subst f5_))
    refine norm_ (a' := ?_) ?_ ?_
    rotate_left
    ·simp only [putAll, Act.put, List.setIfInBounds_toArray, List.set_cons_zero, List.set_cons_succ]
     rfl
    refine on (i := 8) (N := none) (fun K hK => ?_)
    have hs26 : w25.cell? ⟨gb1202, 0, none⟩ = some (.bool false) := (blk_cell BK1202.out 0).trans rfl
    have hfs26 := blk_frozen BK1202.out 0
    have hns26_0 := NB1182_1202.out
    have hns26_1 := NB1183_1202.out
    have hms26_0 := NB1202_1182.out
    have hms26_1 := NB1202_1183.out
    have hs28 : w25.cell? ⟨gb1202, 1, none⟩ = some (.slice none 0 0) := (blk_cell BK1202.out 1).trans rfl
    have hfs28 := blk_frozen BK1202.out 1
    have hns28_0 := NB1182_1202.out
    have hns28_1 := NB1183_1202.out
    have hms28_0 := NB1202_1182.out
    have hms28_1 := NB1202_1183.out
    have hs30 : w25.cell? ⟨gb1202, 2, none⟩ = some (.slice none 0 0) := (blk_cell BK1202.out 2).trans rfl
    have hfs30 := blk_frozen BK1202.out 2
    have hns30_0 := NB1182_1202.out
    have hns30_1 := NB1183_1202.out
    have hms30_0 := NB1202_1182.out
    have hms30_1 := NB1202_1183.out
    refine skip_ (w1 := ?_) (by rfl) rfl ?_ ?_
    rotate_left
    ·go_simp
     rfl
    have F_ := Kd.S_away HO1190.out (fun _ hk => hk); refine hK.out _ _ ⟨(cf F_ (cf F_ (cf F_ hHeld.1))), (cf F_ (cf F_ (cf F_ hHeld.2.1))), (cf F_ (cf F_ (cf F_ hHeld.2.2.1))), (cf F_ (cf F_ (cf F_ hHeld.2.2.2.1))), (cf F_ (cf F_ (cf F_ hHeld.2.2.2.2.1))), (cf F_ (cf F_ (cf F_ hHeld.2.2.2.2.2)))⟩ (fun hHeld => ?_)
    clear hK K
    refine done_ (done_of HT_.out (by kernel_rfl)) ?_
    have hnb31 := NB1202_1182.out
    have hnc31 := NB1182_1202.out
    have hnb32 := NB1202_1183.out
    have hnc32 := NB1183_1202.out
    obtain ⟨hcz33_0, hcz33_1, hcz33_2, hfz33_0, hfz33_1, hfz33_2⟩ := z3 BK1202
    have H := HH_.out
    clear HH_
    by_cases c9 : (t1196.length : Int) = 0
    ·rw [if_pos c9] at H
     have c9b0 : ((t1196.length : Int) == 0) = true := beq_iff_eq.mpr c9
     have c9b1 : ((t1196.length : Int) != 0) = false := bne_eq_false_iff_eq.mpr c9
     clear c9
     obtain rfl := Option.some.inj H
     try go_wp2
     go_ret
     exact ⟨er, bs⟩
    ·rw [if_neg c9] at H
     have c9b0 : ((t1196.length : Int) == 0) = false := beq_eq_false_iff_ne.mpr c9
     have c9b1 : ((t1196.length : Int) != 0) = true := bne_iff_ne.mpr c9
     have c9b2 : ¬ (t1196 = []) := fun h_ => c9 (by rw [h_]; rfl)
     by_cases c34 : t1195 = true
     ·subst c34
      have H1 : (some (-1)) = some r := by rw [if_pos rfl] at H; exact H
      clear H
      have H := H1
      clear H1
      obtain rfl := Option.some.inj H
      try go_wp2
      go_ret
      exact ⟨er, bs⟩
     ·replace c34 := Bool.eq_false_iff.mpr c34
      subst c34
      have H1 : (some 1) = some r := by rw [if_neg (show ¬ (false = true) by decide)] at H; exact H
      clear H
      have H := H1
      clear H1
      obtain rfl := Option.some.inj H
      try go_wp2
      go_ret
      exact ⟨er, bs⟩
   ·rw [if_neg c7] at H
    exact absurd H (by simp)
  ·rw [if_neg c5] at H
   exact absurd H (by simp)
 ·replace c4 := Bool.eq_false_iff.mpr c4
  subst c4
  have H1 : (some 0) = some r := by rw [if_neg (show ¬ (false = true) by decide)] at H; exact H
  clear H
  have H := H1
  clear H1
  obtain rfl := Option.some.inj H
  go_enter Try.func47, Try.ntmps47
  go_wp2_with (first | ((with_reducible refine gate_dst (N := 2) rfl ?_); refine be (N := 2) (cs := #[.bool a0_0, .string a0_1, .string a0_2]) (t := 35) ?_; intro gb1182 hg w83 hbox hb; have BK1182 := Aside0.mk (hbox); have GW1182 := gw HB hg; have GE1182 := GW1182; replace HB := hs HB hb; clear hb hbox hg) | ((with_reducible refine gate_dst (N := 3) rfl ?_); refine be (N := 3) (cs := #[.bool a1_0, .string a1_1, .string a1_2]) (t := 35) ?_; intro gb1183 hg w84 hbox hb; have BK1183 := Aside0.mk (hbox); have GW1183 := gw HB hg; have GE1183 := GW1183; replace HB := hs HB hb; have NB1182_1183 := na BK1182 hg; have NB1183_1182 := nz NB1182_1183; replace BK1182 := bb BK1182 hb; clear hb hbox hg; have hnb85 := NB1182_1183.out; have hnc85 := NB1183_1182.out; obtain ⟨hcz86_0, hcz86_1, hcz86_2, hfz86_0, hfz86_1, hfz86_2⟩ := z3 BK1182; obtain ⟨hcz87_0, hcz87_1, hcz87_2, hfz87_0, hfz87_1, hfz87_2⟩ := z3 BK1183) | ((with_reducible refine gate_dst (N := 11) rfl ?_); refine Kd.R_lit k35 _ 35 ?hg (N := 11) ?hd (xs := ([(⟨a0_0, a0_1, a0_2⟩ : S35), (⟨a1_0, a1_1, a1_2⟩ : S35)] : List (S35))) (inner := [.bool a0_0, .string a0_1, .string a0_2, .bool a1_0, .string a1_1, .string a1_2]) (ok := fun _ => True) (okp := fun _ => True) ?hr ?hp (fun _ hk => hk) trivial (Below.refl _ _) (Nat.le_refl _) (by simp) ?_; (case hd => rfl); (case hg => rfl); (case hr => first | (go_simp; done) | (go_simp; rfl)); (case hp => exact (Reps.c3 (show Kd.M k35 _ _ _ (⟨a0_0, a0_1, a0_2⟩ : S35) [.bool a0_0, .string a0_1, .string a0_2] from (k35_mkM _ _ _ (⟨a0_0, a0_1, a0_2⟩ : S35) )) (Reps.c3 (show Kd.M k35 _ _ _ (⟨a1_0, a1_1, a1_2⟩ : S35) [.bool a1_0, .string a1_1, .string a1_2] from (k35_mkM _ _ _ (⟨a1_0, a1_1, a1_2⟩ : S35) )) (Reps.none _ _)))); intro v1185 w88 ho89 hb hg_ hnew_; clear hg_ hnew_; (first | rw [← Ny1184.out] at ho89 | (simp only [Int.reduceToNat] at ho89; rw [← Ny1184.out] at ho89)); have HO1186 := Aside0.mk (Kd.R_lower (Kd.R_newB (Kd.R_newB ho89 (g := gb1182) (o := .cells #[.bool a0_0, .string a0_1, .string a0_2] 35 (0, 0)) bk) (g := gb1183) (o := .cells #[.bool a1_0, .string a1_1, .string a1_2] 35 (0, 0)) bk) (below_size bs)); replace BK1182 := bb BK1182 hb; replace BK1183 := bb BK1183 hb; replace HB := hs HB hb; clear hb ho89; obtain ⟨Ao90, co90, eo90⟩ := Kd.R_slice HO1186.out; subst eo90) | ((with_reducible refine gate_callee (f := 82) rfl ?_); refine goesL_ (some 12) rfl rfl Try.func82 (by kernel_rfl) rfl #[.slice Ao90 y1184.length co90] rfl ga ?_; (with_reducible refine (ratio_read.calls k _ _ y1184 t1187 false _ ?side1 ?side2 A3.out).mono ?_); (case side1 => exact cl ((Kd.R_reads' HO1186.out).2.2)); (case side2 => exact (Kd.R_reads' HO1186.out).2.1); rintro e w91 ⟨v1189, rfl, ho0, hb⟩; refine ⟨_, rfl, ?_⟩; replace HO1186 := Aside0.mk (Kd.R_below (rl HO1186) hb); have HO1190 := Aside0.mk (Kd.S_lower ho0 (below_size bs)); replace BK1182 := bb BK1182 hb; replace BK1183 := bb BK1183 hb; replace HB := hs HB hb; (try clear hb); (try clear ho0)))
  go_ret
  exact ⟨er, bs⟩
end Go.Proofs.Ytccgfmjcldifcaa.P
