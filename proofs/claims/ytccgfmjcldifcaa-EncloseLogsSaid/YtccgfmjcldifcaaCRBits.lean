/- Walks of Go functions: what they compute; each theorem's conditions stand in it. -/
import Derived.Test.YtccgfmjcldifcaaT
import Derived.Test.YtccgfmjcldifcaaCRLog
import Derived.Test.YtccgfmjcldifcaaCRLow
import Derived.Test.YtccgfmjcldifcaaDB
import Derived.Test.YtccgfmjcldifcaaDF
namespace Go.Proofs.Ytccgfmjcldifcaa.P
open Go.RowKit Go.Proofs.YtccgfmjcldifcaaW.PrintWords Go.Proofs.YtccgfmjcldifcaaW.PrintLast Go.Proofs.YtccgfmjcldifcaaW.PrintMore
attribute [local go_sem] max2_int min2_int max_two min_two max_three min_three max_four min_four
set_option linter.unusedVariables false
set_option linter.unusedSimpArgs false
set_option maxHeartbeats 8000000 in
set_option maxRecDepth 100000 in
theorem corporaref37_Bits.calls (k : Nat) (a0_0 : Bool) (a0_1 : ByteArray) (a0_2 : ByteArray) (a1 : Int) (r1 : Bool) (r2 : ByteArray) (r3 : ByteArray) (r4 : Bool) (r5 : ByteArray) (r6 : ByteArray) (r7 : Int) (w : World) (h : corporaref37_Bits.f k a0_0 a0_1 a0_2 a1 = some (r1, r2, r3, r4, r5, r6, r7)) :
  Calls Try.prog 32 #[.agg #[.bool a0_0, .string a0_1, .string a0_2], .int .i64 a1] w fun e w' => e = .returned (.tuple #[.agg #[.bool r1, .string r2, .string r3, .bool r4, .string r5, .string r6], .int .i64 r7]) ∧ Below w.heap.size w w' := by
 have hu35 := Try.underlying35
 have hu44 := Try.underlying44
 have HB := Aside0.mk (Below.refl w.heap.size w)
 have H : Option.bind (corporaref37_Log.f k a0_0 a0_1 a0_2 a1) _ = _ := h
 clear h
 replace H := Option.bind_eq_some_iff.mp H
 obtain ⟨⟨t771, t772, t773⟩, A30, H⟩ := H
 replace H : (if t773 = 0 then _ else _) = _ := H
 have A3 := Aside0.mk A30
 clear A30
 by_cases c4 : t773 = 0
 ·rw [if_pos c4] at H
  have c4b0 : (t773 == 0) = true := beq_iff_eq.mpr c4
  have c4b1 : (t773 != 0) = false := bne_eq_false_iff_eq.mpr c4
  clear c4
  obtain ⟨ji5, hji5⟩ : ∃ j_ : Int, (IntKind.u64.wrap (a1)) = j_ := ⟨_, rfl⟩
  replace H : (if 0 ≤ (ji5) then ((corporaref36_Make.f k t771 (shl .i64 1 (ji5))).bind fun bt774 => ((corporaref36_Make.f k (wrap64 (t771 + 1)) (shl .i64 1 (ji5))).bind fun bt779 => (if t772 = true then (some (bt774.1, bt774.2.1, bt774.2.2.1, bt774.1, bt774.2.1, bt774.2.2.1, 0)) else (some (bt774.1, bt774.2.1, bt774.2.2.1, bt779.1, bt779.2.1, bt779.2.2.1, 0))))) else (none)) = some (r1, r2, r3, r4, r5, r6, r7) := by first | (rw [hji5] at H; exact H) | (simp only [hji5] at H ⊢; exact H)
  (try rw [hji5] at A3)
  by_cases c6 : 0 ≤ (ji5)
  ·rw [if_pos c6] at H
   have c6b0 := eq_true c6
   have c6b1 : decide (0 ≤ (ji5)) = true := decide_eq_true c6
   clear c6
   obtain ⟨ji7, hji7⟩ : ∃ j_ : Int, (shl .i64 1 (ji5)) = j_ := ⟨_, rfl⟩
   replace H : ((corporaref36_Make.f k t771 (ji7)).bind fun bt774 => ((corporaref36_Make.f k (wrap64 (t771 + 1)) (ji7)).bind fun bt779 => (if t772 = true then (some (bt774.1, bt774.2.1, bt774.2.2.1, bt774.1, bt774.2.1, bt774.2.2.1, 0)) else (some (bt774.1, bt774.2.1, bt774.2.2.1, bt779.1, bt779.2.1, bt779.2.2.1, 0))))) = some (r1, r2, r3, r4, r5, r6, r7) := by first | (rw [hji7] at H; exact H) | (simp only [hji7] at H ⊢; exact H)
   (try rw [hji7] at A3)
   have hji7_ : (IntKind.i64.wrap (1 * 2 ^ min (ji5).toNat 64)) = ji7 := hji7
   have hji7z : (ji5) ≤ 64 → (IntKind.i64.wrap (1 * 2 ^ (ji5).toNat)) = ji7 := shl_small hji7
   have hji7u : (IntKind.i64.wrap (2 ^ min (ji5).toNat 64)) = ji7 := by have h_ := hji7_; rw [Int.one_mul] at h_; exact h_
   have hji7v : (ji5) ≤ 64 → (IntKind.i64.wrap (2 ^ (ji5).toNat)) = ji7 := fun hle_ => by have h_ := hji7z hle_; rw [Int.one_mul] at h_; exact h_
   have hji7y : (wrap64 (1 * 2 ^ min (ji5).toNat 64)) = ji7 := (i64_w _).symm.trans hji7_
   have hji7x : (ji5) ≤ 64 → (wrap64 (1 * 2 ^ (ji5).toNat)) = ji7 := fun h_ => (i64_w _).symm.trans (hji7z h_)
   replace H := Option.bind_eq_some_iff.mp H
   obtain ⟨⟨t774, t775, t776, t777⟩, A80, H⟩ := H
   replace H : Option.bind (corporaref36_Make.f k (wrap64 (t771 + 1)) (ji7)) _ = _ := H
   have A8 := Aside0.mk A80
   clear A80
   have c9b0 := eq_true (dt : 0 ≤ (ji5))
   replace H := Option.bind_eq_some_iff.mp H
   obtain ⟨⟨t779, t780, t781, t782⟩, A110, H⟩ := H
   replace H : (if t772 = true then _ else _) = _ := H
   have A11 := Aside0.mk A110
   clear A110
   by_cases c12 : t772 = true
   ·subst c12
    have H1 : (some (t774, t775, t776, t774, t775, t776, 0)) = some (r1, r2, r3, r4, r5, r6, r7) := by rw [if_pos rfl] at H; exact H
    clear H
    have H := H1
    clear H1
    simp only [Option.some.injEq, Prod.mk.injEq] at H
    obtain ⟨rfl, rfl, rfl, rfl, rfl, rfl, rfl⟩ := H
    go_enter Try.func32, Try.ntmps32
    go_upto_region 7 with (first | ((with_reducible refine gate_dst (N := 2) rfl ?_); refine be (N := 2) (cs := #[.bool a0_0, .string a0_1, .string a0_2]) (t := 35) ?_; intro gb769 hg w13 hbox hb; have BK769 := Aside0.mk (hbox); have GW769 := gw HB hg; have GE769 := GW769; replace HB := hs HB hb; clear hb hbox hg) | ((with_reducible refine gate_dst (N := 4) rfl ?_); refine be (N := 4) (cs := #[.bool false, .string (⟨#[]⟩ : ByteArray), .string (⟨#[]⟩ : ByteArray), .bool false, .string (⟨#[]⟩ : ByteArray), .string (⟨#[]⟩ : ByteArray)]) (t := 44) ?_; intro gb770 hg w14 hbox hb; have BK770 := Aside0.mk (hbox); have GW770 := gw HB hg; have GE770 := GW770; replace HB := hs HB hb; have NB769_770 := na BK769 hg; have NB770_769 := nz NB769_770; replace BK769 := bb BK769 hb; clear hb hbox hg; have hnb15 := NB769_770.out; have hnc15 := NB770_769.out; obtain ⟨hcz16_0, hcz16_1, hcz16_2, hfz16_0, hfz16_1, hfz16_2⟩ := z3 BK769) | ((with_reducible refine gate_callee (f := 30) rfl ?_); refine goesL_ (some 16) rfl rfl Try.func30 (by kernel_rfl) rfl #[.agg #[.bool a0_0, .string a0_1, .string a0_2], .int .i64 a1] rfl ga ?_; (with_reducible refine (corporaref37_Log.calls k a0_0 a0_1 a0_2 a1 t771 true t773 _ A3.out).mono ?_); rintro e w17 ⟨rfl, hb⟩; refine ⟨_, rfl, ?_⟩; replace BK769 := bb BK769 hb; replace BK770 := bb BK770 hb; replace HB := hs HB hb; (try clear hb)) | ((with_reducible refine gate_callee (f := 93) rfl ?_); refine goesL_ (some 29) rfl rfl Try.func93 (by kernel_rfl) rfl #[.int .i64 t771, .int .i64 ji7] rfl (by (try simp only [List.map_toArray, List.map_cons, List.map_nil]); first | done | (simp only [hji7]; rfl) | rfl | (simp only [List.length_drop, List.length_take]; rfl)) ?_; (with_reducible refine (corporaref36_Make.calls k t771 ji7 t774 t775 t776 t777 _ A8.out).mono ?_); rintro e w18 ⟨rfl, hb⟩; refine ⟨_, rfl, ?_⟩; replace BK769 := bb BK769 hb; replace BK770 := bb BK770 hb; replace HB := hs HB hb; (try clear hb)) | ((with_reducible refine gate_dst (N := 9) rfl ?_); refine be (N := 9) (cs := #[.bool false, .string (⟨#[]⟩ : ByteArray), .string (⟨#[]⟩ : ByteArray)]) (t := 35) ?_; intro gb778 hg w19 hbox hb; have BK778 := Aside0.mk (hbox); have GW778 := gw HB hg; have GE778 := GW778; replace HB := hs HB hb; have NB769_778 := na BK769 hg; have NB778_769 := nz NB769_778; replace BK769 := bb BK769 hb; have NB770_778 := na BK770 hg; have NB778_770 := nz NB770_778; replace BK770 := bb BK770 hb; clear hb hbox hg; have hnb20 := NB778_769.out; have hnc20 := NB769_778.out; have hnb21 := NB778_770.out; have hnc21 := NB770_778.out; obtain ⟨hcz22_0, hcz22_1, hcz22_2, hfz22_0, hfz22_1, hfz22_2⟩ := z3 BK778) | ((with_reducible refine gate_callee (f := 93) rfl ?_); refine goesL_ (some 38) rfl rfl Try.func93 (by kernel_rfl) rfl #[.int .i64 (wrap64 (t771 + 1)), .int .i64 ji7] rfl (by (try simp only [List.map_toArray, List.map_cons, List.map_nil]); first | done | (simp only [hji7]; rfl) | rfl | (simp only [List.length_drop, List.length_take]; rfl)) ?_; (with_reducible refine (corporaref36_Make.calls k (wrap64 (t771 + 1)) ji7 t779 t780 t781 t782 _ A11.out).mono ?_); rintro e w23 ⟨rfl, hb⟩; refine ⟨_, rfl, ?_⟩; replace BK769 := bb BK769 hb; replace BK770 := bb BK770 hb; replace BK778 := bq BK778 #[.bool t774, .string t775, .string t776] hb; replace HB := hs HB hb; (try clear hb)) | ((with_reducible refine gate_dst (N := 11) rfl ?_); refine be (N := 11) (cs := #[.bool false, .string (⟨#[]⟩ : ByteArray), .string (⟨#[]⟩ : ByteArray)]) (t := 35) ?_; intro gb783 hg w24 hbox hb; have BK783 := Aside0.mk (hbox); have GW783 := gw HB hg; have GE783 := GW783; replace HB := hs HB hb; have NB769_783 := na BK769 hg; have NB783_769 := nz NB769_783; replace BK769 := bb BK769 hb; have NB770_783 := na BK770 hg; have NB783_770 := nz NB770_783; replace BK770 := bb BK770 hb; have NB778_783 := na BK778 hg; have NB783_778 := nz NB778_783; replace BK778 := bb BK778 hb; clear hb hbox hg; have hnb25 := NB783_769.out; have hnc25 := NB769_783.out; have hnb26 := NB783_770.out; have hnc26 := NB770_783.out; have hnb27 := NB783_778.out; have hnc27 := NB778_783.out; obtain ⟨hcz28_0, hcz28_1, hcz28_2, hfz28_0, hfz28_1, hfz28_2⟩ := z3 BK783; obtain ⟨hcz29_0, hcz29_1, hcz29_2, hfz29_0, hfz29_1, hfz29_2⟩ := z3 BK778; have hcz30_0 : w24.cell? ⟨gb770, 0, none⟩ = some (.bool false) := (blk_cell BK770.out 0).trans rfl; have hcz30_1 : w24.cell? ⟨gb770, 1, none⟩ = some (.string (⟨#[]⟩ : ByteArray)) := (blk_cell BK770.out 1).trans rfl; have hcz30_2 : w24.cell? ⟨gb770, 2, none⟩ = some (.string (⟨#[]⟩ : ByteArray)) := (blk_cell BK770.out 2).trans rfl; have hcz30_3 : w24.cell? ⟨gb770, 3, none⟩ = some (.bool false) := (blk_cell BK770.out 3).trans rfl; have hcz30_4 : w24.cell? ⟨gb770, 4, none⟩ = some (.string (⟨#[]⟩ : ByteArray)) := (blk_cell BK770.out 4).trans rfl; have hcz30_5 : w24.cell? ⟨gb770, 5, none⟩ = some (.string (⟨#[]⟩ : ByteArray)) := (blk_cell BK770.out 5).trans rfl; have hfz30_0 := blk_frozen BK770.out 0; have hfz30_1 := blk_frozen BK770.out 1; have hfz30_2 := blk_frozen BK770.out 2; have hfz30_3 := blk_frozen BK770.out 3; have hfz30_4 := blk_frozen BK770.out 4; have hfz30_5 := blk_frozen BK770.out 5))
    obtain ⟨wA, hW⟩ : ∃ x_, ((w24.setCell ⟨gb783, 0, none⟩ (.bool t779)).setCell ⟨gb783, 1, none⟩ (.string t780)).setCell ⟨gb783, 2, none⟩ (.string t781) = x_ := ⟨_, rfl⟩
    have B0 : wA.heap[gb783]? = some (.cells #[.bool t779, .string t780, .string t781] 35 (0, 0)) := by rw [← hW]; exact bw
    have B1 : wA.heap[gb778]? = some (.cells #[.bool t774, .string t775, .string t776] 35 (0, 0)) := by rw [← hW]; exact bw
    have B2 : wA.heap[gb770]? = some (.cells #[.bool false, .string (⟨#[]⟩ : ByteArray), .string (⟨#[]⟩ : ByteArray), .bool false, .string (⟨#[]⟩ : ByteArray), .string (⟨#[]⟩ : ByteArray)] 44 (0, 0)) := by rw [← hW]; exact bw
    have B3 : Below w.heap.size w wA := by rw [← hW]; exact bs
    rw [hW]; clear hW HB BK783 BK778 BK770; have BK783 := Aside0.mk B0; have BK778 := Aside0.mk B1; have BK770 := Aside0.mk B2; have HB := Aside0.mk B3; clear B0 B1 B2 B3
    (try clear hcz28_0 hcz28_1 hcz28_2 hfz28_0 hfz28_1 hfz28_2 hcz29_0 hcz29_1 hcz29_2 hfz29_0 hfz29_1 hfz29_2)
    obtain ⟨hcza_0, hcza_1, hcza_2, hfza_0, hfza_1, hfza_2⟩ := z3 BK783
    obtain ⟨hczb_0, hczb_1, hczb_2, hfzb_0, hfzb_1, hfzb_2⟩ := z3 BK778
    go_upto_region 8 with fail
    obtain ⟨wB, hW⟩ : ∃ x_, ((wA.setCell ⟨gb783, 0, none⟩ (.bool t774)).setCell ⟨gb783, 1, none⟩ (.string t775)).setCell ⟨gb783, 2, none⟩ (.string t776) = x_ := ⟨_, rfl⟩
    have B0 : wB.heap[gb783]? = some (.cells #[.bool t774, .string t775, .string t776] 35 (0, 0)) := by rw [← hW]; exact bw
    have B1 : wB.heap[gb778]? = some (.cells #[.bool t774, .string t775, .string t776] 35 (0, 0)) := by rw [← hW]; exact bw
    have B2 : wB.heap[gb770]? = some (.cells #[.bool false, .string (⟨#[]⟩ : ByteArray), .string (⟨#[]⟩ : ByteArray), .bool false, .string (⟨#[]⟩ : ByteArray), .string (⟨#[]⟩ : ByteArray)] 44 (0, 0)) := by rw [← hW]; exact bw
    have B3 : Below w.heap.size w wB := by rw [← hW]; exact bs
    rw [hW]; clear hW HB BK783 BK778 BK770; have BK783 := Aside0.mk B0; have BK778 := Aside0.mk B1; have BK770 := Aside0.mk B2; have HB := Aside0.mk B3; clear B0 B1 B2 B3
    (try clear hcza_0 hcza_1 hcza_2 hfza_0 hfza_1 hfza_2 hczb_0 hczb_1 hczb_2 hfzb_0 hfzb_1 hfzb_2 hcz30_0 hcz30_1 hcz30_2 hcz30_3 hcz30_4 hcz30_5 hfz30_0 hfz30_1 hfz30_2 hfz30_3 hfz30_4 hfz30_5)
    obtain ⟨hcza_0, hcza_1, hcza_2, hfza_0, hfza_1, hfza_2⟩ := z3 BK783
    obtain ⟨hczb_0, hczb_1, hczb_2, hfzb_0, hfzb_1, hfzb_2⟩ := z3 BK778
    have hczc_0 : wB.cell? ⟨gb770, 0, none⟩ = some (.bool false) := (blk_cell BK770.out 0).trans rfl; have hfzc_0 := blk_frozen BK770.out 0; have hczc_1 : wB.cell? ⟨gb770, 1, none⟩ = some (.string (⟨#[]⟩ : ByteArray)) := (blk_cell BK770.out 1).trans rfl; have hfzc_1 := blk_frozen BK770.out 1; have hczc_2 : wB.cell? ⟨gb770, 2, none⟩ = some (.string (⟨#[]⟩ : ByteArray)) := (blk_cell BK770.out 2).trans rfl; have hfzc_2 := blk_frozen BK770.out 2; have hczc_3 : wB.cell? ⟨gb770, 3, none⟩ = some (.bool false) := (blk_cell BK770.out 3).trans rfl; have hfzc_3 := blk_frozen BK770.out 3; have hczc_4 : wB.cell? ⟨gb770, 4, none⟩ = some (.string (⟨#[]⟩ : ByteArray)) := (blk_cell BK770.out 4).trans rfl; have hfzc_4 := blk_frozen BK770.out 4; have hczc_5 : wB.cell? ⟨gb770, 5, none⟩ = some (.string (⟨#[]⟩ : ByteArray)) := (blk_cell BK770.out 5).trans rfl; have hfzc_5 := blk_frozen BK770.out 5
    go_wp2_with fail
    refine bodyPost_ret (results_ct rfl _ _ gb770 44 #[.bool t774, .string t775, .string t776, .bool t774, .string t775, .string t776] (0, 0) _ rfl bw Try.underlying44 rfl (by kernel_rfl)) rfl ?_
    exact ⟨rfl, bs⟩
   ·replace c12 := Bool.eq_false_iff.mpr c12
    subst c12
    have H1 : (some (t774, t775, t776, t779, t780, t781, 0)) = some (r1, r2, r3, r4, r5, r6, r7) := by rw [if_neg (show ¬ (false = true) by decide)] at H; exact H
    clear H
    have H := H1
    clear H1
    simp only [Option.some.injEq, Prod.mk.injEq] at H
    obtain ⟨rfl, rfl, rfl, rfl, rfl, rfl, rfl⟩ := H
    go_enter Try.func32, Try.ntmps32
    go_wp2_with (first | ((with_reducible refine gate_dst (N := 2) rfl ?_); refine be (N := 2) (cs := #[.bool a0_0, .string a0_1, .string a0_2]) (t := 35) ?_; intro gb769 hg w31 hbox hb; have BK769 := Aside0.mk (hbox); have GW769 := gw HB hg; have GE769 := GW769; replace HB := hs HB hb; clear hb hbox hg) | ((with_reducible refine gate_dst (N := 4) rfl ?_); refine be (N := 4) (cs := #[.bool false, .string (⟨#[]⟩ : ByteArray), .string (⟨#[]⟩ : ByteArray), .bool false, .string (⟨#[]⟩ : ByteArray), .string (⟨#[]⟩ : ByteArray)]) (t := 44) ?_; intro gb770 hg w32 hbox hb; have BK770 := Aside0.mk (hbox); have GW770 := gw HB hg; have GE770 := GW770; replace HB := hs HB hb; have NB769_770 := na BK769 hg; have NB770_769 := nz NB769_770; replace BK769 := bb BK769 hb; clear hb hbox hg; have hnb33 := NB769_770.out; have hnc33 := NB770_769.out; obtain ⟨hcz34_0, hcz34_1, hcz34_2, hfz34_0, hfz34_1, hfz34_2⟩ := z3 BK769) | ((with_reducible refine gate_callee (f := 30) rfl ?_); refine goesL_ (some 16) rfl rfl Try.func30 (by kernel_rfl) rfl #[.agg #[.bool a0_0, .string a0_1, .string a0_2], .int .i64 a1] rfl ga ?_; (with_reducible refine (corporaref37_Log.calls k a0_0 a0_1 a0_2 a1 t771 false t773 _ A3.out).mono ?_); rintro e w35 ⟨rfl, hb⟩; refine ⟨_, rfl, ?_⟩; replace BK769 := bb BK769 hb; replace BK770 := bb BK770 hb; replace HB := hs HB hb; (try clear hb)) | ((with_reducible refine gate_callee (f := 93) rfl ?_); refine goesL_ (some 29) rfl rfl Try.func93 (by kernel_rfl) rfl #[.int .i64 t771, .int .i64 ji7] rfl (by (try simp only [List.map_toArray, List.map_cons, List.map_nil]); first | done | (simp only [hji7]; rfl) | rfl | (simp only [List.length_drop, List.length_take]; rfl)) ?_; (with_reducible refine (corporaref36_Make.calls k t771 ji7 t774 t775 t776 t777 _ A8.out).mono ?_); rintro e w36 ⟨rfl, hb⟩; refine ⟨_, rfl, ?_⟩; replace BK769 := bb BK769 hb; replace BK770 := bb BK770 hb; replace HB := hs HB hb; (try clear hb)) | ((with_reducible refine gate_dst (N := 9) rfl ?_); refine be (N := 9) (cs := #[.bool false, .string (⟨#[]⟩ : ByteArray), .string (⟨#[]⟩ : ByteArray)]) (t := 35) ?_; intro gb778 hg w37 hbox hb; have BK778 := Aside0.mk (hbox); have GW778 := gw HB hg; have GE778 := GW778; replace HB := hs HB hb; have NB769_778 := na BK769 hg; have NB778_769 := nz NB769_778; replace BK769 := bb BK769 hb; have NB770_778 := na BK770 hg; have NB778_770 := nz NB770_778; replace BK770 := bb BK770 hb; clear hb hbox hg; have hnb38 := NB778_769.out; have hnc38 := NB769_778.out; have hnb39 := NB778_770.out; have hnc39 := NB770_778.out; obtain ⟨hcz40_0, hcz40_1, hcz40_2, hfz40_0, hfz40_1, hfz40_2⟩ := z3 BK778) | ((with_reducible refine gate_callee (f := 93) rfl ?_); refine goesL_ (some 38) rfl rfl Try.func93 (by kernel_rfl) rfl #[.int .i64 (wrap64 (t771 + 1)), .int .i64 ji7] rfl (by (try simp only [List.map_toArray, List.map_cons, List.map_nil]); first | done | (simp only [hji7]; rfl) | rfl | (simp only [List.length_drop, List.length_take]; rfl)) ?_; (with_reducible refine (corporaref36_Make.calls k (wrap64 (t771 + 1)) ji7 t779 t780 t781 t782 _ A11.out).mono ?_); rintro e w41 ⟨rfl, hb⟩; refine ⟨_, rfl, ?_⟩; replace BK769 := bb BK769 hb; replace BK770 := bb BK770 hb; replace BK778 := bq BK778 #[.bool t774, .string t775, .string t776] hb; replace HB := hs HB hb; (try clear hb)) | ((with_reducible refine gate_dst (N := 11) rfl ?_); refine be (N := 11) (cs := #[.bool false, .string (⟨#[]⟩ : ByteArray), .string (⟨#[]⟩ : ByteArray)]) (t := 35) ?_; intro gb783 hg w42 hbox hb; have BK783 := Aside0.mk (hbox); have GW783 := gw HB hg; have GE783 := GW783; replace HB := hs HB hb; have NB769_783 := na BK769 hg; have NB783_769 := nz NB769_783; replace BK769 := bb BK769 hb; have NB770_783 := na BK770 hg; have NB783_770 := nz NB770_783; replace BK770 := bb BK770 hb; have NB778_783 := na BK778 hg; have NB783_778 := nz NB778_783; replace BK778 := bb BK778 hb; clear hb hbox hg; have hnb43 := NB783_769.out; have hnc43 := NB769_783.out; have hnb44 := NB783_770.out; have hnc44 := NB770_783.out; have hnb45 := NB783_778.out; have hnc45 := NB778_783.out; obtain ⟨hcz46_0, hcz46_1, hcz46_2, hfz46_0, hfz46_1, hfz46_2⟩ := z3 BK783; obtain ⟨hcz47_0, hcz47_1, hcz47_2, hfz47_0, hfz47_1, hfz47_2⟩ := z3 BK778; have hcz48_0 : w42.cell? ⟨gb770, 0, none⟩ = some (.bool false) := (blk_cell BK770.out 0).trans rfl; have hcz48_1 : w42.cell? ⟨gb770, 1, none⟩ = some (.string (⟨#[]⟩ : ByteArray)) := (blk_cell BK770.out 1).trans rfl; have hcz48_2 : w42.cell? ⟨gb770, 2, none⟩ = some (.string (⟨#[]⟩ : ByteArray)) := (blk_cell BK770.out 2).trans rfl; have hcz48_3 : w42.cell? ⟨gb770, 3, none⟩ = some (.bool false) := (blk_cell BK770.out 3).trans rfl; have hcz48_4 : w42.cell? ⟨gb770, 4, none⟩ = some (.string (⟨#[]⟩ : ByteArray)) := (blk_cell BK770.out 4).trans rfl; have hcz48_5 : w42.cell? ⟨gb770, 5, none⟩ = some (.string (⟨#[]⟩ : ByteArray)) := (blk_cell BK770.out 5).trans rfl; have hfz48_0 := blk_frozen BK770.out 0; have hfz48_1 := blk_frozen BK770.out 1; have hfz48_2 := blk_frozen BK770.out 2; have hfz48_3 := blk_frozen BK770.out 3; have hfz48_4 := blk_frozen BK770.out 4; have hfz48_5 := blk_frozen BK770.out 5))
    refine bodyPost_ret (results_ct rfl _ _ gb770 44 #[.bool t774, .string t775, .string t776, .bool t779, .string t780, .string t781] (0, 0) _ rfl bw Try.underlying44 rfl (by kernel_rfl)) rfl ?_
    exact ⟨by first | rfl | (simp [errW_none, errW_some] <;> rfl) | (simp only [← hji5, ← hji7]; first | rfl | (simp [errW_none, errW_some] <;> rfl)) | (simp [*, errW_none, errW_some] <;> rfl), bs⟩
  ·rw [if_neg c6] at H
   exact absurd H (by simp)
 ·rw [if_neg c4] at H
  have c4b0 : (t773 == 0) = false := beq_eq_false_iff_ne.mpr c4
  have c4b1 : (t773 != 0) = true := bne_iff_ne.mpr c4
  simp only [Option.some.injEq, Prod.mk.injEq] at H
  obtain ⟨rfl, rfl, rfl, rfl, rfl, rfl, rfl⟩ := H
  go_enter Try.func32, Try.ntmps32
  go_wp2_with (first | ((with_reducible refine gate_dst (N := 2) rfl ?_); refine be (N := 2) (cs := #[.bool a0_0, .string a0_1, .string a0_2]) (t := 35) ?_; intro gb769 hg w49 hbox hb; have BK769 := Aside0.mk (hbox); have GW769 := gw HB hg; have GE769 := GW769; replace HB := hs HB hb; clear hb hbox hg) | ((with_reducible refine gate_dst (N := 4) rfl ?_); refine be (N := 4) (cs := #[.bool false, .string (⟨#[]⟩ : ByteArray), .string (⟨#[]⟩ : ByteArray), .bool false, .string (⟨#[]⟩ : ByteArray), .string (⟨#[]⟩ : ByteArray)]) (t := 44) ?_; intro gb770 hg w50 hbox hb; have BK770 := Aside0.mk (hbox); have GW770 := gw HB hg; have GE770 := GW770; replace HB := hs HB hb; have NB769_770 := na BK769 hg; have NB770_769 := nz NB769_770; replace BK769 := bb BK769 hb; clear hb hbox hg; have hnb51 := NB769_770.out; have hnc51 := NB770_769.out; obtain ⟨hcz52_0, hcz52_1, hcz52_2, hfz52_0, hfz52_1, hfz52_2⟩ := z3 BK769) | ((with_reducible refine gate_callee (f := 30) rfl ?_); refine goesL_ (some 16) rfl rfl Try.func30 (by kernel_rfl) rfl #[.agg #[.bool a0_0, .string a0_1, .string a0_2], .int .i64 a1] rfl ga ?_; (with_reducible refine (corporaref37_Log.calls k a0_0 a0_1 a0_2 a1 t771 t772 t773 _ A3.out).mono ?_); rintro e w53 ⟨rfl, hb⟩; refine ⟨_, rfl, ?_⟩; replace BK769 := bb BK769 hb; replace BK770 := bb BK770 hb; replace HB := hs HB hb; (try clear hb); have hcz54_0 : w53.cell? ⟨gb770, 0, none⟩ = some (.bool false) := (blk_cell BK770.out 0).trans rfl; have hcz54_1 : w53.cell? ⟨gb770, 1, none⟩ = some (.string (⟨#[]⟩ : ByteArray)) := (blk_cell BK770.out 1).trans rfl; have hcz54_2 : w53.cell? ⟨gb770, 2, none⟩ = some (.string (⟨#[]⟩ : ByteArray)) := (blk_cell BK770.out 2).trans rfl; have hcz54_3 : w53.cell? ⟨gb770, 3, none⟩ = some (.bool false) := (blk_cell BK770.out 3).trans rfl; have hcz54_4 : w53.cell? ⟨gb770, 4, none⟩ = some (.string (⟨#[]⟩ : ByteArray)) := (blk_cell BK770.out 4).trans rfl; have hcz54_5 : w53.cell? ⟨gb770, 5, none⟩ = some (.string (⟨#[]⟩ : ByteArray)) := (blk_cell BK770.out 5).trans rfl; have hfz54_0 := blk_frozen BK770.out 0; have hfz54_1 := blk_frozen BK770.out 1; have hfz54_2 := blk_frozen BK770.out 2; have hfz54_3 := blk_frozen BK770.out 3; have hfz54_4 := blk_frozen BK770.out 4; have hfz54_5 := blk_frozen BK770.out 5))
  refine bodyPost_ret (results_ct rfl _ _ gb770 44 #[.bool false, .string (⟨#[]⟩ : ByteArray), .string (⟨#[]⟩ : ByteArray), .bool false, .string (⟨#[]⟩ : ByteArray), .string (⟨#[]⟩ : ByteArray)] (0, 0) _ rfl bw Try.underlying44 rfl (by kernel_rfl)) rfl ?_
  exact ⟨er, bs⟩
end Go.Proofs.Ytccgfmjcldifcaa.P
