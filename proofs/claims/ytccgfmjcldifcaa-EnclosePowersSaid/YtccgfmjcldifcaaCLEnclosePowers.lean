/- Walks of Go functions: what they compute; each theorem's conditions stand in it. -/
import Derived.Test.YtccgfmjcldifcaaT
import Derived.Test.YtccgfmjcldifcaaCKnown37
import Derived.Test.YtccgfmjcldifcaaCLog
import Derived.Test.YtccgfmjcldifcaaCMade
import Derived.Test.YtccgfmjcldifcaaCRaCmp
import Derived.Test.YtccgfmjcldifcaaCRaMul
import Derived.Test.YtccgfmjcldifcaaCRaQuo
import Derived.Test.YtccgfmjcldifcaaCSome37
import Derived.Test.YtccgfmjcldifcaaDA
import Derived.Test.YtccgfmjcldifcaaDE
import Derived.Test.YtccgfmjcldifcaaDLEnclosePowers
namespace Go.Proofs.Ytccgfmjcldifcaa.P
open Go.RowKit Go.Proofs.YtccgfmjcldifcaaW.PrintWords Go.Proofs.YtccgfmjcldifcaaW.PrintLast Go.Proofs.YtccgfmjcldifcaaW.PrintMore
attribute [local go_sem] max2_int min2_int max_two min_two max_three min_three max_four min_four
set_option linter.unusedVariables false
set_option linter.unusedSimpArgs false
set_option maxHeartbeats 8000000 in
set_option maxRecDepth 100000 in
theorem corporalaw37_EnclosePowers.calls (k : Nat) (A0 : Option Addr) (c0 : Nat) (l0 : List Int) (a1 : Int) (r : Bool) (w : World) (hr0 : Kd.C (Kd.int .i64) w A0 l0.length l0) (hc0 : l0.length ≤ c0) (h : corporalaw37_EnclosePowers.f k l0 a1 = some r) :
  Calls Try.prog 11 #[.slice A0 l0.length c0, .int .i64 a1] w fun e w' => e = .returned (.bool r) ∧ Below w.heap.size w w' := by
 have hu35 := Try.underlying35
 have HR0 := Aside0.mk hr0
 have HC0 := Aside0.mk hc0
 clear hr0 hc0
 have HB := Aside0.mk (Below.refl w.heap.size w)
 have H : Option.bind (corporamade_New.f l0) _ = _ := h
 clear h
 replace H := Option.bind_eq_some_iff.mp H
 obtain ⟨⟨t1256, t1257⟩, A30, H⟩ := H
 replace H : Option.bind (corporalaw37_some.f k t1256 t1257 true) _ = _ := H
 have A3 := Aside0.mk A30
 clear A30
 replace H := Option.bind_eq_some_iff.mp H
 obtain ⟨⟨t1259, t1260, t1261, t1262⟩, A40, H⟩ := H
 replace H : Option.bind (corporamade_Mod.f a1 5) _ = _ := H
 have A4 := Aside0.mk A40
 clear A40
 replace H := Option.bind_eq_some_iff.mp H
 obtain ⟨t1264, A50, H⟩ := H
 replace H : Option.bind (enclose_Log.f k t1259 t1260 t1261 t1264) _ = _ := H
 have A5 := Aside0.mk A50
 clear A50
 replace H := Option.bind_eq_some_iff.mp H
 obtain ⟨⟨t1265, t1266, t1267⟩, A60, H⟩ := H
 replace H : (if t1267 = 0 then (corporalaw37_EnclosePowers.l0 k t1264 t1265 t1266 0 t1259 t1260 t1261) else (some false)) = some r := H
 have A6 := Aside0.mk A60
 clear A60
 by_cases c7 : t1267 = 0
 ·rw [if_pos c7] at H
  have c7b0 : (t1267 == 0) = true := beq_iff_eq.mpr c7
  have c7b1 : (t1267 != 0) = false := bne_eq_false_iff_eq.mpr c7
  clear c7
  have H' := Aside0.mk H
  clear H
  go_enter Try.func11, Try.ntmps11
  go_wp2_with (first | ((with_reducible refine gate_callee (f := 23) rfl ?_); refine goesL_ (some 18) rfl rfl Try.func23 (by kernel_rfl) rfl #[.slice A0 l0.length c0] rfl ga ?_; (with_reducible refine (corporamade_New.calls _ _ l0 t1256 t1257 w _ ?side1 ?side2 ?side3 A3.out).mono ?_); (case side1 => repeat (first | (with_reducible first | exact HB.out | apply below_alloc | apply pw_below_drewN | apply below_drew1) | exact HB.out)); (case side2 => exact HR0.out); (case side3 => exact HC0.out); rintro e w8 ⟨g1258, rfl, hi, hb, hb2⟩; refine ⟨_, rfl, ?_⟩; replace HB := Aside0.mk (hb); have HI1258 := Aside0.mk (hi); (try clear hb); (try clear hb2); (try clear hi)) | ((with_reducible refine gate_callee (f := 24) rfl ?_); refine goesL_ (some 19) rfl rfl Try.func24 (by kernel_rfl) rfl #[.pointer (some ⟨g1258, 0, none⟩), .bool true] rfl ga ?_; (with_reducible refine (corporalaw37_some.calls k g1258 t1256 t1257 true t1259 t1260 t1261 t1262 w _ ?side1 ?side2 A4.out).mono ?_); (case side1 => exact sx HI1258); (case side2 => exact bx); rintro e w9 ⟨rfl, hi, hb, hk⟩; refine ⟨_, rfl, ?_⟩; replace HB := Aside0.mk (hb); replace HI1258 := Aside0.mk (hi); (try clear hb); (try clear hk); (try clear hi)) | ((with_reducible refine gate_dst (N := 5) rfl ?_); refine be (N := 5) (cs := #[.bool false, .string (⟨#[]⟩ : ByteArray), .string (⟨#[]⟩ : ByteArray)]) (t := 35) ?_; intro gb1263 hg w10 hbox hb; have BK1263 := Aside0.mk (hbox); have GW1263 := Aside0.mk (by rw [hg]; exact below_size bx : w.heap.size ≤ gb1263); have GE1263 := GW1263; replace HB := Aside0.mk (below_step bx hb); have NB1258_1263 := Aside0.mk ((by rw [hg]; exact Nat.ne_of_lt (IsS83.lt (sx HI1258)) : g1258 ≠ gb1263)); have NB1263_1258 := Aside0.mk ((by rw [hg]; exact Nat.ne_of_gt (IsS83.lt (sx HI1258)) : gb1263 ≠ g1258)); replace HI1258 := Aside0.mk (IsS83.below (sx HI1258) hb); clear hb hbox hg; have hnb11 := NB1263_1258.out; have hnc11 := NB1258_1263.out; obtain ⟨hcz12_0, hcz12_1, hcz12_2, hfz12_0, hfz12_1, hfz12_2⟩ := z3 BK1263) | ((with_reducible refine gate_callee (f := 25) rfl ?_); refine goesL_ (some 21) rfl rfl Try.func25 (by kernel_rfl) rfl #[.int .i64 a1, .int .i64 5] rfl ga ?_; (with_reducible refine (corporamade_Mod.calls a1 5 t1264 _ A5.out).mono ?_); rintro e w' ⟨rfl, ⟨nd, rfl⟩⟩; refine ⟨_, rfl, ?_⟩) | ((with_reducible refine gate_callee (f := 27) rfl ?_); refine goesL_ (some 25) rfl rfl Try.func27 (by kernel_rfl) rfl #[.agg #[.bool t1259, .string t1260, .string t1261], .int .i64 t1264] rfl ga ?_; (with_reducible refine (enclose_Log.calls k t1259 t1260 t1261 t1264 t1265 t1266 t1267 _ A6.out).mono ?_); rintro e w13 ⟨rfl, hb⟩; refine ⟨_, rfl, ?_⟩; replace BK1263 := bq BK1263 #[.bool t1259, .string t1260, .string t1261] hb; replace HB := Aside0.mk (below_step bx hb); replace HI1258 := Aside0.mk (IsS83.below (sx HI1258) hb); (try clear hb); obtain ⟨hcz14_0, hcz14_1, hcz14_2, hfz14_0, hfz14_1, hfz14_2⟩ := z3 BK1263) | ((with_reducible refine gate_dst (N := 9) rfl ?_); refine be (N := 9) (cs := #[.bool false, .string (⟨#[]⟩ : ByteArray), .string (⟨#[]⟩ : ByteArray)]) (t := 35) ?_; intro gb1268 hg w15 hbox hb; have BK1268 := Aside0.mk (hbox); have GW1268 := Aside0.mk (by rw [hg]; exact below_size bx : w.heap.size ≤ gb1268); have GE1268 := GW1268; replace HB := Aside0.mk (below_step bx hb); have NB1263_1268 := na BK1263 hg; have NB1268_1263 := nz NB1263_1268; replace BK1263 := bb BK1263 hb; have NB1258_1268 := Aside0.mk ((by rw [hg]; exact Nat.ne_of_lt (IsS83.lt (sx HI1258)) : g1258 ≠ gb1268)); have NB1268_1258 := Aside0.mk ((by rw [hg]; exact Nat.ne_of_gt (IsS83.lt (sx HI1258)) : gb1268 ≠ g1258)); replace HI1258 := Aside0.mk (IsS83.below (sx HI1258) hb); clear hb hbox hg; have hnb16 := NB1268_1263.out; have hnc16 := NB1263_1268.out; have hnb17 := NB1268_1258.out; have hnc17 := NB1258_1268.out; obtain ⟨hcz18_0, hcz18_1, hcz18_2, hfz18_0, hfz18_1, hfz18_2⟩ := z3 BK1268))
  go_loopg [10] k (fun kq v10 w' => ∃ (x10_1 : Int) (x1269000_1 : Bool) (x1269001_1 : ByteArray) (x1269002_1 : ByteArray), v10 = .int .i64 x10_1 ∧ Aside0 (corporalaw37_EnclosePowers.l0 kq t1264 t1265 t1266 x10_1 x1269000_1 x1269001_1 x1269002_1 = some r) ∧ Aside0 (kq ≤ k) ∧ Aside0 (w'.heap[gb1263]? = some (.cells #[.bool t1259, .string t1260, .string t1261] 35 (0, 0))) ∧ Aside0 (w'.heap[gb1268]? = some (.cells #[.bool x1269000_1, .string x1269001_1, .string x1269002_1] 35 (0, 0))) ∧ Aside0 (Below w.heap.size w w'))
  case atStart => exact ⟨(0), (t1259), (t1260), (t1261), sv, H', ⟨Nat.le_refl _⟩, ⟨bk⟩, ⟨by (with_reducible repeat (first | refine blk_drewN ?_ _ | refine blk_drew ?_ | refine blk_alloc ?_ _)); refine blk_put (cs := #[.bool t1259, .string t1260, .string (⟨#[]⟩ : ByteArray)]) ?_ 2 _ rfl; (with_reducible repeat (first | refine blk_drewN ?_ _ | refine blk_drew ?_ | refine blk_alloc ?_ _)); refine blk_put (cs := #[.bool t1259, .string (⟨#[]⟩ : ByteArray), .string (⟨#[]⟩ : ByteArray)]) ?_ 1 _ rfl; (with_reducible repeat (first | refine blk_drewN ?_ _ | refine blk_drew ?_ | refine blk_alloc ?_ _)); refine blk_put (cs := #[.bool false, .string (⟨#[]⟩ : ByteArray), .string (⟨#[]⟩ : ByteArray)]) ?_ 0 _ rfl; (with_reducible repeat (first | refine blk_drewN ?_ _ | refine blk_drew ?_ | refine blk_alloc ?_ _)); exact BK1268.out⟩, ⟨bx⟩⟩
  case round =>
   clear H'
   try clear c7b0
   try clear c7b1
   try clear hcz12_0
   try clear hcz12_1
   try clear hcz12_2
   try clear hcz14_0
   try clear hcz14_1
   try clear hcz14_2
   try clear hcz18_0
   try clear hcz18_1
   try clear hcz18_2
   try clear hfz12_0
   try clear hfz12_1
   try clear hfz12_2
   try clear hfz14_0
   try clear hfz14_1
   try clear hfz14_2
   try clear hfz18_0
   try clear hfz18_1
   try clear hfz18_2
   obtain ⟨x10_1, x1269000_1, x1269001_1, x1269002_1, rfl, HA, HK1, BK1263, BK1268, HB⟩ := hrel
   cases gk with
   | zero => exact absurd HA.out (by simp [corporalaw37_EnclosePowers.l0])
   | succ k1 =>
    have H := HA.out
    clear HA
    simp only [corporalaw37_EnclosePowers.l0] at H
    by_cases c19 : x10_1 < t1264
    ·rw [if_pos c19] at H
     have c19b0 : decide (x10_1 < t1264) = true := decide_eq_true c19
     clear c19
     replace H := Option.bind_eq_some_iff.mp H
     obtain ⟨⟨t1269, t1270, t1271, t1272⟩, A200, H⟩ := H
     replace H : (if t1272 = 0 then _ else _) = _ := H
     have A20 := Aside0.mk A200
     clear A200
     by_cases c21 : t1272 = 0
     ·rw [if_pos c21] at H
      have c21b0 : (t1272 == 0) = true := beq_iff_eq.mpr c21
      have c21b1 : (t1272 != 0) = false := bne_eq_false_iff_eq.mpr c21
      clear c21
      have H' := Aside0.mk H
      clear H
      have hnb22 := NB1268_1263.out
      have hnc22 := NB1263_1268.out
      obtain ⟨hcz23_0, hcz23_1, hcz23_2, hfz23_0, hfz23_1, hfz23_2⟩ := z3 BK1268
      go_wp2_with (first | ((with_reducible refine gate_callee (f := 26) rfl ?_); refine goesL_ (some 40) rfl rfl Try.func26 (by kernel_rfl) rfl #[.agg #[.bool x1269000_1, .string x1269001_1, .string x1269002_1], .agg #[.bool x1269000_1, .string x1269001_1, .string x1269002_1]] rfl ga ?_; (with_reducible refine (ratio_Mul.calls k1 x1269000_1 x1269001_1 x1269002_1 x1269000_1 x1269001_1 x1269002_1 t1269 t1270 t1271 t1272 _ A20.out).mono ?_); rintro e w24 ⟨rfl, hb⟩; refine ⟨_, rfl, ?_⟩; replace BK1263 := bb BK1263 hb; replace BK1268 := bb BK1268 hb; replace HB := hs HB hb; (try clear hb); obtain ⟨hcz25_0, hcz25_1, hcz25_2, hfz25_0, hfz25_1, hfz25_2⟩ := z3 BK1268))
      go_roundg k1
      case measure => have := HK1.out; omega
      case rel => exact ⟨(wrap64 (x10_1 + 1)), (t1269), (t1270), (t1271), sv, H', ⟨by have := HK1.out; omega⟩, ⟨bk⟩, ⟨by (with_reducible repeat (first | refine blk_drewN ?_ _ | refine blk_drew ?_ | refine blk_alloc ?_ _)); refine blk_put (cs := #[.bool t1269, .string t1270, .string x1269002_1]) ?_ 2 _ rfl; (with_reducible repeat (first | refine blk_drewN ?_ _ | refine blk_drew ?_ | refine blk_alloc ?_ _)); refine blk_put (cs := #[.bool t1269, .string x1269001_1, .string x1269002_1]) ?_ 1 _ rfl; (with_reducible repeat (first | refine blk_drewN ?_ _ | refine blk_drew ?_ | refine blk_alloc ?_ _)); refine blk_put (cs := #[.bool x1269000_1, .string x1269001_1, .string x1269002_1]) ?_ 0 _ rfl; (with_reducible repeat (first | refine blk_drewN ?_ _ | refine blk_drew ?_ | refine blk_alloc ?_ _)); exact BK1268.out⟩, ⟨bs⟩⟩
     ·rw [if_neg c21] at H
      have c21b0 : (t1272 == 0) = false := beq_eq_false_iff_ne.mpr c21
      have c21b1 : (t1272 != 0) = true := bne_iff_ne.mpr c21
      obtain rfl := Option.some.inj H
      have hnb26 := NB1268_1263.out
      have hnc26 := NB1263_1268.out
      obtain ⟨hcz27_0, hcz27_1, hcz27_2, hfz27_0, hfz27_1, hfz27_2⟩ := z3 BK1268
      go_wp2_with (first | ((with_reducible refine gate_callee (f := 26) rfl ?_); refine goesL_ (some 40) rfl rfl Try.func26 (by kernel_rfl) rfl #[.agg #[.bool x1269000_1, .string x1269001_1, .string x1269002_1], .agg #[.bool x1269000_1, .string x1269001_1, .string x1269002_1]] rfl ga ?_; (with_reducible refine (ratio_Mul.calls k1 x1269000_1 x1269001_1 x1269002_1 x1269000_1 x1269001_1 x1269002_1 t1269 t1270 t1271 t1272 _ A20.out).mono ?_); rintro e w28 ⟨rfl, hb⟩; refine ⟨_, rfl, ?_⟩; replace BK1263 := bb BK1263 hb; replace BK1268 := bb BK1268 hb; replace HB := hs HB hb; (try clear hb); obtain ⟨hcz29_0, hcz29_1, hcz29_2, hfz29_0, hfz29_1, hfz29_2⟩ := z3 BK1268))
      go_ret
      exact ⟨er, bs⟩
    ·rw [if_neg c19] at H
     have c19b0 : decide (x10_1 < t1264) = false := decide_eq_false c19
     clear c19
     have HC30 := Aside0.mk H
     clear H
     go_upto_block 2 with (first | ((with_reducible refine gate_dst (N := 11) rfl ?_); refine be (N := 11) (cs := #[.bool false, .string (⟨#[]⟩ : ByteArray), .string (⟨#[]⟩ : ByteArray)]) (t := 35) ?_; intro gb1273 hg w31 hbox hb; have BK1273 := Aside0.mk (hbox); have GW1273 := gw HB hg; have GE1273 := GW1273; replace HB := hs HB hb; have NB1263_1273 := na BK1263 hg; have NB1273_1263 := nz NB1263_1273; replace BK1263 := bb BK1263 hb; have NB1268_1273 := na BK1268 hg; have NB1273_1268 := nz NB1268_1273; replace BK1268 := bb BK1268 hb; clear hb hbox hg; have hnb32 := NB1273_1263.out; have hnc32 := NB1263_1273.out; have hnb33 := NB1273_1268.out; have hnc33 := NB1268_1273.out; obtain ⟨hcz34_0, hcz34_1, hcz34_2, hfz34_0, hfz34_1, hfz34_2⟩ := z3 BK1273) | ((with_reducible refine gate_dst (N := 12) rfl ?_); refine be (N := 12) (cs := #[.bool false, .string (⟨#[]⟩ : ByteArray), .string (⟨#[]⟩ : ByteArray)]) (t := 35) ?_; intro gb1274 hg w35 hbox hb; have BK1274 := Aside0.mk (hbox); have GW1274 := gw HB hg; have GE1274 := GW1274; replace HB := hs HB hb; have NB1263_1274 := na BK1263 hg; have NB1274_1263 := nz NB1263_1274; replace BK1263 := bb BK1263 hb; have NB1268_1274 := na BK1268 hg; have NB1274_1268 := nz NB1268_1274; replace BK1268 := bb BK1268 hb; have NB1273_1274 := Aside0.mk ((by rw [hg]; exact Nat.ne_of_lt (blk_lt (g := gb1273) (o := .cells #[.bool false, .string (⟨#[50]⟩ : ByteArray), .string (⟨#[49]⟩ : ByteArray)] 35 (0, 0)) bw) : gb1273 ≠ gb1274)); have NB1274_1273 := Aside0.mk ((by rw [hg]; exact Nat.ne_of_gt (blk_lt (g := gb1273) (o := .cells #[.bool false, .string (⟨#[50]⟩ : ByteArray), .string (⟨#[49]⟩ : ByteArray)] 35 (0, 0)) bw) : gb1274 ≠ gb1273)); replace BK1273 := bq BK1273 #[.bool false, .string (⟨#[50]⟩ : ByteArray), .string (⟨#[49]⟩ : ByteArray)] hb; clear hb hbox hg; have hnb36 := NB1274_1263.out; have hnc36 := NB1263_1274.out; have hnb37 := NB1274_1268.out; have hnc37 := NB1268_1274.out; have hnb38 := NB1274_1273.out; have hnc38 := NB1273_1274.out; obtain ⟨hcz39_0, hcz39_1, hcz39_2, hfz39_0, hfz39_1, hfz39_2⟩ := z3 BK1274))
     (try simp only [Act.put, List.setIfInBounds_toArray, List.set_cons_zero, List.set_cons_succ])
     go_cut [] (fun wc => ∃ (kq : Nat) (x1275000_29 : Bool) (x1275001_29 : ByteArray) (x1275002_29 : ByteArray), Aside0 (corporalaw37_EnclosePowers.j2 kq t1265 t1266 x1269000_1 x1269001_1 x1269002_1 false (⟨#[50]⟩ : ByteArray) (⟨#[49]⟩ : ByteArray) x1275000_29 x1275001_29 x1275002_29 = some r) ∧ Aside0 (kq ≤ k1) ∧ Aside0 (wc.heap[gb1263]? = some (.cells #[.bool t1259, .string t1260, .string t1261] 35 (0, 0))) ∧ Aside0 (wc.heap[gb1268]? = some (.cells #[.bool x1269000_1, .string x1269001_1, .string x1269002_1] 35 (0, 0))) ∧ Aside0 (wc.heap[gb1273]? = some (.cells #[.bool false, .string (⟨#[50]⟩ : ByteArray), .string (⟨#[49]⟩ : ByteArray)] 35 (0, 0))) ∧ Aside0 (wc.heap[gb1274]? = some (.cells #[.bool x1275000_29, .string x1275001_29, .string x1275002_29] 35 (0, 0))) ∧ Aside0 (Below w.heap.size w wc))
     case first =>
      have H := HC30.out
      clear HC30
      have H' := Aside0.mk H
      clear H
      go_wp2
      go_loopg [13] k1 (fun kq v13 w' => ∃ (x13_2 : Int) (x1275000_2 : Bool) (x1275001_2 : ByteArray) (x1275002_2 : ByteArray), v13 = .int .i64 x13_2 ∧ Aside0 (corporalaw37_EnclosePowers.l1 kq t1265 t1266 x13_2 x1269000_1 x1269001_1 x1269002_1 false (⟨#[50]⟩ : ByteArray) (⟨#[49]⟩ : ByteArray) x1275000_2 x1275001_2 x1275002_2 = some r) ∧ Aside0 (kq ≤ k1) ∧ Aside0 (w'.heap[gb1263]? = some (.cells #[.bool t1259, .string t1260, .string t1261] 35 (0, 0))) ∧ Aside0 (w'.heap[gb1268]? = some (.cells #[.bool x1269000_1, .string x1269001_1, .string x1269002_1] 35 (0, 0))) ∧ Aside0 (w'.heap[gb1273]? = some (.cells #[.bool false, .string (⟨#[50]⟩ : ByteArray), .string (⟨#[49]⟩ : ByteArray)] 35 (0, 0))) ∧ Aside0 (w'.heap[gb1274]? = some (.cells #[.bool x1275000_2, .string x1275001_2, .string x1275002_2] 35 (0, 0))) ∧ Aside0 (Below w.heap.size w w'))
      case atStart => exact ⟨(0), (false), ((⟨#[49]⟩ : ByteArray)), ((⟨#[49]⟩ : ByteArray)), sv, H', ⟨Nat.le_refl _⟩, ⟨bk⟩, ⟨bk⟩, ⟨bk⟩, ⟨by (with_reducible repeat (first | refine blk_drewN ?_ _ | refine blk_drew ?_ | refine blk_alloc ?_ _)); refine blk_put (cs := #[.bool false, .string (⟨#[49]⟩ : ByteArray), .string (⟨#[]⟩ : ByteArray)]) ?_ 2 _ rfl; (with_reducible repeat (first | refine blk_drewN ?_ _ | refine blk_drew ?_ | refine blk_alloc ?_ _)); refine blk_put (cs := #[.bool false, .string (⟨#[]⟩ : ByteArray), .string (⟨#[]⟩ : ByteArray)]) ?_ 1 _ rfl; (with_reducible repeat (first | refine blk_drewN ?_ _ | refine blk_drew ?_ | refine blk_alloc ?_ _)); refine blk_put (cs := #[.bool false, .string (⟨#[]⟩ : ByteArray), .string (⟨#[]⟩ : ByteArray)]) ?_ 0 _ rfl; (with_reducible repeat (first | refine blk_drewN ?_ _ | refine blk_drew ?_ | refine blk_alloc ?_ _)); exact BK1274.out⟩, ⟨bs⟩⟩
      case round =>
       clear H'
       try clear c7b0
       try clear c7b1
       try clear c19b0
       try clear c21b0
       try clear c21b1
       try clear hcz12_0
       try clear hcz12_1
       try clear hcz12_2
       try clear hcz14_0
       try clear hcz14_1
       try clear hcz14_2
       try clear hcz18_0
       try clear hcz18_1
       try clear hcz18_2
       try clear hcz23_0
       try clear hcz23_1
       try clear hcz23_2
       try clear hcz25_0
       try clear hcz25_1
       try clear hcz25_2
       try clear hcz27_0
       try clear hcz27_1
       try clear hcz27_2
       try clear hcz29_0
       try clear hcz29_1
       try clear hcz29_2
       try clear hcz34_0
       try clear hcz34_1
       try clear hcz34_2
       try clear hcz39_0
       try clear hcz39_1
       try clear hcz39_2
       try clear hfz12_0
       try clear hfz12_1
       try clear hfz12_2
       try clear hfz14_0
       try clear hfz14_1
       try clear hfz14_2
       try clear hfz18_0
       try clear hfz18_1
       try clear hfz18_2
       try clear hfz23_0
       try clear hfz23_1
       try clear hfz23_2
       try clear hfz25_0
       try clear hfz25_1
       try clear hfz25_2
       try clear hfz27_0
       try clear hfz27_1
       try clear hfz27_2
       try clear hfz29_0
       try clear hfz29_1
       try clear hfz29_2
       try clear hfz34_0
       try clear hfz34_1
       try clear hfz34_2
       try clear hfz39_0
       try clear hfz39_1
       try clear hfz39_2
       obtain ⟨x13_2, x1275000_2, x1275001_2, x1275002_2, rfl, HA, HK2, BK1263, BK1268, BK1273, BK1274, HB⟩ := hrel
       cases gk with
       | zero => exact absurd HA.out (by simp [corporalaw37_EnclosePowers.l1])
       | succ k2 =>
        have H := HA.out
        clear HA
        simp only [corporalaw37_EnclosePowers.l1] at H
        by_cases c40 : x13_2 < t1265
        ·rw [if_pos c40] at H
         have c40b0 : decide (x13_2 < t1265) = true := decide_eq_true c40
         clear c40
         (first | rw [c40b0] | (simp only [i64_w, i32_w]; rw [c40b0]) | skip)
         by_cases c41 : x13_2 < 2000
         ·rw [if_pos c41] at H
          have c41b0 : decide (x13_2 < 2000) = true := decide_eq_true c41
          clear c41
          replace H := Option.bind_eq_some_iff.mp H
          obtain ⟨⟨t1275, t1276, t1277, t1278⟩, A420, H⟩ := H
          replace H : (corporalaw37_EnclosePowers.l1 k2 t1265 t1266 (wrap64 (x13_2 + 1)) x1269000_1 x1269001_1 x1269002_1 false (⟨#[50]⟩ : ByteArray) (⟨#[49]⟩ : ByteArray) t1275 t1276 t1277) = some r := H
          have A42 := Aside0.mk A420
          clear A420
          have H' := Aside0.mk H
          clear H
          have hnb43 := NB1274_1263.out
          have hnc43 := NB1263_1274.out
          have hnb44 := NB1274_1268.out
          have hnc44 := NB1268_1274.out
          have hnb45 := NB1274_1273.out
          have hnc45 := NB1273_1274.out
          obtain ⟨hcz46_0, hcz46_1, hcz46_2, hfz46_0, hfz46_1, hfz46_2⟩ := z3 BK1274
          have hnb47 := NB1273_1263.out
          have hnc47 := NB1263_1273.out
          have hnb48 := NB1273_1268.out
          have hnc48 := NB1268_1273.out
          obtain ⟨hcz49_0, hcz49_1, hcz49_2, hfz49_0, hfz49_1, hfz49_2⟩ := z3 BK1273
          go_wp2_with (first | ((with_reducible refine gate_callee (f := 26) rfl ?_); refine goesL_ (some 59) rfl rfl Try.func26 (by kernel_rfl) rfl #[.agg #[.bool x1275000_2, .string x1275001_2, .string x1275002_2], .agg #[.bool false, .string (⟨#[50]⟩ : ByteArray), .string (⟨#[49]⟩ : ByteArray)]] rfl ga ?_; (with_reducible refine (ratio_Mul.calls k2 x1275000_2 x1275001_2 x1275002_2 false (⟨#[50]⟩ : ByteArray) (⟨#[49]⟩ : ByteArray) t1275 t1276 t1277 t1278 _ A42.out).mono ?_); rintro e w50 ⟨rfl, hb⟩; refine ⟨_, rfl, ?_⟩; replace BK1263 := bb BK1263 hb; replace BK1268 := bb BK1268 hb; replace BK1273 := bb BK1273 hb; replace BK1274 := bb BK1274 hb; replace HB := hs HB hb; (try clear hb); obtain ⟨hcz51_0, hcz51_1, hcz51_2, hfz51_0, hfz51_1, hfz51_2⟩ := z3 BK1274))
          go_roundg k2
          case measure => have := HK1.out; have := HK2.out; omega
          case rel => exact ⟨(wrap64 (x13_2 + 1)), (t1275), (t1276), (t1277), sv, H', ⟨by have := HK1.out; have := HK2.out; omega⟩, ⟨bk⟩, ⟨bk⟩, ⟨bk⟩, ⟨by (with_reducible repeat (first | refine blk_drewN ?_ _ | refine blk_drew ?_ | refine blk_alloc ?_ _)); refine blk_put (cs := #[.bool t1275, .string t1276, .string x1275002_2]) ?_ 2 _ rfl; (with_reducible repeat (first | refine blk_drewN ?_ _ | refine blk_drew ?_ | refine blk_alloc ?_ _)); refine blk_put (cs := #[.bool t1275, .string x1275001_2, .string x1275002_2]) ?_ 1 _ rfl; (with_reducible repeat (first | refine blk_drewN ?_ _ | refine blk_drew ?_ | refine blk_alloc ?_ _)); refine blk_put (cs := #[.bool x1275000_2, .string x1275001_2, .string x1275002_2]) ?_ 0 _ rfl; (with_reducible repeat (first | refine blk_drewN ?_ _ | refine blk_drew ?_ | refine blk_alloc ?_ _)); exact BK1274.out⟩, ⟨bs⟩⟩
         ·rw [if_neg c41] at H
          have c41b0 : decide (x13_2 < 2000) = false := decide_eq_false c41
          clear c41
          have H' := Aside0.mk H
          clear H
          go_wp2
          go_meet
          case rel => exact ⟨_, (x1275000_2), (x1275001_2), (x1275002_2), H', ⟨by have := HK1.out; have := HK2.out; first | omega | exact Nat.le_refl _⟩, ⟨bk⟩, ⟨bk⟩, ⟨bk⟩, ⟨bk⟩, ⟨bs⟩⟩
        ·rw [if_neg c40] at H
         have c40b0 : decide (x13_2 < t1265) = false := decide_eq_false c40
         clear c40
         (first | rw [c40b0] | (simp only [i64_w, i32_w]; rw [c40b0]) | skip)
         have H' := Aside0.mk H
         clear H
         go_wp2
         go_meet
         case rel => exact ⟨_, (x1275000_2), (x1275001_2), (x1275002_2), H', ⟨by have := HK1.out; have := HK2.out; first | omega | exact Nat.le_refl _⟩, ⟨bk⟩, ⟨bk⟩, ⟨bk⟩, ⟨bk⟩, ⟨bs⟩⟩
     case rest =>
      clear HC30
      try clear c7b0
      try clear c7b1
      try clear c19b0
      try clear c21b0
      try clear c21b1
      try clear c40b0
      try clear c41b0
      try clear hcz12_0
      try clear hcz12_1
      try clear hcz12_2
      try clear hcz14_0
      try clear hcz14_1
      try clear hcz14_2
      try clear hcz18_0
      try clear hcz18_1
      try clear hcz18_2
      try clear hcz23_0
      try clear hcz23_1
      try clear hcz23_2
      try clear hcz25_0
      try clear hcz25_1
      try clear hcz25_2
      try clear hcz27_0
      try clear hcz27_1
      try clear hcz27_2
      try clear hcz29_0
      try clear hcz29_1
      try clear hcz29_2
      try clear hcz34_0
      try clear hcz34_1
      try clear hcz34_2
      try clear hcz39_0
      try clear hcz39_1
      try clear hcz39_2
      try clear hcz46_0
      try clear hcz46_1
      try clear hcz46_2
      try clear hcz49_0
      try clear hcz49_1
      try clear hcz49_2
      try clear hcz51_0
      try clear hcz51_1
      try clear hcz51_2
      try clear hfz12_0
      try clear hfz12_1
      try clear hfz12_2
      try clear hfz14_0
      try clear hfz14_1
      try clear hfz14_2
      try clear hfz18_0
      try clear hfz18_1
      try clear hfz18_2
      try clear hfz23_0
      try clear hfz23_1
      try clear hfz23_2
      try clear hfz25_0
      try clear hfz25_1
      try clear hfz25_2
      try clear hfz27_0
      try clear hfz27_1
      try clear hfz27_2
      try clear hfz29_0
      try clear hfz29_1
      try clear hfz29_2
      try clear hfz34_0
      try clear hfz34_1
      try clear hfz34_2
      try clear hfz39_0
      try clear hfz39_1
      try clear hfz39_2
      try clear hfz46_0
      try clear hfz46_1
      try clear hfz46_2
      try clear hfz49_0
      try clear hfz49_1
      try clear hfz49_2
      try clear hfz51_0
      try clear hfz51_1
      try clear hfz51_2
      obtain ⟨kq, x1275000_29, x1275001_29, x1275002_29, HA, HJ29, BK1263, BK1268, BK1273, BK1274, HB⟩ := hcut
      cases kq with
      | zero => exact absurd HA.out (by simp [corporalaw37_EnclosePowers.j2])
      | succ kj29 =>
       have H := HA.out
       clear HA
       simp only [corporalaw37_EnclosePowers.j2] at H
       have HC52 := Aside0.mk H
       clear H
       go_upto_block 4 with (fail)
       go_cut [] (fun wc => ∃ (kq : Nat) (x1275000_51 : Bool) (x1275001_51 : ByteArray) (x1275002_51 : ByteArray), Aside0 (corporalaw37_EnclosePowers.j4 kq t1266 x1269000_1 x1269001_1 x1269002_1 false (⟨#[50]⟩ : ByteArray) (⟨#[49]⟩ : ByteArray) x1275000_51 x1275001_51 x1275002_51 = some r) ∧ Aside0 (kq ≤ kj29) ∧ Aside0 (wc.heap[gb1263]? = some (.cells #[.bool t1259, .string t1260, .string t1261] 35 (0, 0))) ∧ Aside0 (wc.heap[gb1268]? = some (.cells #[.bool x1269000_1, .string x1269001_1, .string x1269002_1] 35 (0, 0))) ∧ Aside0 (wc.heap[gb1273]? = some (.cells #[.bool false, .string (⟨#[50]⟩ : ByteArray), .string (⟨#[49]⟩ : ByteArray)] 35 (0, 0))) ∧ Aside0 (wc.heap[gb1274]? = some (.cells #[.bool x1275000_51, .string x1275001_51, .string x1275002_51] 35 (0, 0))) ∧ Aside0 (Below w.heap.size w wc))
       case first =>
        have H := HC52.out
        clear HC52
        have H' := Aside0.mk H
        clear H
        go_wp2
        go_loopg [14] kj29 (fun kq v14 w' => ∃ (x14_3 : Int) (x1275000_3 : Bool) (x1275001_3 : ByteArray) (x1275002_3 : ByteArray), v14 = .int .i64 x14_3 ∧ Aside0 (corporalaw37_EnclosePowers.l2 kq t1265 t1266 x14_3 x1269000_1 x1269001_1 x1269002_1 false (⟨#[50]⟩ : ByteArray) (⟨#[49]⟩ : ByteArray) x1275000_3 x1275001_3 x1275002_3 = some r) ∧ Aside0 (kq ≤ kj29) ∧ Aside0 (w'.heap[gb1263]? = some (.cells #[.bool t1259, .string t1260, .string t1261] 35 (0, 0))) ∧ Aside0 (w'.heap[gb1268]? = some (.cells #[.bool x1269000_1, .string x1269001_1, .string x1269002_1] 35 (0, 0))) ∧ Aside0 (w'.heap[gb1273]? = some (.cells #[.bool false, .string (⟨#[50]⟩ : ByteArray), .string (⟨#[49]⟩ : ByteArray)] 35 (0, 0))) ∧ Aside0 (w'.heap[gb1274]? = some (.cells #[.bool x1275000_3, .string x1275001_3, .string x1275002_3] 35 (0, 0))) ∧ Aside0 (Below w.heap.size w w'))
        case atStart => exact ⟨(0), (x1275000_29), (x1275001_29), (x1275002_29), sv, H', ⟨Nat.le_refl _⟩, ⟨bk⟩, ⟨bk⟩, ⟨bk⟩, ⟨bk⟩, ⟨bs⟩⟩
        case round =>
         clear H'
         try clear c7b0
         try clear c7b1
         try clear c19b0
         try clear c21b0
         try clear c21b1
         try clear c40b0
         try clear c41b0
         try clear hcz12_0
         try clear hcz12_1
         try clear hcz12_2
         try clear hcz14_0
         try clear hcz14_1
         try clear hcz14_2
         try clear hcz18_0
         try clear hcz18_1
         try clear hcz18_2
         try clear hcz23_0
         try clear hcz23_1
         try clear hcz23_2
         try clear hcz25_0
         try clear hcz25_1
         try clear hcz25_2
         try clear hcz27_0
         try clear hcz27_1
         try clear hcz27_2
         try clear hcz29_0
         try clear hcz29_1
         try clear hcz29_2
         try clear hcz34_0
         try clear hcz34_1
         try clear hcz34_2
         try clear hcz39_0
         try clear hcz39_1
         try clear hcz39_2
         try clear hcz46_0
         try clear hcz46_1
         try clear hcz46_2
         try clear hcz49_0
         try clear hcz49_1
         try clear hcz49_2
         try clear hcz51_0
         try clear hcz51_1
         try clear hcz51_2
         try clear hfz12_0
         try clear hfz12_1
         try clear hfz12_2
         try clear hfz14_0
         try clear hfz14_1
         try clear hfz14_2
         try clear hfz18_0
         try clear hfz18_1
         try clear hfz18_2
         try clear hfz23_0
         try clear hfz23_1
         try clear hfz23_2
         try clear hfz25_0
         try clear hfz25_1
         try clear hfz25_2
         try clear hfz27_0
         try clear hfz27_1
         try clear hfz27_2
         try clear hfz29_0
         try clear hfz29_1
         try clear hfz29_2
         try clear hfz34_0
         try clear hfz34_1
         try clear hfz34_2
         try clear hfz39_0
         try clear hfz39_1
         try clear hfz39_2
         try clear hfz46_0
         try clear hfz46_1
         try clear hfz46_2
         try clear hfz49_0
         try clear hfz49_1
         try clear hfz49_2
         try clear hfz51_0
         try clear hfz51_1
         try clear hfz51_2
         obtain ⟨x14_3, x1275000_3, x1275001_3, x1275002_3, rfl, HA, HK3, BK1263, BK1268, BK1273, BK1274, HB⟩ := hrel
         cases gk with
         | zero => exact absurd HA.out (by simp [corporalaw37_EnclosePowers.l2])
         | succ k3 =>
          have H := HA.out
          clear HA
          simp only [corporalaw37_EnclosePowers.l2] at H
          by_cases c53 : x14_3 > t1265
          ·rw [if_pos c53] at H
           have c53b0 : decide (t1265 < x14_3) = true := decide_eq_true c53
           clear c53
           (first | rw [c53b0] | (simp only [i64_w, i32_w]; rw [c53b0]) | skip)
           by_cases c54 : x14_3 > (-2000)
           ·rw [if_pos c54] at H
            have c54b0 : decide ((-2000) < x14_3) = true := decide_eq_true c54
            clear c54
            replace H := Option.bind_eq_some_iff.mp H
            obtain ⟨⟨t1279, t1280, t1281, t1282⟩, A550, H⟩ := H
            replace H : (corporalaw37_EnclosePowers.l2 k3 t1265 t1266 (wrap64 (x14_3 - 1)) x1269000_1 x1269001_1 x1269002_1 false (⟨#[50]⟩ : ByteArray) (⟨#[49]⟩ : ByteArray) t1279 t1280 t1281) = some r := H
            have A55 := Aside0.mk A550
            clear A550
            have H' := Aside0.mk H
            clear H
            have hnb56 := NB1274_1263.out
            have hnc56 := NB1263_1274.out
            have hnb57 := NB1274_1268.out
            have hnc57 := NB1268_1274.out
            have hnb58 := NB1274_1273.out
            have hnc58 := NB1273_1274.out
            obtain ⟨hcz59_0, hcz59_1, hcz59_2, hfz59_0, hfz59_1, hfz59_2⟩ := z3 BK1274
            have hnb60 := NB1273_1263.out
            have hnc60 := NB1263_1273.out
            have hnb61 := NB1273_1268.out
            have hnc61 := NB1268_1273.out
            obtain ⟨hcz62_0, hcz62_1, hcz62_2, hfz62_0, hfz62_1, hfz62_2⟩ := z3 BK1273
            go_wp2_with (first | ((with_reducible refine gate_callee (f := 29) rfl ?_); refine goesL_ (some 74) rfl rfl Try.func29 (by kernel_rfl) rfl #[.agg #[.bool x1275000_3, .string x1275001_3, .string x1275002_3], .agg #[.bool false, .string (⟨#[50]⟩ : ByteArray), .string (⟨#[49]⟩ : ByteArray)]] rfl ga ?_; (with_reducible refine (ratio_Quo.calls k3 x1275000_3 x1275001_3 x1275002_3 false (⟨#[50]⟩ : ByteArray) (⟨#[49]⟩ : ByteArray) t1279 t1280 t1281 t1282 _ A55.out).mono ?_); rintro e w63 ⟨rfl, hb⟩; refine ⟨_, rfl, ?_⟩; replace BK1263 := bb BK1263 hb; replace BK1268 := bb BK1268 hb; replace BK1273 := bb BK1273 hb; replace BK1274 := bb BK1274 hb; replace HB := hs HB hb; (try clear hb); obtain ⟨hcz64_0, hcz64_1, hcz64_2, hfz64_0, hfz64_1, hfz64_2⟩ := z3 BK1274))
            go_roundg k3
            case measure => have := HK1.out; have := HJ29.out; have := HK3.out; omega
            case rel => exact ⟨(wrap64 (x14_3 - 1)), (t1279), (t1280), (t1281), sv, H', ⟨by have := HK1.out; have := HJ29.out; have := HK3.out; omega⟩, ⟨bk⟩, ⟨bk⟩, ⟨bk⟩, ⟨by (with_reducible repeat (first | refine blk_drewN ?_ _ | refine blk_drew ?_ | refine blk_alloc ?_ _)); refine blk_put (cs := #[.bool t1279, .string t1280, .string x1275002_3]) ?_ 2 _ rfl; (with_reducible repeat (first | refine blk_drewN ?_ _ | refine blk_drew ?_ | refine blk_alloc ?_ _)); refine blk_put (cs := #[.bool t1279, .string x1275001_3, .string x1275002_3]) ?_ 1 _ rfl; (with_reducible repeat (first | refine blk_drewN ?_ _ | refine blk_drew ?_ | refine blk_alloc ?_ _)); refine blk_put (cs := #[.bool x1275000_3, .string x1275001_3, .string x1275002_3]) ?_ 0 _ rfl; (with_reducible repeat (first | refine blk_drewN ?_ _ | refine blk_drew ?_ | refine blk_alloc ?_ _)); exact BK1274.out⟩, ⟨bs⟩⟩
           ·rw [if_neg c54] at H
            have c54b0 : decide ((-2000) < x14_3) = false := decide_eq_false c54
            clear c54
            have H' := Aside0.mk H
            clear H
            go_wp2
            go_meet
            case rel => exact ⟨_, (x1275000_3), (x1275001_3), (x1275002_3), H', ⟨by have := HK1.out; have := HJ29.out; have := HK3.out; first | omega | exact Nat.le_refl _⟩, ⟨bk⟩, ⟨bk⟩, ⟨bk⟩, ⟨bk⟩, ⟨bs⟩⟩
          ·rw [if_neg c53] at H
           have c53b0 : decide (t1265 < x14_3) = false := decide_eq_false c53
           clear c53
           (first | rw [c53b0] | (simp only [i64_w, i32_w]; rw [c53b0]) | skip)
           have H' := Aside0.mk H
           clear H
           go_wp2
           go_meet
           case rel => exact ⟨_, (x1275000_3), (x1275001_3), (x1275002_3), H', ⟨by have := HK1.out; have := HJ29.out; have := HK3.out; first | omega | exact Nat.le_refl _⟩, ⟨bk⟩, ⟨bk⟩, ⟨bk⟩, ⟨bk⟩, ⟨bs⟩⟩
       case rest =>
        clear HC52
        try clear c7b0
        try clear c7b1
        try clear c19b0
        try clear c21b0
        try clear c21b1
        try clear c40b0
        try clear c41b0
        try clear c53b0
        try clear c54b0
        try clear hcz12_0
        try clear hcz12_1
        try clear hcz12_2
        try clear hcz14_0
        try clear hcz14_1
        try clear hcz14_2
        try clear hcz18_0
        try clear hcz18_1
        try clear hcz18_2
        try clear hcz23_0
        try clear hcz23_1
        try clear hcz23_2
        try clear hcz25_0
        try clear hcz25_1
        try clear hcz25_2
        try clear hcz27_0
        try clear hcz27_1
        try clear hcz27_2
        try clear hcz29_0
        try clear hcz29_1
        try clear hcz29_2
        try clear hcz34_0
        try clear hcz34_1
        try clear hcz34_2
        try clear hcz39_0
        try clear hcz39_1
        try clear hcz39_2
        try clear hcz46_0
        try clear hcz46_1
        try clear hcz46_2
        try clear hcz49_0
        try clear hcz49_1
        try clear hcz49_2
        try clear hcz51_0
        try clear hcz51_1
        try clear hcz51_2
        try clear hcz59_0
        try clear hcz59_1
        try clear hcz59_2
        try clear hcz62_0
        try clear hcz62_1
        try clear hcz62_2
        try clear hcz64_0
        try clear hcz64_1
        try clear hcz64_2
        try clear hfz12_0
        try clear hfz12_1
        try clear hfz12_2
        try clear hfz14_0
        try clear hfz14_1
        try clear hfz14_2
        try clear hfz18_0
        try clear hfz18_1
        try clear hfz18_2
        try clear hfz23_0
        try clear hfz23_1
        try clear hfz23_2
        try clear hfz25_0
        try clear hfz25_1
        try clear hfz25_2
        try clear hfz27_0
        try clear hfz27_1
        try clear hfz27_2
        try clear hfz29_0
        try clear hfz29_1
        try clear hfz29_2
        try clear hfz34_0
        try clear hfz34_1
        try clear hfz34_2
        try clear hfz39_0
        try clear hfz39_1
        try clear hfz39_2
        try clear hfz46_0
        try clear hfz46_1
        try clear hfz46_2
        try clear hfz49_0
        try clear hfz49_1
        try clear hfz49_2
        try clear hfz51_0
        try clear hfz51_1
        try clear hfz51_2
        try clear hfz59_0
        try clear hfz59_1
        try clear hfz59_2
        try clear hfz62_0
        try clear hfz62_1
        try clear hfz62_2
        try clear hfz64_0
        try clear hfz64_1
        try clear hfz64_2
        obtain ⟨kq, x1275000_51, x1275001_51, x1275002_51, HA, HJ51, BK1263, BK1268, BK1273, BK1274, HB⟩ := hcut
        cases kq with
        | zero => exact absurd HA.out (by simp [corporalaw37_EnclosePowers.j4])
        | succ kj51 =>
         have H := HA.out
         clear HA
         simp only [corporalaw37_EnclosePowers.j4] at H
         replace H := Option.bind_eq_some_iff.mp H
         obtain ⟨⟨t1283, t1284, t1285, t1286⟩, A650, H⟩ := H
         replace H : (if t1286 = 0 then _ else _) = _ := H
         have A65 := Aside0.mk A650
         clear A650
         by_cases c66 : t1286 = 0
         ·rw [if_pos c66] at H
          have c66b0 : (t1286 == 0) = true := beq_iff_eq.mpr c66
          have c66b1 : (t1286 != 0) = false := bne_eq_false_iff_eq.mpr c66
          clear c66
          replace H := Option.bind_eq_some_iff.mp H
          obtain ⟨t1288, A670, H⟩ := H
          replace H : (if t1288 ≤ 0 then _ else _) = _ := H
          have A67 := Aside0.mk A670
          clear A670
          by_cases c68 : t1288 ≤ 0
          ·rw [if_pos c68] at H
           have c68b0 : decide (t1288 ≤ 0) = true := decide_eq_true c68
           clear c68
           replace H := Option.bind_eq_some_iff.mp H
           obtain ⟨t1289, A690, H⟩ := H
           replace H : (if ((t1289 == 0) == t1266) = true then _ else _) = _ := H
           have A69 := Aside0.mk A690
           clear A690
           by_cases c70 : ((t1289 == 0) == t1266) = true
           ·rw [if_pos c70] at H
            have c70b0 : ((t1289 == 0) == t1266) = true := c70
            have c70q : (t1289 == 0) = t1266 := by cases t1266 <;> simp_all
            have c70r : decide (t1289 = 0) = t1266 := by cases t1266 <;> simp_all
            have c70s : (t1288 == 0) = t1266 := by rw [Option.some.inj (A67.out.symm.trans A69.out)]; exact c70q
            have c70t : decide (t1288 = 0) = t1266 := by rw [Option.some.inj (A67.out.symm.trans A69.out)]; exact c70r
            (try (have c70b1 : decide ((t1289 == 0) = t1266) = true := by simpa using c70))
            (try (have c70b2 : ((t1289 == 0) == t1266) = true := by simpa using c70))
            clear c70
            replace H := Option.bind_eq_some_iff.mp H
            obtain ⟨t1290, A710, H⟩ := H
            replace H : (if t1290 < 0 then ((corporalaw37_known.f kj51).bind fun t1291 => (some t1291)) else (some false)) = some r := H
            have A71 := Aside0.mk A710
            clear A710
            by_cases c72 : t1290 < 0
            ·rw [if_pos c72] at H
             have c72b0 : decide (t1290 < 0) = true := decide_eq_true c72
             clear c72
             replace H := Option.bind_eq_some_iff.mp H
             obtain ⟨t1291, A730, H⟩ := H
             replace H : (some t1291) = some r := H
             have A73 := Aside0.mk A730
             clear A730
             obtain rfl := Option.some.inj H
             have hnb74 := NB1274_1263.out
             have hnc74 := NB1263_1274.out
             have hnb75 := NB1274_1268.out
             have hnc75 := NB1268_1274.out
             have hnb76 := NB1274_1273.out
             have hnc76 := NB1273_1274.out
             obtain ⟨hcz77_0, hcz77_1, hcz77_2, hfz77_0, hfz77_1, hfz77_2⟩ := z3 BK1274
             have hnb78 := NB1273_1263.out
             have hnc78 := NB1263_1273.out
             have hnb79 := NB1273_1268.out
             have hnc79 := NB1268_1273.out
             obtain ⟨hcz80_0, hcz80_1, hcz80_2, hfz80_0, hfz80_1, hfz80_2⟩ := z3 BK1273
             go_wp2_with (first | ((with_reducible refine gate_callee (f := 26) rfl ?_); refine goesL_ (some 80) rfl rfl Try.func26 (by kernel_rfl) rfl #[.agg #[.bool x1275000_51, .string x1275001_51, .string x1275002_51], .agg #[.bool false, .string (⟨#[50]⟩ : ByteArray), .string (⟨#[49]⟩ : ByteArray)]] rfl ga ?_; (with_reducible refine (ratio_Mul.calls kj51 x1275000_51 x1275001_51 x1275002_51 false (⟨#[50]⟩ : ByteArray) (⟨#[49]⟩ : ByteArray) t1283 t1284 t1285 t1286 _ A65.out).mono ?_); rintro e w81 ⟨rfl, hb⟩; refine ⟨_, rfl, ?_⟩; replace BK1263 := bb BK1263 hb; replace BK1268 := bb BK1268 hb; replace BK1273 := bb BK1273 hb; replace BK1274 := bb BK1274 hb; replace HB := hs HB hb; (try clear hb)) | ((with_reducible refine gate_dst (N := 15) rfl ?_); refine be (N := 15) (cs := #[.bool false, .string (⟨#[]⟩ : ByteArray), .string (⟨#[]⟩ : ByteArray)]) (t := 35) ?_; intro gb1287 hg w82 hbox hb; have BK1287 := Aside0.mk (hbox); have GW1287 := gw HB hg; have GE1287 := GW1287; replace HB := hs HB hb; have NB1263_1287 := na BK1263 hg; have NB1287_1263 := nz NB1263_1287; replace BK1263 := bb BK1263 hb; have NB1268_1287 := na BK1268 hg; have NB1287_1268 := nz NB1268_1287; replace BK1268 := bb BK1268 hb; have NB1273_1287 := na BK1273 hg; have NB1287_1273 := nz NB1273_1287; replace BK1273 := bb BK1273 hb; have NB1274_1287 := na BK1274 hg; have NB1287_1274 := nz NB1274_1287; replace BK1274 := bb BK1274 hb; clear hb hbox hg; have hnb83 := NB1287_1263.out; have hnc83 := NB1263_1287.out; have hnb84 := NB1287_1268.out; have hnc84 := NB1268_1287.out; have hnb85 := NB1287_1273.out; have hnc85 := NB1273_1287.out; have hnb86 := NB1287_1274.out; have hnc86 := NB1274_1287.out; obtain ⟨hcz87_0, hcz87_1, hcz87_2, hfz87_0, hfz87_1, hfz87_2⟩ := z3 BK1287; obtain ⟨hcz88_0, hcz88_1, hcz88_2, hfz88_0, hfz88_1, hfz88_2⟩ := z3 BK1274; have hnb89 := NB1268_1263.out; have hnc89 := NB1263_1268.out; obtain ⟨hcz90_0, hcz90_1, hcz90_2, hfz90_0, hfz90_1, hfz90_2⟩ := z3 BK1268) | (go_at_call 47; (with_reducible refine (ratio_Compare.calls kj51 x1275000_51 x1275001_51 x1275002_51 x1269000_1 x1269001_1 x1269002_1 t1288 _ A67.out).mono ?_); rintro e w91 ⟨rfl, hb⟩; replace BK1263 := bb BK1263 hb; replace BK1268 := bb BK1268 hb; replace BK1273 := bb BK1273 hb; replace BK1274 := bb BK1274 hb; replace BK1287 := bq BK1287 #[.bool t1283, .string t1284, .string t1285] hb; replace HB := hs HB hb; (try clear hb); obtain ⟨hcq1263_0, hcq1263_1, hcq1263_2, hfq1263_0, hfq1263_1, hfq1263_2⟩ := z3 BK1263; obtain ⟨hcq1273_0, hcq1273_1, hcq1273_2, hfq1273_0, hfq1273_1, hfq1273_2⟩ := z3 BK1273; obtain ⟨hcq1287_0, hcq1287_1, hcq1287_2, hfq1287_0, hfq1287_1, hfq1287_2⟩ := z3 BK1287; obtain ⟨hcz92_0, hcz92_1, hcz92_2, hfz92_0, hfz92_1, hfz92_2⟩ := z3 BK1274; obtain ⟨hcz93_0, hcz93_1, hcz93_2, hfz93_0, hfz93_1, hfz93_2⟩ := z3 BK1268) | (go_at_call 47; (with_reducible refine (ratio_Compare.calls kj51 x1275000_51 x1275001_51 x1275002_51 x1269000_1 x1269001_1 x1269002_1 t1289 _ A69.out).mono ?_); rintro e w94 ⟨rfl, hb⟩; replace BK1263 := bb BK1263 hb; replace BK1268 := bb BK1268 hb; replace BK1273 := bb BK1273 hb; replace BK1274 := bb BK1274 hb; replace BK1287 := bb BK1287 hb; replace HB := hs HB hb; (try clear hb); obtain ⟨hcq1263_0, hcq1263_1, hcq1263_2, hfq1263_0, hfq1263_1, hfq1263_2⟩ := z3 BK1263; obtain ⟨hcq1273_0, hcq1273_1, hcq1273_2, hfq1273_0, hfq1273_1, hfq1273_2⟩ := z3 BK1273; obtain ⟨hcq1274_0, hcq1274_1, hcq1274_2, hfq1274_0, hfq1274_1, hfq1274_2⟩ := z3 BK1274; obtain ⟨hcz95_0, hcz95_1, hcz95_2, hfz95_0, hfz95_1, hfz95_2⟩ := z3 BK1268; obtain ⟨hcz96_0, hcz96_1, hcz96_2, hfz96_0, hfz96_1, hfz96_2⟩ := z3 BK1287) | (go_at_call 47; (with_reducible refine (ratio_Compare.calls kj51 x1269000_1 x1269001_1 x1269002_1 t1283 t1284 t1285 t1290 _ A71.out).mono ?_); rintro e w97 ⟨rfl, hb⟩; replace BK1263 := bb BK1263 hb; replace BK1268 := bb BK1268 hb; replace BK1273 := bb BK1273 hb; replace BK1274 := bb BK1274 hb; replace BK1287 := bb BK1287 hb; replace HB := hs HB hb; (try clear hb); obtain ⟨hcq1263_0, hcq1263_1, hcq1263_2, hfq1263_0, hfq1263_1, hfq1263_2⟩ := z3 BK1263; obtain ⟨hcq1268_0, hcq1268_1, hcq1268_2, hfq1268_0, hfq1268_1, hfq1268_2⟩ := z3 BK1268; obtain ⟨hcq1273_0, hcq1273_1, hcq1273_2, hfq1273_0, hfq1273_1, hfq1273_2⟩ := z3 BK1273; obtain ⟨hcq1274_0, hcq1274_1, hcq1274_2, hfq1274_0, hfq1274_1, hfq1274_2⟩ := z3 BK1274; obtain ⟨hcq1287_0, hcq1287_1, hcq1287_2, hfq1287_0, hfq1287_1, hfq1287_2⟩ := z3 BK1287) | (go_at_call 28; (with_reducible refine (corporalaw37_known.calls kj51  t1291 _ A73.out).mono ?_); rintro e w98 ⟨rfl, hb⟩; replace BK1263 := bb BK1263 hb; replace BK1268 := bb BK1268 hb; replace BK1273 := bb BK1273 hb; replace BK1274 := bb BK1274 hb; replace BK1287 := bb BK1287 hb; replace HB := hs HB hb; (try clear hb)))
             go_ret
             exact ⟨er, bs⟩
            ·rw [if_neg c72] at H
             have c72b0 : decide (t1290 < 0) = false := decide_eq_false c72
             clear c72
             obtain rfl := Option.some.inj H
             have hnb99 := NB1274_1263.out
             have hnc99 := NB1263_1274.out
             have hnb100 := NB1274_1268.out
             have hnc100 := NB1268_1274.out
             have hnb101 := NB1274_1273.out
             have hnc101 := NB1273_1274.out
             obtain ⟨hcz102_0, hcz102_1, hcz102_2, hfz102_0, hfz102_1, hfz102_2⟩ := z3 BK1274
             have hnb103 := NB1273_1263.out
             have hnc103 := NB1263_1273.out
             have hnb104 := NB1273_1268.out
             have hnc104 := NB1268_1273.out
             obtain ⟨hcz105_0, hcz105_1, hcz105_2, hfz105_0, hfz105_1, hfz105_2⟩ := z3 BK1273
             go_wp2_with (first | ((with_reducible refine gate_callee (f := 26) rfl ?_); refine goesL_ (some 80) rfl rfl Try.func26 (by kernel_rfl) rfl #[.agg #[.bool x1275000_51, .string x1275001_51, .string x1275002_51], .agg #[.bool false, .string (⟨#[50]⟩ : ByteArray), .string (⟨#[49]⟩ : ByteArray)]] rfl ga ?_; (with_reducible refine (ratio_Mul.calls kj51 x1275000_51 x1275001_51 x1275002_51 false (⟨#[50]⟩ : ByteArray) (⟨#[49]⟩ : ByteArray) t1283 t1284 t1285 t1286 _ A65.out).mono ?_); rintro e w106 ⟨rfl, hb⟩; refine ⟨_, rfl, ?_⟩; replace BK1263 := bb BK1263 hb; replace BK1268 := bb BK1268 hb; replace BK1273 := bb BK1273 hb; replace BK1274 := bb BK1274 hb; replace HB := hs HB hb; (try clear hb)) | ((with_reducible refine gate_dst (N := 15) rfl ?_); refine be (N := 15) (cs := #[.bool false, .string (⟨#[]⟩ : ByteArray), .string (⟨#[]⟩ : ByteArray)]) (t := 35) ?_; intro gb1287 hg w107 hbox hb; have BK1287 := Aside0.mk (hbox); have GW1287 := gw HB hg; have GE1287 := GW1287; replace HB := hs HB hb; have NB1263_1287 := na BK1263 hg; have NB1287_1263 := nz NB1263_1287; replace BK1263 := bb BK1263 hb; have NB1268_1287 := na BK1268 hg; have NB1287_1268 := nz NB1268_1287; replace BK1268 := bb BK1268 hb; have NB1273_1287 := na BK1273 hg; have NB1287_1273 := nz NB1273_1287; replace BK1273 := bb BK1273 hb; have NB1274_1287 := na BK1274 hg; have NB1287_1274 := nz NB1274_1287; replace BK1274 := bb BK1274 hb; clear hb hbox hg; have hnb108 := NB1287_1263.out; have hnc108 := NB1263_1287.out; have hnb109 := NB1287_1268.out; have hnc109 := NB1268_1287.out; have hnb110 := NB1287_1273.out; have hnc110 := NB1273_1287.out; have hnb111 := NB1287_1274.out; have hnc111 := NB1274_1287.out; obtain ⟨hcz112_0, hcz112_1, hcz112_2, hfz112_0, hfz112_1, hfz112_2⟩ := z3 BK1287; obtain ⟨hcz113_0, hcz113_1, hcz113_2, hfz113_0, hfz113_1, hfz113_2⟩ := z3 BK1274; have hnb114 := NB1268_1263.out; have hnc114 := NB1263_1268.out; obtain ⟨hcz115_0, hcz115_1, hcz115_2, hfz115_0, hfz115_1, hfz115_2⟩ := z3 BK1268) | (go_at_call 47; (with_reducible refine (ratio_Compare.calls kj51 x1275000_51 x1275001_51 x1275002_51 x1269000_1 x1269001_1 x1269002_1 t1288 _ A67.out).mono ?_); rintro e w116 ⟨rfl, hb⟩; replace BK1263 := bb BK1263 hb; replace BK1268 := bb BK1268 hb; replace BK1273 := bb BK1273 hb; replace BK1274 := bb BK1274 hb; replace BK1287 := bq BK1287 #[.bool t1283, .string t1284, .string t1285] hb; replace HB := hs HB hb; (try clear hb); obtain ⟨hcq1263_0, hcq1263_1, hcq1263_2, hfq1263_0, hfq1263_1, hfq1263_2⟩ := z3 BK1263; obtain ⟨hcq1273_0, hcq1273_1, hcq1273_2, hfq1273_0, hfq1273_1, hfq1273_2⟩ := z3 BK1273; obtain ⟨hcq1287_0, hcq1287_1, hcq1287_2, hfq1287_0, hfq1287_1, hfq1287_2⟩ := z3 BK1287; obtain ⟨hcz117_0, hcz117_1, hcz117_2, hfz117_0, hfz117_1, hfz117_2⟩ := z3 BK1274; obtain ⟨hcz118_0, hcz118_1, hcz118_2, hfz118_0, hfz118_1, hfz118_2⟩ := z3 BK1268) | (go_at_call 47; (with_reducible refine (ratio_Compare.calls kj51 x1275000_51 x1275001_51 x1275002_51 x1269000_1 x1269001_1 x1269002_1 t1289 _ A69.out).mono ?_); rintro e w119 ⟨rfl, hb⟩; replace BK1263 := bb BK1263 hb; replace BK1268 := bb BK1268 hb; replace BK1273 := bb BK1273 hb; replace BK1274 := bb BK1274 hb; replace BK1287 := bb BK1287 hb; replace HB := hs HB hb; (try clear hb); obtain ⟨hcq1263_0, hcq1263_1, hcq1263_2, hfq1263_0, hfq1263_1, hfq1263_2⟩ := z3 BK1263; obtain ⟨hcq1273_0, hcq1273_1, hcq1273_2, hfq1273_0, hfq1273_1, hfq1273_2⟩ := z3 BK1273; obtain ⟨hcq1274_0, hcq1274_1, hcq1274_2, hfq1274_0, hfq1274_1, hfq1274_2⟩ := z3 BK1274; obtain ⟨hcz120_0, hcz120_1, hcz120_2, hfz120_0, hfz120_1, hfz120_2⟩ := z3 BK1268; obtain ⟨hcz121_0, hcz121_1, hcz121_2, hfz121_0, hfz121_1, hfz121_2⟩ := z3 BK1287) | (go_at_call 47; (with_reducible refine (ratio_Compare.calls kj51 x1269000_1 x1269001_1 x1269002_1 t1283 t1284 t1285 t1290 _ A71.out).mono ?_); rintro e w122 ⟨rfl, hb⟩; replace BK1263 := bb BK1263 hb; replace BK1268 := bb BK1268 hb; replace BK1273 := bb BK1273 hb; replace BK1274 := bb BK1274 hb; replace BK1287 := bb BK1287 hb; replace HB := hs HB hb; (try clear hb); obtain ⟨hcq1263_0, hcq1263_1, hcq1263_2, hfq1263_0, hfq1263_1, hfq1263_2⟩ := z3 BK1263; obtain ⟨hcq1268_0, hcq1268_1, hcq1268_2, hfq1268_0, hfq1268_1, hfq1268_2⟩ := z3 BK1268; obtain ⟨hcq1273_0, hcq1273_1, hcq1273_2, hfq1273_0, hfq1273_1, hfq1273_2⟩ := z3 BK1273; obtain ⟨hcq1274_0, hcq1274_1, hcq1274_2, hfq1274_0, hfq1274_1, hfq1274_2⟩ := z3 BK1274; obtain ⟨hcq1287_0, hcq1287_1, hcq1287_2, hfq1287_0, hfq1287_1, hfq1287_2⟩ := z3 BK1287))
             go_ret
             exact ⟨er, bs⟩
           ·rw [if_neg c70] at H
            have c70b0 : ((t1289 == 0) == t1266) = false := by simpa using c70
            have c70q : (t1289 == 0) = !t1266 := by cases t1266 <;> simp_all
            have c70r : decide (t1289 = 0) = !t1266 := by cases t1266 <;> simp_all
            have c70s : (t1288 == 0) = !t1266 := by rw [Option.some.inj (A67.out.symm.trans A69.out)]; exact c70q
            have c70t : decide (t1288 = 0) = !t1266 := by rw [Option.some.inj (A67.out.symm.trans A69.out)]; exact c70r
            (try (have c70b1 : decide ((t1289 == 0) = t1266) = false := by simpa using c70))
            (try (have c70b2 : ((t1289 == 0) == t1266) = false := by simpa using c70))
            (try (have c70b3 : ¬ ((t1289 == 0) = t1266) := by simpa using c70))
            clear c70
            obtain rfl := Option.some.inj H
            have hnb123 := NB1274_1263.out
            have hnc123 := NB1263_1274.out
            have hnb124 := NB1274_1268.out
            have hnc124 := NB1268_1274.out
            have hnb125 := NB1274_1273.out
            have hnc125 := NB1273_1274.out
            obtain ⟨hcz126_0, hcz126_1, hcz126_2, hfz126_0, hfz126_1, hfz126_2⟩ := z3 BK1274
            have hnb127 := NB1273_1263.out
            have hnc127 := NB1263_1273.out
            have hnb128 := NB1273_1268.out
            have hnc128 := NB1268_1273.out
            obtain ⟨hcz129_0, hcz129_1, hcz129_2, hfz129_0, hfz129_1, hfz129_2⟩ := z3 BK1273
            go_wp2_with (first | ((with_reducible refine gate_callee (f := 26) rfl ?_); refine goesL_ (some 80) rfl rfl Try.func26 (by kernel_rfl) rfl #[.agg #[.bool x1275000_51, .string x1275001_51, .string x1275002_51], .agg #[.bool false, .string (⟨#[50]⟩ : ByteArray), .string (⟨#[49]⟩ : ByteArray)]] rfl ga ?_; (with_reducible refine (ratio_Mul.calls kj51 x1275000_51 x1275001_51 x1275002_51 false (⟨#[50]⟩ : ByteArray) (⟨#[49]⟩ : ByteArray) t1283 t1284 t1285 t1286 _ A65.out).mono ?_); rintro e w130 ⟨rfl, hb⟩; refine ⟨_, rfl, ?_⟩; replace BK1263 := bb BK1263 hb; replace BK1268 := bb BK1268 hb; replace BK1273 := bb BK1273 hb; replace BK1274 := bb BK1274 hb; replace HB := hs HB hb; (try clear hb)) | ((with_reducible refine gate_dst (N := 15) rfl ?_); refine be (N := 15) (cs := #[.bool false, .string (⟨#[]⟩ : ByteArray), .string (⟨#[]⟩ : ByteArray)]) (t := 35) ?_; intro gb1287 hg w131 hbox hb; have BK1287 := Aside0.mk (hbox); have GW1287 := gw HB hg; have GE1287 := GW1287; replace HB := hs HB hb; have NB1263_1287 := na BK1263 hg; have NB1287_1263 := nz NB1263_1287; replace BK1263 := bb BK1263 hb; have NB1268_1287 := na BK1268 hg; have NB1287_1268 := nz NB1268_1287; replace BK1268 := bb BK1268 hb; have NB1273_1287 := na BK1273 hg; have NB1287_1273 := nz NB1273_1287; replace BK1273 := bb BK1273 hb; have NB1274_1287 := na BK1274 hg; have NB1287_1274 := nz NB1274_1287; replace BK1274 := bb BK1274 hb; clear hb hbox hg; have hnb132 := NB1287_1263.out; have hnc132 := NB1263_1287.out; have hnb133 := NB1287_1268.out; have hnc133 := NB1268_1287.out; have hnb134 := NB1287_1273.out; have hnc134 := NB1273_1287.out; have hnb135 := NB1287_1274.out; have hnc135 := NB1274_1287.out; obtain ⟨hcz136_0, hcz136_1, hcz136_2, hfz136_0, hfz136_1, hfz136_2⟩ := z3 BK1287; obtain ⟨hcz137_0, hcz137_1, hcz137_2, hfz137_0, hfz137_1, hfz137_2⟩ := z3 BK1274; have hnb138 := NB1268_1263.out; have hnc138 := NB1263_1268.out; obtain ⟨hcz139_0, hcz139_1, hcz139_2, hfz139_0, hfz139_1, hfz139_2⟩ := z3 BK1268) | (go_at_call 47; (with_reducible refine (ratio_Compare.calls kj51 x1275000_51 x1275001_51 x1275002_51 x1269000_1 x1269001_1 x1269002_1 t1288 _ A67.out).mono ?_); rintro e w140 ⟨rfl, hb⟩; replace BK1263 := bb BK1263 hb; replace BK1268 := bb BK1268 hb; replace BK1273 := bb BK1273 hb; replace BK1274 := bb BK1274 hb; replace BK1287 := bq BK1287 #[.bool t1283, .string t1284, .string t1285] hb; replace HB := hs HB hb; (try clear hb); obtain ⟨hcq1263_0, hcq1263_1, hcq1263_2, hfq1263_0, hfq1263_1, hfq1263_2⟩ := z3 BK1263; obtain ⟨hcq1273_0, hcq1273_1, hcq1273_2, hfq1273_0, hfq1273_1, hfq1273_2⟩ := z3 BK1273; obtain ⟨hcq1287_0, hcq1287_1, hcq1287_2, hfq1287_0, hfq1287_1, hfq1287_2⟩ := z3 BK1287; obtain ⟨hcz141_0, hcz141_1, hcz141_2, hfz141_0, hfz141_1, hfz141_2⟩ := z3 BK1274; obtain ⟨hcz142_0, hcz142_1, hcz142_2, hfz142_0, hfz142_1, hfz142_2⟩ := z3 BK1268) | (go_at_call 47; (with_reducible refine (ratio_Compare.calls kj51 x1275000_51 x1275001_51 x1275002_51 x1269000_1 x1269001_1 x1269002_1 t1289 _ A69.out).mono ?_); rintro e w143 ⟨rfl, hb⟩; replace BK1263 := bb BK1263 hb; replace BK1268 := bb BK1268 hb; replace BK1273 := bb BK1273 hb; replace BK1274 := bb BK1274 hb; replace BK1287 := bb BK1287 hb; replace HB := hs HB hb; (try clear hb); obtain ⟨hcq1263_0, hcq1263_1, hcq1263_2, hfq1263_0, hfq1263_1, hfq1263_2⟩ := z3 BK1263; obtain ⟨hcq1268_0, hcq1268_1, hcq1268_2, hfq1268_0, hfq1268_1, hfq1268_2⟩ := z3 BK1268; obtain ⟨hcq1273_0, hcq1273_1, hcq1273_2, hfq1273_0, hfq1273_1, hfq1273_2⟩ := z3 BK1273; obtain ⟨hcq1274_0, hcq1274_1, hcq1274_2, hfq1274_0, hfq1274_1, hfq1274_2⟩ := z3 BK1274; obtain ⟨hcq1287_0, hcq1287_1, hcq1287_2, hfq1287_0, hfq1287_1, hfq1287_2⟩ := z3 BK1287))
            go_ret
            exact ⟨er, bs⟩
          ·rw [if_neg c68] at H
           have c68b0 : decide (t1288 ≤ 0) = false := decide_eq_false c68
           clear c68
           obtain rfl := Option.some.inj H
           have hnb144 := NB1274_1263.out
           have hnc144 := NB1263_1274.out
           have hnb145 := NB1274_1268.out
           have hnc145 := NB1268_1274.out
           have hnb146 := NB1274_1273.out
           have hnc146 := NB1273_1274.out
           obtain ⟨hcz147_0, hcz147_1, hcz147_2, hfz147_0, hfz147_1, hfz147_2⟩ := z3 BK1274
           have hnb148 := NB1273_1263.out
           have hnc148 := NB1263_1273.out
           have hnb149 := NB1273_1268.out
           have hnc149 := NB1268_1273.out
           obtain ⟨hcz150_0, hcz150_1, hcz150_2, hfz150_0, hfz150_1, hfz150_2⟩ := z3 BK1273
           go_wp2_with (first | ((with_reducible refine gate_callee (f := 26) rfl ?_); refine goesL_ (some 80) rfl rfl Try.func26 (by kernel_rfl) rfl #[.agg #[.bool x1275000_51, .string x1275001_51, .string x1275002_51], .agg #[.bool false, .string (⟨#[50]⟩ : ByteArray), .string (⟨#[49]⟩ : ByteArray)]] rfl ga ?_; (with_reducible refine (ratio_Mul.calls kj51 x1275000_51 x1275001_51 x1275002_51 false (⟨#[50]⟩ : ByteArray) (⟨#[49]⟩ : ByteArray) t1283 t1284 t1285 t1286 _ A65.out).mono ?_); rintro e w151 ⟨rfl, hb⟩; refine ⟨_, rfl, ?_⟩; replace BK1263 := bb BK1263 hb; replace BK1268 := bb BK1268 hb; replace BK1273 := bb BK1273 hb; replace BK1274 := bb BK1274 hb; replace HB := hs HB hb; (try clear hb)) | ((with_reducible refine gate_dst (N := 15) rfl ?_); refine be (N := 15) (cs := #[.bool false, .string (⟨#[]⟩ : ByteArray), .string (⟨#[]⟩ : ByteArray)]) (t := 35) ?_; intro gb1287 hg w152 hbox hb; have BK1287 := Aside0.mk (hbox); have GW1287 := gw HB hg; have GE1287 := GW1287; replace HB := hs HB hb; have NB1263_1287 := na BK1263 hg; have NB1287_1263 := nz NB1263_1287; replace BK1263 := bb BK1263 hb; have NB1268_1287 := na BK1268 hg; have NB1287_1268 := nz NB1268_1287; replace BK1268 := bb BK1268 hb; have NB1273_1287 := na BK1273 hg; have NB1287_1273 := nz NB1273_1287; replace BK1273 := bb BK1273 hb; have NB1274_1287 := na BK1274 hg; have NB1287_1274 := nz NB1274_1287; replace BK1274 := bb BK1274 hb; clear hb hbox hg; have hnb153 := NB1287_1263.out; have hnc153 := NB1263_1287.out; have hnb154 := NB1287_1268.out; have hnc154 := NB1268_1287.out; have hnb155 := NB1287_1273.out; have hnc155 := NB1273_1287.out; have hnb156 := NB1287_1274.out; have hnc156 := NB1274_1287.out; obtain ⟨hcz157_0, hcz157_1, hcz157_2, hfz157_0, hfz157_1, hfz157_2⟩ := z3 BK1287; obtain ⟨hcz158_0, hcz158_1, hcz158_2, hfz158_0, hfz158_1, hfz158_2⟩ := z3 BK1274; have hnb159 := NB1268_1263.out; have hnc159 := NB1263_1268.out; obtain ⟨hcz160_0, hcz160_1, hcz160_2, hfz160_0, hfz160_1, hfz160_2⟩ := z3 BK1268) | (go_at_call 47; (with_reducible refine (ratio_Compare.calls kj51 x1275000_51 x1275001_51 x1275002_51 x1269000_1 x1269001_1 x1269002_1 t1288 _ A67.out).mono ?_); rintro e w161 ⟨rfl, hb⟩; replace BK1263 := bb BK1263 hb; replace BK1268 := bb BK1268 hb; replace BK1273 := bb BK1273 hb; replace BK1274 := bb BK1274 hb; replace BK1287 := bq BK1287 #[.bool t1283, .string t1284, .string t1285] hb; replace HB := hs HB hb; (try clear hb); obtain ⟨hcq1263_0, hcq1263_1, hcq1263_2, hfq1263_0, hfq1263_1, hfq1263_2⟩ := z3 BK1263; obtain ⟨hcq1268_0, hcq1268_1, hcq1268_2, hfq1268_0, hfq1268_1, hfq1268_2⟩ := z3 BK1268; obtain ⟨hcq1273_0, hcq1273_1, hcq1273_2, hfq1273_0, hfq1273_1, hfq1273_2⟩ := z3 BK1273; obtain ⟨hcq1274_0, hcq1274_1, hcq1274_2, hfq1274_0, hfq1274_1, hfq1274_2⟩ := z3 BK1274; obtain ⟨hcq1287_0, hcq1287_1, hcq1287_2, hfq1287_0, hfq1287_1, hfq1287_2⟩ := z3 BK1287))
           go_ret
           exact ⟨er, bs⟩
         ·rw [if_neg c66] at H
          have c66b0 : (t1286 == 0) = false := beq_eq_false_iff_ne.mpr c66
          have c66b1 : (t1286 != 0) = true := bne_iff_ne.mpr c66
          obtain rfl := Option.some.inj H
          have hnb162 := NB1274_1263.out
          have hnc162 := NB1263_1274.out
          have hnb163 := NB1274_1268.out
          have hnc163 := NB1268_1274.out
          have hnb164 := NB1274_1273.out
          have hnc164 := NB1273_1274.out
          obtain ⟨hcz165_0, hcz165_1, hcz165_2, hfz165_0, hfz165_1, hfz165_2⟩ := z3 BK1274
          have hnb166 := NB1273_1263.out
          have hnc166 := NB1263_1273.out
          have hnb167 := NB1273_1268.out
          have hnc167 := NB1268_1273.out
          obtain ⟨hcz168_0, hcz168_1, hcz168_2, hfz168_0, hfz168_1, hfz168_2⟩ := z3 BK1273
          go_wp2_with (first | ((with_reducible refine gate_callee (f := 26) rfl ?_); refine goesL_ (some 80) rfl rfl Try.func26 (by kernel_rfl) rfl #[.agg #[.bool x1275000_51, .string x1275001_51, .string x1275002_51], .agg #[.bool false, .string (⟨#[50]⟩ : ByteArray), .string (⟨#[49]⟩ : ByteArray)]] rfl ga ?_; (with_reducible refine (ratio_Mul.calls kj51 x1275000_51 x1275001_51 x1275002_51 false (⟨#[50]⟩ : ByteArray) (⟨#[49]⟩ : ByteArray) t1283 t1284 t1285 t1286 _ A65.out).mono ?_); rintro e w169 ⟨rfl, hb⟩; refine ⟨_, rfl, ?_⟩; replace BK1263 := bb BK1263 hb; replace BK1268 := bb BK1268 hb; replace BK1273 := bb BK1273 hb; replace BK1274 := bb BK1274 hb; replace HB := hs HB hb; (try clear hb)) | ((with_reducible refine gate_dst (N := 15) rfl ?_); refine be (N := 15) (cs := #[.bool false, .string (⟨#[]⟩ : ByteArray), .string (⟨#[]⟩ : ByteArray)]) (t := 35) ?_; intro gb1287 hg w170 hbox hb; have BK1287 := Aside0.mk (hbox); have GW1287 := gw HB hg; have GE1287 := GW1287; replace HB := hs HB hb; have NB1263_1287 := na BK1263 hg; have NB1287_1263 := nz NB1263_1287; replace BK1263 := bb BK1263 hb; have NB1268_1287 := na BK1268 hg; have NB1287_1268 := nz NB1268_1287; replace BK1268 := bb BK1268 hb; have NB1273_1287 := na BK1273 hg; have NB1287_1273 := nz NB1273_1287; replace BK1273 := bb BK1273 hb; have NB1274_1287 := na BK1274 hg; have NB1287_1274 := nz NB1274_1287; replace BK1274 := bb BK1274 hb; clear hb hbox hg; have hnb171 := NB1287_1263.out; have hnc171 := NB1263_1287.out; have hnb172 := NB1287_1268.out; have hnc172 := NB1268_1287.out; have hnb173 := NB1287_1273.out; have hnc173 := NB1273_1287.out; have hnb174 := NB1287_1274.out; have hnc174 := NB1274_1287.out; obtain ⟨hcz175_0, hcz175_1, hcz175_2, hfz175_0, hfz175_1, hfz175_2⟩ := z3 BK1287))
          go_ret
          exact ⟨er, bs⟩
 ·rw [if_neg c7] at H
  have c7b0 : (t1267 == 0) = false := beq_eq_false_iff_ne.mpr c7
  have c7b1 : (t1267 != 0) = true := bne_iff_ne.mpr c7
  obtain rfl := Option.some.inj H
  go_enter Try.func11, Try.ntmps11
  go_wp2_with (first | ((with_reducible refine gate_callee (f := 23) rfl ?_); refine goesL_ (some 18) rfl rfl Try.func23 (by kernel_rfl) rfl #[.slice A0 l0.length c0] rfl ga ?_; (with_reducible refine (corporamade_New.calls _ _ l0 t1256 t1257 w _ ?side1 ?side2 ?side3 A3.out).mono ?_); (case side1 => repeat (first | (with_reducible first | exact HB.out | apply below_alloc | apply pw_below_drewN | apply below_drew1) | exact HB.out)); (case side2 => exact HR0.out); (case side3 => exact HC0.out); rintro e w176 ⟨g1258, rfl, hi, hb, hb2⟩; refine ⟨_, rfl, ?_⟩; replace HB := Aside0.mk (hb); have HI1258 := Aside0.mk (hi); (try clear hb); (try clear hb2); (try clear hi)) | ((with_reducible refine gate_callee (f := 24) rfl ?_); refine goesL_ (some 19) rfl rfl Try.func24 (by kernel_rfl) rfl #[.pointer (some ⟨g1258, 0, none⟩), .bool true] rfl ga ?_; (with_reducible refine (corporalaw37_some.calls k g1258 t1256 t1257 true t1259 t1260 t1261 t1262 w _ ?side1 ?side2 A4.out).mono ?_); (case side1 => exact sx HI1258); (case side2 => exact bx); rintro e w177 ⟨rfl, hi, hb, hk⟩; refine ⟨_, rfl, ?_⟩; replace HB := Aside0.mk (hb); replace HI1258 := Aside0.mk (hi); (try clear hb); (try clear hk); (try clear hi)) | ((with_reducible refine gate_dst (N := 5) rfl ?_); refine be (N := 5) (cs := #[.bool false, .string (⟨#[]⟩ : ByteArray), .string (⟨#[]⟩ : ByteArray)]) (t := 35) ?_; intro gb1263 hg w178 hbox hb; have BK1263 := Aside0.mk (hbox); have GW1263 := Aside0.mk (by rw [hg]; exact below_size bx : w.heap.size ≤ gb1263); have GE1263 := GW1263; replace HB := Aside0.mk (below_step bx hb); have NB1258_1263 := Aside0.mk ((by rw [hg]; exact Nat.ne_of_lt (IsS83.lt (sx HI1258)) : g1258 ≠ gb1263)); have NB1263_1258 := Aside0.mk ((by rw [hg]; exact Nat.ne_of_gt (IsS83.lt (sx HI1258)) : gb1263 ≠ g1258)); replace HI1258 := Aside0.mk (IsS83.below (sx HI1258) hb); clear hb hbox hg; have hnb179 := NB1263_1258.out; have hnc179 := NB1258_1263.out; obtain ⟨hcz180_0, hcz180_1, hcz180_2, hfz180_0, hfz180_1, hfz180_2⟩ := z3 BK1263) | ((with_reducible refine gate_callee (f := 25) rfl ?_); refine goesL_ (some 21) rfl rfl Try.func25 (by kernel_rfl) rfl #[.int .i64 a1, .int .i64 5] rfl ga ?_; (with_reducible refine (corporamade_Mod.calls a1 5 t1264 _ A5.out).mono ?_); rintro e w' ⟨rfl, ⟨nd, rfl⟩⟩; refine ⟨_, rfl, ?_⟩) | ((with_reducible refine gate_callee (f := 27) rfl ?_); refine goesL_ (some 25) rfl rfl Try.func27 (by kernel_rfl) rfl #[.agg #[.bool t1259, .string t1260, .string t1261], .int .i64 t1264] rfl ga ?_; (with_reducible refine (enclose_Log.calls k t1259 t1260 t1261 t1264 t1265 t1266 t1267 _ A6.out).mono ?_); rintro e w181 ⟨rfl, hb⟩; refine ⟨_, rfl, ?_⟩; replace BK1263 := bq BK1263 #[.bool t1259, .string t1260, .string t1261] hb; replace HB := Aside0.mk (below_step bx hb); replace HI1258 := Aside0.mk (IsS83.below (sx HI1258) hb); (try clear hb)))
  go_ret
  exact ⟨er, bx⟩
theorem corporalaw37_EnclosePowers.walk (P : corporalaw37_EnclosePowers.Pure) (a0 : Option Addr) (len0 cap0 : Nat) (z0 : List Int) (a1 : Int) (w : World) (w0 : (a0 = none ∧ len0 = 0 ∧ cap0 = 0 ∧ z0 = []) ∨ ∃ x, a0 = some x ∧ len0 ≤ cap0 ∧ cap0 ≤ maxLen ∧ z0.length = cap0 ∧ (∀ i, i < z0.length → w.cell? (x.add i) = some (.int .i64 (z0.getD i 0))) ∧ ∀ n ∈ z0, (Lit.int .i64 n).wf = true) (y0 : len0 * 8 ≤ 140737488351232) (w1 : (Lit.int .i64 a1).wf = true) :
  Calls Try.prog 11 #[.slice a0 len0 cap0, .int .i64 a1] w fun e w' => e = .returned (.bool true) ∧ Below w.heap.size w w' := by
 obtain ⟨l0, rfl, hr0, hm0, hw0, hc0⟩ := ReadsInt.ofRowC w0
 obtain ⟨k, h⟩ := P l0 a1 hm0 y0 hw0 w1
 refine (corporalaw37_EnclosePowers.calls k _ _ l0 a1 true w (Kd.C_of_reads (d := (0 : Int)) (h1 := fun _ => rfl) hr0) hc0 h).mono ?_
 rintro e w' ⟨rfl, hd⟩
 exact ⟨rfl, hd⟩
end Go.Proofs.Ytccgfmjcldifcaa.P
