/- Walks of Go functions: what they compute; each theorem's conditions stand in it. -/
import Derived.Defers
import Derived.Recover
import Derived.Test.YtccgfmjcldifcaaT
import Derived.Test.YtccgfmjcldifcaaCCmp
import Derived.Test.YtccgfmjcldifcaaCIsRatio
import Derived.Test.YtccgfmjcldifcaaCPower
import Derived.Test.YtccgfmjcldifcaaCValid
import Derived.Test.YtccgfmjcldifcaaDA
import Derived.Test.YtccgfmjcldifcaaDE
namespace Go.Proofs.Ytccgfmjcldifcaa.P
open Go.RowKit Go.Proofs.YtccgfmjcldifcaaW.PrintWords Go.Proofs.YtccgfmjcldifcaaW.PrintLast Go.Proofs.YtccgfmjcldifcaaW.PrintMore
attribute [local go_sem] max2_int min2_int max_two min_two max_three min_three max_four min_four
set_option linter.unusedVariables false
set_option linter.unusedSimpArgs false
set_option maxHeartbeats 8000000 in
set_option maxRecDepth 100000 in
theorem enclose_power.calls (k : Nat) (a0 : ByteArray) (a1 : Int) (r : List Int) (w : World) (h : enclose_power.f k a0 a1 = some r) :
  Calls Try.prog 85 #[.string a0, .int .i64 a1] w fun e w' => ∃ v0_ : Value, e = .returned (v0_) ∧ Kd.R (Kd.int .u32) 117 w' w.heap.size (fun _ => True) v0_ r ∧ Below w.heap.size w w' := by
 have HB := Aside0.mk (Below.refl w.heap.size w)
 have H : (if 0 ≤ (IntKind.u64.wrap (a1)) then _ else _) = _ := h
 clear h
 obtain ⟨ji3, hji3⟩ : ∃ j_ : Int, (IntKind.u64.wrap (a1)) = j_ := ⟨_, rfl⟩
 replace H : (if 0 ≤ (ji3) then ((ratio_NatPower.f k a0 (shl .i64 1 (ji3))).bind fun bt578 => (if bt578.2 = 0 then (bignat_Parse.f k bt578.1) else (none))) else (none)) = some r := by first | (rw [hji3] at H; exact H) | (simp only [hji3] at H ⊢; exact H)
 by_cases c4 : 0 ≤ (ji3)
 ·rw [if_pos c4] at H
  have c4b0 := eq_true c4
  have c4b1 : decide (0 ≤ (ji3)) = true := decide_eq_true c4
  clear c4
  obtain ⟨ji5, hji5⟩ : ∃ j_ : Int, (shl .i64 1 (ji3)) = j_ := ⟨_, rfl⟩
  replace H : ((ratio_NatPower.f k a0 (ji5)).bind fun bt578 => (if bt578.2 = 0 then (bignat_Parse.f k bt578.1) else (none))) = some r := by first | (rw [hji5] at H; exact H) | (simp only [hji5] at H ⊢; exact H)
  have hji5_ : (IntKind.i64.wrap (1 * 2 ^ min (ji3).toNat 64)) = ji5 := hji5
  have hji5z : (ji3) ≤ 64 → (IntKind.i64.wrap (1 * 2 ^ (ji3).toNat)) = ji5 := shl_small hji5
  have hji5u : (IntKind.i64.wrap (2 ^ min (ji3).toNat 64)) = ji5 := by have h_ := hji5_; rw [Int.one_mul] at h_; exact h_
  have hji5v : (ji3) ≤ 64 → (IntKind.i64.wrap (2 ^ (ji3).toNat)) = ji5 := fun hle_ => by have h_ := hji5z hle_; rw [Int.one_mul] at h_; exact h_
  have hji5y : (wrap64 (1 * 2 ^ min (ji3).toNat 64)) = ji5 := (i64_w _).symm.trans hji5_
  have hji5x : (ji3) ≤ 64 → (wrap64 (1 * 2 ^ (ji3).toNat)) = ji5 := fun h_ => (i64_w _).symm.trans (hji5z h_)
  replace H := Option.bind_eq_some_iff.mp H
  obtain ⟨⟨t578, t579⟩, A60, H⟩ := H
  replace H : (if t579 = 0 then (bignat_Parse.f k t578) else none) = some r := H
  have A6 := Aside0.mk A60
  clear A60
  by_cases ce : t579 = 0
  ·subst ce
   have A7 := Aside0.mk ((if_pos rfl).symm.trans H)
   clear H
   go_enter Try.func85, Try.ntmps85
   go_wp2_with (first | ((with_reducible refine gate_callee (f := 123) rfl ?_); refine goesL_ (some 12) rfl rfl Try.func123 (by kernel_rfl) rfl #[.string a0, .int .i64 ji5] rfl (by (try simp only [List.map_toArray, List.map_cons, List.map_nil]); first | done | (simp only [hji5]; rfl) | rfl | (simp only [List.length_drop, List.length_take]; rfl)) ?_; (with_reducible refine (ratio_NatPower.calls k a0 ji5 t578 0 _ A6.out).mono ?_); rintro e w8 ⟨rfl, hb⟩; refine ⟨_, rfl, ?_⟩; replace HB := hs HB hb; (try clear hb)) | ((with_reducible refine gate_callee (f := 113) rfl ?_); refine goesL_ (some 20) rfl rfl Try.func113 (by kernel_rfl) rfl #[.string t578] rfl ga ?_; (with_reducible refine (bignat_Parse.calls k t578 r _ A7.out).mono ?_); rintro e w9 ⟨v581, rfl, ho0, hb⟩; refine ⟨_, rfl, ?_⟩; have HO582 := Aside0.mk (Kd.R_lower ho0 (below_size (by first | exact bl HB | exact HB.out))); replace HB := hs HB hb; (try clear hb); (try clear ho0)))
   go_ret
   exact ⟨_, by first | rfl | (simp [errW_none, errW_some] <;> rfl) | (simp only [← hji3, ← hji5]; first | rfl | (simp [errW_none, errW_some] <;> rfl)) | (simp [*, errW_none, errW_some] <;> rfl), by (with_reducible repeat (first | apply Kd.R_alloc | apply Kd.R_drewN | apply Kd.R_drew)); exact HO582.out, by first | exact bl HB | exact HB.out⟩
  ·exact absurd ((if_neg ce).symm.trans H) (by simp)
 ·rw [if_neg c4] at H
  exact absurd H (by simp)
set_option maxHeartbeats 8000000 in
set_option maxRecDepth 100000 in
theorem enclose_Log.idle (p0 p1 p2 : Addr) (w : World) :
  CallsD Try.prog 84 #[.pointer (some p0), .pointer (some p1), .pointer (some p2)] .returning w fun e u' w' => e = .returned (.tuple #[]) ∧ u' = .returning ∧ w' = w := by
 refine callsD_of_wpS Try.func84 rfl fun c₀ cs hu => ?_
 apply wpS_seq
 apply wpS_region
 simp [wpOpsS, go_sem, recoverD, hu, Try.ntmps84, Exit.thenS]
 apply wpS_seq
 apply wpS_region
 simp [wpOpsS, go_sem, Exit.thenS]
 refine wpS_cond (t := false) (by simp [Act.eval, Array.replicate]) ?_
 simp only [Bool.false_eq_true, if_false]
 refine wpS_of_wp (wp_skip ?_)
 cases c₀
 simp_all [bodyPostS, results, Try.results84]
theorem enclose_Log.res {fn : Func} (h : fn.results = #[.cell 4 3, .cell 5 4, .cell 6 24]) (tmps : Array Value) (w : World) (g1 g2 g3 : Nat) (v1 v2 v3 : Value)
  (h1 : tmps.getD 4 undef = .pointer (some ⟨g1, 0, none⟩)) (h2 : tmps.getD 5 undef = .pointer (some ⟨g2, 0, none⟩)) (h3 : tmps.getD 6 undef = .pointer (some ⟨g3, 0, none⟩))
  (c1 : w.cell? ⟨g1, 0, none⟩ = some v1) (c2 : w.cell? ⟨g2, 0, none⟩ = some v2) (c3 : w.cell? ⟨g3, 0, none⟩ = some v3) :
  (results fn tmps).run Try.prog w = .ok (.tuple #[v1, v2, v3]) w := by
 have h1' : tmps[4]?.getD undef = .pointer (some ⟨g1, 0, none⟩) := by simpa using h1
 have h2' : tmps[5]?.getD undef = .pointer (some ⟨g2, 0, none⟩) := by simpa using h2
 have h3' : tmps[6]?.getD undef = .pointer (some ⟨g3, 0, none⟩) := by simpa using h3
 simp [results, h, h1', h2', h3', asAddr, go_sem, c1, c2, c3]
theorem enclose_Log.z1 {w : World} {g : Nat} {a : Value} {t : TypeId} (h : Aside0 (w.heap[g]? = some (.cells #[a] t (0, 0)))) : w.cell? ⟨g, 0, none⟩ = some a ∧ w.frozen? ⟨g, 0, none⟩ = false := ⟨(blk_cell h.out 0).trans rfl, blk_frozen h.out 0⟩
theorem enclose_Log.te : ∀ q, q ∈ 117 :: (Kd.int .u32).E → q ≠ 3 := by
  intro q hq
  have : q = 117 := by simpa [Kd.int, Kd.scalar] using hq
  omega
theorem enclose_Log.rs {w0 w V : World} {b n c g : Nat} {ok : Nat → Prop} {A : Option Addr} {xs : List Int} {cs : Array Value} {x : Value} (h : Aside0 (Kd.R (Kd.int .u32) 117 w b ok (.slice A n c) xs)) (k : Aside0 (w0.heap[g]? = some (.cells cs 3 (0, 0)))) (v : V.heap[g]? = some (.cells cs 3 (0, 0)) := by exact bk) (u : Kd.R (Kd.int .u32) 117 V b ok (.slice A n c) xs := by exact rl (by assumption)) : Kd.C (Kd.int .u32) (V.setCell ⟨g, 0, none⟩ x) A xs.length xs := (Kd.R_reads' (Kd.R_set u v enclose_Log.te 0 x)).2.2
theorem enclose_Log.rb {w0 w V W : World} {b g : Nat} {ok : Nat → Prop} {vv : Value} {xs : List Int} {cs : Array Value} {x : Value} (h : Aside0 (Kd.R (Kd.int .u32) 117 w b ok vv xs)) (k : Aside0 (w0.heap[g]? = some (.cells cs 3 (0, 0)))) (hb : Below (V.setCell ⟨g, 0, none⟩ x).heap.size (V.setCell ⟨g, 0, none⟩ x) W) (v : V.heap[g]? = some (.cells cs 3 (0, 0)) := by exact bk) (u : Kd.R (Kd.int .u32) 117 V b ok vv xs := by exact rl (by assumption)) : Aside0 (Kd.R (Kd.int .u32) 117 W b ok vv xs) := ⟨Kd.R_below (Kd.R_set u v enclose_Log.te 0 x) hb⟩
def enclose_Log.noP (Q : Exit → Act → World → Prop) : Exit → Act → World → Prop
  | .panic _, _, _ => False
  | e, a, w => Q e a w
theorem enclose_Log.start {P : Program} {ops : Array Oper} {Q : Exit → Act → World → Prop} {S : World → Prop} {ds : List Nat} {id n : Nat} {a : Act} {w : World} (l : Array Bool) (hm : P.follows .mixedOrders = true) (hn : ops.size = n) (hl : Array.replicate n false = l) (hS : S w.drew)
    (h : S w.drew → wpAnyLast P .any ops (enclose_Log.noP Q) S ds n l a w.drew) : (Code.region id ops true).wp P Q a w := by
  have h1 := start_ (id := id) l hm hn hl hS h
  intro b k cs
  obtain ⟨e, a', w', hq, r⟩ := h1 b k cs
  refine ⟨e, a', w', ?_, r⟩
  cases e <;> first | exact hq | exact hq.elim
def enclose_Log.T4 : Bool × List (List Nat × List Nat) := (true, [([], []), ([0], [0]), ([], []), ([1, 2], [1, 2]), ([], []), ([4], [4]), ([], []), ([5, 6, 3], [5, 6]), ([3, 7, 0, 1, 2, 3], [3]), ([7, 8, 0, 1, 2, 3, 4, 5, 6, 7, 8], [7])])
def enclose_Log.B4 : List Nat := [0, 1, 0, 7, 0, 16, 0, 127, 255, 511]
theorem enclose_Log.tab4 : rtab .any (opsOf Try.f27 4) = enclose_Log.T4 := by kernel_rfl
theorem enclose_Log.bits4 : waitsOk enclose_Log.T4.2 enclose_Log.B4 = true := by kernel_rfl
set_option maxHeartbeats 8000000 in
set_option maxRecDepth 100000 in
theorem enclose_Log.calls (k : Nat) (a0_0 : Bool) (a0_1 : ByteArray) (a0_2 : ByteArray) (a1 : Int) (r1 : Int) (r2 : Bool) (r3 : Int) (w : World) (h : enclose_Log.f k a0_0 a0_1 a0_2 a1 = some (r1, r2, r3)) :
  Calls Try.prog 27 #[.agg #[.bool a0_0, .string a0_1, .string a0_2], .int .i64 a1] w fun e w' => e = .returned (.tuple #[.int .i64 r1, .bool r2, .int .i64 r3]) ∧ Below w.heap.size w w' := by
 have hmf : ∀ (fn : Fn) (first cap : Array Value) (w : World), (Instr.makeFunc fn first cap).run Try.prog w = .ok (.func fn first cap) w := fun _ _ _ _ => rfl
 have hu35 := Try.underlying35
 have HB := Aside0.mk (Below.refl w.heap.size w)
 have H : Option.bind (ratio_IsRatio.f k a0_0 a0_1 a0_2) _ = _ := h
 clear h
 have HC3 := Aside0.mk H
 clear H
 go_enter_defers Try.func27, Try.ntmps27
 go_upto_region 1 with (first | ((with_reducible refine gate_dst (N := 2) rfl ?_); refine be (N := 2) (cs := #[.bool a0_0, .string a0_1, .string a0_2]) (t := 35) ?_; intro gb586 hg w4 hbox hb; have BK586 := Aside0.mk (hbox); have GW586 := gw HB hg; have GE586 := GW586; replace HB := hs HB hb; clear hb hbox hg) | ((with_reducible refine gate_dst (N := 4) rfl ?_); refine be (N := 4) (cs := #[.int .i64 0]) (t := 3) ?_; intro gb1 hg w5 hbox hb; have BK1 := Aside0.mk (hbox); have GW1 := gw HB hg; have NB586_1 := na BK586 hg; have NB1_586 := nz NB586_1; replace BK586 := bb BK586 hb; replace HB := hs HB hb; clear hb hbox hg) | ((with_reducible refine gate_dst (N := 5) rfl ?_); refine be (N := 5) (cs := #[.bool false]) (t := 4) ?_; intro gb2 hg w6 hbox hb; have BK2 := Aside0.mk (hbox); have GW2 := gw HB hg; have NB586_2 := na BK586 hg; have NB2_586 := nz NB586_2; have NB1_2 := na BK1 hg; have NB2_1 := nz NB1_2; replace BK586 := bb BK586 hb; replace BK1 := bb BK1 hb; replace HB := hs HB hb; clear hb hbox hg) | ((with_reducible refine gate_dst (N := 6) rfl ?_); refine be (N := 6) (cs := #[.int .i64 0]) (t := 24) ?_; intro gb3 hg w7 hbox hb; have BK3 := Aside0.mk (hbox); have GW3 := gw HB hg; have NB586_3 := na BK586 hg; have NB3_586 := nz NB586_3; have NB1_3 := na BK1 hg; have NB3_1 := nz NB1_3; have NB2_3 := na BK2 hg; have NB3_2 := nz NB2_3; replace BK586 := bb BK586 hb; replace BK1 := bb BK1 hb; replace BK2 := bb BK2 hb; replace HB := hs HB hb; clear hb hbox hg))
 (try simp only [Act.put, List.setIfInBounds_toArray, List.set_cons_zero, List.set_cons_succ])
 go_cut [29] from 10 to 58 (fun v29 wc => ∃ (kq : Nat) (x29_2 : Bool), v29 = .bool x29_2 ∧ Aside0 (enclose_Log.j0 kq a1 x29_2 a0_0 a0_1 a0_2 = some (r1, r2, r3)) ∧ Aside0 (kq ≤ k) ∧ Aside0 (wc.heap[gb586]? = some (.cells #[.bool a0_0, .string a0_1, .string a0_2] 35 (0, 0))) ∧ Aside0 (wc.heap[gb1]? = some (.cells #[.int .i64 0] 3 (0, 0))) ∧ Aside0 (wc.heap[gb2]? = some (.cells #[.bool false] 4 (0, 0))) ∧ Aside0 (wc.heap[gb3]? = some (.cells #[.int .i64 0] 24 (0, 0))) ∧ Aside0 (Below w.heap.size w wc))
 case first =>
  have H := HC3.out
  clear HC3
  replace H := Option.bind_eq_some_iff.mp H
  obtain ⟨t592, A50, H⟩ := H
  replace H : (if t592 = true then _ else _) = _ := H
  have A5 := Aside0.mk A50
  clear A50
  by_cases c6 : t592 = true
  ·subst c6
   have H1 : (if a0_0 = true then _ else _) = _ := (if_pos rfl).symm.trans H
   clear H
   have H := H1
   clear H1
   by_cases c7 : a0_0 = true
   ·subst c7
    have H1 : (enclose_Log.j0 k a1 true true a0_1 a0_2) = some (r1, r2, r3) := by rw [if_pos rfl] at H; exact H
    clear H
    have H := H1
    clear H1
    have H' := Aside0.mk H
    clear H
    obtain ⟨hcz8_0, hcz8_1, hcz8_2, hfz8_0, hfz8_1, hfz8_2⟩ := z3 BK586
    go_wp2_with (first | ((with_reducible refine gate_callee (f := 44) rfl ?_); refine goesL_ (some 11) rfl rfl Try.func44 (by kernel_rfl) rfl #[.agg #[.bool true, .string a0_1, .string a0_2]] rfl ga ?_; (with_reducible refine (ratio_IsRatio.calls k true a0_1 a0_2 true _ A5.out).mono ?_); rintro e w9 ⟨rfl, hb⟩; refine ⟨_, rfl, ?_⟩; replace BK586 := bb BK586 hb; replace BK1 := bb BK1 hb; replace BK2 := bb BK2 hb; replace BK3 := bb BK3 hb; replace HB := hs HB hb; (try clear hb); obtain ⟨hcz10_0, hcz10_1, hcz10_2, hfz10_0, hfz10_1, hfz10_2⟩ := z3 BK586))
    go_meet
    case rel => exact ⟨_, (true), sv, H', ⟨by first | omega | exact Nat.le_refl _⟩, ⟨bk⟩, ⟨bk⟩, ⟨bk⟩, ⟨bk⟩, ⟨bs⟩⟩
   ·replace c7 := Bool.eq_false_iff.mpr c7
    subst c7
    have H1 : (if a0_1.toList = ([48] : List UInt8) then _ else _) = _ := (if_neg (show ¬ (false = true) by decide)).symm.trans H
    clear H
    have H := H1
    clear H1
    by_cases c11 : a0_1.toList = ([48] : List UInt8)
    ·rw [if_pos c11] at H
     have c11b0 : (a0_1.toList == ([48] : List UInt8)) = true := beq_iff_eq.mpr c11
     have c11b1 : (a0_1.toList != ([48] : List UInt8)) = false := bne_eq_false_iff_eq.mpr c11
     clear c11
     (first | rw [c11b0] | (simp only [i64_w, i32_w]; rw [c11b0]) | skip)
     have H' := Aside0.mk H
     clear H
     obtain ⟨hcz12_0, hcz12_1, hcz12_2, hfz12_0, hfz12_1, hfz12_2⟩ := z3 BK586
     go_wp2_with (first | ((with_reducible refine gate_callee (f := 44) rfl ?_); refine goesL_ (some 11) rfl rfl Try.func44 (by kernel_rfl) rfl #[.agg #[.bool false, .string a0_1, .string a0_2]] rfl ga ?_; (with_reducible refine (ratio_IsRatio.calls k false a0_1 a0_2 true _ A5.out).mono ?_); rintro e w13 ⟨rfl, hb⟩; refine ⟨_, rfl, ?_⟩; replace BK586 := bb BK586 hb; replace BK1 := bb BK1 hb; replace BK2 := bb BK2 hb; replace BK3 := bb BK3 hb; replace HB := hs HB hb; (try clear hb); obtain ⟨hcz14_0, hcz14_1, hcz14_2, hfz14_0, hfz14_1, hfz14_2⟩ := z3 BK586))
     go_meet
     case rel => exact ⟨_, (true), sv, H', ⟨by first | omega | exact Nat.le_refl _⟩, ⟨bk⟩, ⟨bk⟩, ⟨bk⟩, ⟨bk⟩, ⟨bs⟩⟩
    ·rw [if_neg c11] at H
     have c11b0 : (a0_1.toList == ([48] : List UInt8)) = false := beq_eq_false_iff_ne.mpr c11
     have c11b1 : (a0_1.toList != ([48] : List UInt8)) = true := bne_iff_ne.mpr c11
     (first | rw [c11b0] | (simp only [i64_w, i32_w]; rw [c11b0]) | skip)
     by_cases c15 : a1 < 0
     ·rw [if_pos c15] at H
      have c15b0 : decide (a1 < 0) = true := decide_eq_true c15
      clear c15
      have H' := Aside0.mk H
      clear H
      obtain ⟨hcz16_0, hcz16_1, hcz16_2, hfz16_0, hfz16_1, hfz16_2⟩ := z3 BK586
      go_wp2_with (first | ((with_reducible refine gate_callee (f := 44) rfl ?_); refine goesL_ (some 11) rfl rfl Try.func44 (by kernel_rfl) rfl #[.agg #[.bool false, .string a0_1, .string a0_2]] rfl ga ?_; (with_reducible refine (ratio_IsRatio.calls k false a0_1 a0_2 true _ A5.out).mono ?_); rintro e w17 ⟨rfl, hb⟩; refine ⟨_, rfl, ?_⟩; replace BK586 := bb BK586 hb; replace BK1 := bb BK1 hb; replace BK2 := bb BK2 hb; replace BK3 := bb BK3 hb; replace HB := hs HB hb; (try clear hb); obtain ⟨hcz18_0, hcz18_1, hcz18_2, hfz18_0, hfz18_1, hfz18_2⟩ := z3 BK586))
      go_meet
      case rel => exact ⟨_, (true), sv, H', ⟨by first | omega | exact Nat.le_refl _⟩, ⟨bk⟩, ⟨bk⟩, ⟨bk⟩, ⟨bk⟩, ⟨bs⟩⟩
     ·rw [if_neg c15] at H
      have c15b0 : decide (a1 < 0) = false := decide_eq_false c15
      clear c15
      have H' := Aside0.mk H
      clear H
      obtain ⟨hcz19_0, hcz19_1, hcz19_2, hfz19_0, hfz19_1, hfz19_2⟩ := z3 BK586
      go_wp2_with (first | ((with_reducible refine gate_callee (f := 44) rfl ?_); refine goesL_ (some 11) rfl rfl Try.func44 (by kernel_rfl) rfl #[.agg #[.bool false, .string a0_1, .string a0_2]] rfl ga ?_; (with_reducible refine (ratio_IsRatio.calls k false a0_1 a0_2 true _ A5.out).mono ?_); rintro e w20 ⟨rfl, hb⟩; refine ⟨_, rfl, ?_⟩; replace BK586 := bb BK586 hb; replace BK1 := bb BK1 hb; replace BK2 := bb BK2 hb; replace BK3 := bb BK3 hb; replace HB := hs HB hb; (try clear hb); obtain ⟨hcz21_0, hcz21_1, hcz21_2, hfz21_0, hfz21_1, hfz21_2⟩ := z3 BK586))
      go_meet
      case rel => exact ⟨_, (decide (a1 > 8)), sv, H', ⟨by first | omega | exact Nat.le_refl _⟩, ⟨bk⟩, ⟨bk⟩, ⟨bk⟩, ⟨bk⟩, ⟨bs⟩⟩
  ·replace c6 := Bool.eq_false_iff.mpr c6
   subst c6
   have H1 : (enclose_Log.j0 k a1 true a0_0 a0_1 a0_2) = some (r1, r2, r3) := by rw [if_neg (show ¬ (false = true) by decide)] at H; exact H
   clear H
   have H := H1
   clear H1
   have H' := Aside0.mk H
   clear H
   obtain ⟨hcz22_0, hcz22_1, hcz22_2, hfz22_0, hfz22_1, hfz22_2⟩ := z3 BK586
   go_wp2_with (first | ((with_reducible refine gate_callee (f := 44) rfl ?_); refine goesL_ (some 11) rfl rfl Try.func44 (by kernel_rfl) rfl #[.agg #[.bool a0_0, .string a0_1, .string a0_2]] rfl ga ?_; (with_reducible refine (ratio_IsRatio.calls k a0_0 a0_1 a0_2 false _ A5.out).mono ?_); rintro e w23 ⟨rfl, hb⟩; refine ⟨_, rfl, ?_⟩; replace BK586 := bb BK586 hb; replace BK1 := bb BK1 hb; replace BK2 := bb BK2 hb; replace BK3 := bb BK3 hb; replace HB := hs HB hb; (try clear hb)))
   go_meet
   case rel => exact ⟨_, (true), sv, H', ⟨by first | omega | exact Nat.le_refl _⟩, ⟨bk⟩, ⟨bk⟩, ⟨bk⟩, ⟨bk⟩, ⟨bs⟩⟩
 case rest =>
  clear HC3
  obtain ⟨kq, x29_2, rfl, HA, HJ2, BK586, BK1, BK2, BK3, HB⟩ := hcut
  cases kq with
  | zero => exact absurd HA.out (by simp [enclose_Log.j0])
  | succ kj2 =>
   have H := HA.out
   clear HA
   simp only [enclose_Log.j0] at H
   by_cases c24 : x29_2 = true
   ·subst c24
    have H1 : (some (0, false, 1)) = some (r1, r2, r3) := by rw [if_pos rfl] at H; exact H
    clear H
    have H := H1
    clear H1
    simp only [Option.some.injEq, Prod.mk.injEq] at H
    obtain ⟨rfl, rfl, rfl⟩ := H
    obtain ⟨hc01_, hf01_⟩ := enclose_Log.z1 BK1; obtain ⟨hc02_, hf02_⟩ := enclose_Log.z1 BK2; obtain ⟨hc03_, hf03_⟩ := enclose_Log.z1 BK3
    have hnb12 := NB1_2.out
    have hnb13 := NB1_3.out
    have hnb23 := NB2_3.out
    have hnb21 := NB2_1.out
    have hnb31 := NB3_1.out
    have hnb32 := NB3_2.out
    go_wp2
    refine ⟨_, enclose_Log.res Try.results27 _ _ gb1 gb2 gb3 (.int .i64 0) (.bool false) (.int .i64 1) rfl rfl rfl ((blk_cell (cs := #[(.int .i64 0)]) (t := 3) bw 0).trans rfl) ((blk_cell (cs := #[(.bool false)]) (t := 4) bw 0).trans rfl) ((blk_cell (cs := #[(.int .i64 1)]) (t := 24) bw 0).trans rfl), rfl, bs⟩
   ·replace c24 := Bool.eq_false_iff.mpr c24
    subst c24
    have H1 : Option.bind (enclose_power.f kj2 a0_1 a1) _ = _ := (if_neg (show ¬ (false = true) by decide)).symm.trans H
    clear H
    have H := H1
    clear H1
    replace H := Option.bind_eq_some_iff.mp H
    obtain ⟨t593, A250, H⟩ := H
    replace H : Option.bind (enclose_power.f kj2 a0_2 a1) _ = _ := H
    have A25 := Aside0.mk A250
    clear A250
    replace H := Option.bind_eq_some_iff.mp H
    obtain ⟨t596, A260, H⟩ := H
    replace H : Option.bind (bignat_Nat_Bits.f t593) _ = _ := H
    have A26 := Aside0.mk A260
    clear A260
    replace H := Option.bind_eq_some_iff.mp H
    obtain ⟨t599, A270, H⟩ := H
    replace H : Option.bind (bignat_Nat_Bits.f t596) _ = _ := H
    have A27 := Aside0.mk A270
    clear A270
    replace H := Option.bind_eq_some_iff.mp H
    obtain ⟨t600, A280, H⟩ := H
    replace H : Option.bind (enclose_times.f kj2 t593 t596 (wrap64 (t599 - t600))) _ = _ := H
    have A28 := Aside0.mk A280
    clear A280
    replace H := Option.bind_eq_some_iff.mp H
    obtain ⟨t601, A290, H⟩ := H
    replace H : (if t601 > 0 then _ else _) = _ := H
    have A29 := Aside0.mk A290
    clear A290
    have HH_ := Aside0.mk H
    clear H
    try go_wp2
    replace BK586 := Aside0.mk (blk_drew BK586.out)
    replace BK1 := Aside0.mk (blk_drew BK1.out)
    replace BK2 := Aside0.mk (blk_drew BK2.out)
    replace BK3 := Aside0.mk (blk_drew BK3.out)
    replace HB := Aside0.mk (below_drew1 HB.out)
    refine enclose_Log.start (n := 10) (S := fun w' => w'.cell? ⟨gb586, 0, none⟩ = some (.bool a0_0) ∧ w'.cell? ⟨gb586, 1, none⟩ = some (.string a0_1) ∧ w'.cell? ⟨gb586, 2, none⟩ = some (.string a0_2)) (ds := []) #[false, false, false, false, false, false, false, false, false, false] (by kernel_rfl) rfl rfl ⟨(blk_cell BK586.out 0).trans rfl, (blk_cell BK586.out 1).trans rfl, (blk_cell BK586.out 2).trans rfl⟩ (fun hHeld => ?_); refine with_tabW enclose_Log.tab4 enclose_Log.bits4 (fun HT_ HW_ => ?_)
    generalize wc.drew = w32 at BK586 BK1 BK2 BK3 HB hHeld ⊢
    refine pu (i := 0) (N := some 31) ?_
    refine pu (i := 2) (N := some 33) ?_
    refine pu (i := 4) (N := some 35) ?_
    refine pu (i := 6) (N := some 37) ?_
    refine ta (i := 1) (N := some 32) hHeld ?_
    refine ta (i := 5) (N := some 36) hHeld ?_
    refine on (i := 3) (N := some 34) (fun K hK => ?_)
    refine goes_ Try.func85 (by kernel_rfl) rfl #[.string a0_1, .int .i64 a1] (by rfl) rfl rfl ga ?_
    with_reducible refine (enclose_power.calls kj2 a0_1 a1 t593 _ A25.out).mono ?_
    rintro e w33 ⟨v594, rfl, ho0, hb⟩
    refine ⟨_, rfl, ?_⟩
    have HO595 := Aside0.mk (Kd.R_lower ho0 (below_size bs))
    replace BK586 := bb BK586 hb
    replace BK1 := bb BK1 hb
    replace BK2 := bb BK2 hb
    replace BK3 := bb BK3 hb
    replace HB := hs HB hb
    (try clear hb)
    (try clear hb2)
    (try clear hk)
    (try clear hi)
    (try clear ho0)
    refine hK.out _ _ ⟨(blk_cell BK586.out 0).trans rfl, (blk_cell BK586.out 1).trans rfl, (blk_cell BK586.out 2).trans rfl⟩ (fun hHeld => ?_)
    clear hK K
    refine norm_ (a' := ?_) ?_ ?_
    rotate_left
    ·show Act.put _ (some 34) _ = _
     simp only [Act.put, List.setIfInBounds_toArray, List.set_cons_zero, List.set_cons_succ, i64_w, i32_w]
     rfl
    refine on (i := 7) (N := some 38) (fun K hK => ?_)
    refine goes_ Try.func85 (by kernel_rfl) rfl #[.string a0_2, .int .i64 a1] (by rfl) rfl rfl ga ?_
    with_reducible refine (enclose_power.calls kj2 a0_2 a1 t596 _ A26.out).mono ?_
    rintro e w34 ⟨v597, rfl, ho0, hb⟩
    refine ⟨_, rfl, ?_⟩
    have HO598 := Aside0.mk (Kd.R_lower (Kd.R_new' ho0 (Kd.R_lt (rl HO595))) (below_size bs))
    replace HO595 := Aside0.mk (Kd.R_elder' (rl HO595) (Kd.R_base ho0) hb)
    replace BK586 := bb BK586 hb
    replace BK1 := bb BK1 hb
    replace BK2 := bb BK2 hb
    replace BK3 := bb BK3 hb
    replace HB := hs HB hb
    (try clear hb)
    (try clear hb2)
    (try clear hk)
    (try clear hi)
    (try clear ho0)
    refine hK.out _ _ ⟨(blk_cell BK586.out 0).trans rfl, (blk_cell BK586.out 1).trans rfl, (blk_cell BK586.out 2).trans rfl⟩ (fun hHeld => ?_)
    clear hK K
    refine norm_ (a' := ?_) ?_ ?_
    rotate_left
    ·show Act.put _ (some 38) _ = _
     simp only [Act.put, List.setIfInBounds_toArray, List.set_cons_zero, List.set_cons_succ, i64_w, i32_w]
     rfl
    refine pu (i := 8) (N := some 7) ?_
    refine pu (i := 9) (N := some 8) ?_
    refine done_ (done_of HT_.out (by kernel_rfl)) ?_
    have H := HH_.out
    clear HH_
    by_cases c30 : t601 > 0
    ·rw [if_pos c30] at H
     have c30b0 : decide (0 < t601) = true := decide_eq_true c30
     clear c30
     replace H := Option.bind_eq_some_iff.mp H
     obtain ⟨t602, A310, H⟩ := H
     replace H : (some (wrap64 ((wrap64 (t599 - t600)) - 1), (t602 == 0), 0)) = some (r1, r2, r3) := H
     have A31 := Aside0.mk A310
     clear A310
     simp only [Option.some.injEq, Prod.mk.injEq] at H
     obtain ⟨rfl, rfl, rfl⟩ := H
     simp only [enclose_Log.noP]
     obtain ⟨Ao35, co35, eo35⟩ := Kd.R_slice HO595.out
     subst eo35
     obtain ⟨hc11_, hf11_⟩ := enclose_Log.z1 BK1; obtain ⟨hc12_, hf12_⟩ := enclose_Log.z1 BK2; obtain ⟨hc13_, hf13_⟩ := enclose_Log.z1 BK3
     have hnb12 := NB1_2.out
     have hnb13 := NB1_3.out
     have hnb23 := NB2_3.out
     have hnb21 := NB2_1.out
     have hnb31 := NB3_1.out
     have hnb32 := NB3_2.out
     try go_wp2_with (first | ((with_reducible refine gate_callee (f := 86) rfl ?_); refine goesL_ (some 40) rfl rfl Try.func86 (by kernel_rfl) rfl #[.slice Ao35 t593.length co35] rfl ga ?_; (with_reducible refine (bignat_Nat_Bits.calls _ _ t593 t599 _ ?side1 ?side2 A27.out).mono ?_); (case side1 => exact cl ((Kd.R_reads' HO595.out).2.2)); (case side2 => exact (Kd.R_reads' HO595.out).2.1); rintro e w' ⟨rfl, ⟨nd, rfl⟩⟩; refine ⟨_, rfl, ?_⟩; obtain ⟨Ao36, co36, eo36⟩ := Kd.R_slice HO598.out; subst eo36) | ((with_reducible refine gate_callee (f := 86) rfl ?_); refine goesL_ (some 42) rfl rfl Try.func86 (by kernel_rfl) rfl #[.slice Ao36 t596.length co36] rfl ga ?_; (with_reducible refine (bignat_Nat_Bits.calls _ _ t596 t600 _ ?side1 ?side2 A28.out).mono ?_); (case side1 => exact cl ((Kd.R_reads' HO598.out).2.2)); (case side2 => exact (Kd.R_reads' HO598.out).2.1); rintro e w' ⟨rfl, ⟨nd, rfl⟩⟩; refine ⟨_, rfl, ?_⟩) | ((with_reducible refine gate_callee (f := 87) rfl ?_); refine goesL_ (some 47) rfl rfl Try.func87 (by kernel_rfl) rfl #[.slice Ao35 t593.length co35, .slice Ao36 t596.length co36, .int .i64 (wrap64 (t599 - t600))] rfl ga ?_; (with_reducible refine (enclose_times.calls kj2 _ _ t593 _ _ t596 (wrap64 (t599 - t600)) t601 _ ?side1 ?side2 ?side3 ?side4 A29.out).mono ?_); (case side1 => exact enclose_Log.rs HO595 BK1); (case side2 => exact (Kd.R_reads' HO595.out).2.1); (case side3 => exact enclose_Log.rs HO598 BK1); (case side4 => exact (Kd.R_reads' HO598.out).2.1); rintro e w37 ⟨rfl, hb⟩; refine ⟨_, rfl, ?_⟩; replace HO595 := enclose_Log.rb HO595 BK1 hb; replace HO598 := enclose_Log.rb HO598 BK1 hb; replace BK586 := bb BK586 hb; replace BK1 := bq BK1 #[.int .i64 (wrap64 (t599 - t600))] hb; replace BK2 := bb BK2 hb; replace BK3 := bb BK3 hb; replace HB := hs HB hb; (try clear hb); obtain ⟨hc201_, hf201_⟩ := enclose_Log.z1 BK1; obtain ⟨hc202_, hf202_⟩ := enclose_Log.z1 BK2; obtain ⟨hc203_, hf203_⟩ := enclose_Log.z1 BK3) | ((with_reducible refine gate_callee (f := 87) rfl ?_); refine goesL_ (some 55) rfl rfl Try.func87 (by kernel_rfl) rfl #[.slice Ao35 t593.length co35, .slice Ao36 t596.length co36, .int .i64 (wrap64 ((wrap64 (t599 - t600)) - 1))] rfl ga ?_; (with_reducible refine (enclose_times.calls kj2 _ _ t593 _ _ t596 (wrap64 ((wrap64 (t599 - t600)) - 1)) t602 _ ?side1 ?side2 ?side3 ?side4 A31.out).mono ?_); (case side1 => exact enclose_Log.rs HO595 BK1); (case side2 => exact (Kd.R_reads' HO595.out).2.1); (case side3 => exact enclose_Log.rs HO598 BK1); (case side4 => exact (Kd.R_reads' HO598.out).2.1); rintro e w38 ⟨rfl, hb⟩; refine ⟨_, rfl, ?_⟩; replace HO595 := enclose_Log.rb HO595 BK1 hb; replace HO598 := enclose_Log.rb HO598 BK1 hb; replace BK586 := bb BK586 hb; replace BK1 := bq BK1 #[.int .i64 (wrap64 ((wrap64 (t599 - t600)) - 1))] hb; replace BK2 := bb BK2 hb; replace BK3 := bb BK3 hb; replace HB := hs HB hb; (try clear hb); obtain ⟨hc211_, hf211_⟩ := enclose_Log.z1 BK1; obtain ⟨hc212_, hf212_⟩ := enclose_Log.z1 BK2; obtain ⟨hc213_, hf213_⟩ := enclose_Log.z1 BK3))
     refine leaves_cons (f := 84) (args := #[.pointer (some ⟨gb1, 0, none⟩), .pointer (some ⟨gb2, 0, none⟩), .pointer (some ⟨gb3, 0, none⟩)]) (by simp) (by simp [go_sem]) ?_
     refine (enclose_Log.idle _ _ _ _).mono ?_
     rintro e u' w'' ⟨rfl, rfl, rfl⟩
     refine ⟨_, enclose_Log.res Try.results27 _ _ gb1 gb2 gb3 (.int .i64 (wrap64 ((wrap64 (t599 - t600)) - 1))) (.bool (t602 == 0)) (.int .i64 0) rfl rfl rfl ((blk_cell (cs := #[(.int .i64 (wrap64 ((wrap64 (t599 - t600)) - 1)))]) (t := 3) bw 0).trans rfl) ((blk_cell (cs := #[(.bool (t602 == 0))]) (t := 4) bw 0).trans rfl) ((blk_cell (cs := #[(.int .i64 0)]) (t := 24) bw 0).trans rfl), rfl, bs⟩
    ·rw [if_neg c30] at H
     have c30b0 : decide (0 < t601) = false := decide_eq_false c30
     clear c30
     simp only [Option.some.injEq, Prod.mk.injEq] at H
     obtain ⟨rfl, rfl, rfl⟩ := H
     simp only [enclose_Log.noP]
     obtain ⟨Ao42, co42, eo42⟩ := Kd.R_slice HO595.out
     subst eo42
     obtain ⟨hc21_, hf21_⟩ := enclose_Log.z1 BK1; obtain ⟨hc22_, hf22_⟩ := enclose_Log.z1 BK2; obtain ⟨hc23_, hf23_⟩ := enclose_Log.z1 BK3
     have hnb12 := NB1_2.out
     have hnb13 := NB1_3.out
     have hnb23 := NB2_3.out
     have hnb21 := NB2_1.out
     have hnb31 := NB3_1.out
     have hnb32 := NB3_2.out
     try go_wp2_with (first | ((with_reducible refine gate_callee (f := 86) rfl ?_); refine goesL_ (some 40) rfl rfl Try.func86 (by kernel_rfl) rfl #[.slice Ao42 t593.length co42] rfl ga ?_; (with_reducible refine (bignat_Nat_Bits.calls _ _ t593 t599 _ ?side1 ?side2 A27.out).mono ?_); (case side1 => exact cl ((Kd.R_reads' HO595.out).2.2)); (case side2 => exact (Kd.R_reads' HO595.out).2.1); rintro e w' ⟨rfl, ⟨nd, rfl⟩⟩; refine ⟨_, rfl, ?_⟩; obtain ⟨Ao43, co43, eo43⟩ := Kd.R_slice HO598.out; subst eo43) | ((with_reducible refine gate_callee (f := 86) rfl ?_); refine goesL_ (some 42) rfl rfl Try.func86 (by kernel_rfl) rfl #[.slice Ao43 t596.length co43] rfl ga ?_; (with_reducible refine (bignat_Nat_Bits.calls _ _ t596 t600 _ ?side1 ?side2 A28.out).mono ?_); (case side1 => exact cl ((Kd.R_reads' HO598.out).2.2)); (case side2 => exact (Kd.R_reads' HO598.out).2.1); rintro e w' ⟨rfl, ⟨nd, rfl⟩⟩; refine ⟨_, rfl, ?_⟩) | ((with_reducible refine gate_callee (f := 87) rfl ?_); refine goesL_ (some 47) rfl rfl Try.func87 (by kernel_rfl) rfl #[.slice Ao42 t593.length co42, .slice Ao43 t596.length co43, .int .i64 (wrap64 (t599 - t600))] rfl ga ?_; (with_reducible refine (enclose_times.calls kj2 _ _ t593 _ _ t596 (wrap64 (t599 - t600)) t601 _ ?side1 ?side2 ?side3 ?side4 A29.out).mono ?_); (case side1 => exact enclose_Log.rs HO595 BK1); (case side2 => exact (Kd.R_reads' HO595.out).2.1); (case side3 => exact enclose_Log.rs HO598 BK1); (case side4 => exact (Kd.R_reads' HO598.out).2.1); rintro e w44 ⟨rfl, hb⟩; refine ⟨_, rfl, ?_⟩; replace HO595 := enclose_Log.rb HO595 BK1 hb; replace HO598 := enclose_Log.rb HO598 BK1 hb; replace BK586 := bb BK586 hb; replace BK1 := bq BK1 #[.int .i64 (wrap64 (t599 - t600))] hb; replace BK2 := bb BK2 hb; replace BK3 := bb BK3 hb; replace HB := hs HB hb; (try clear hb); obtain ⟨hc301_, hf301_⟩ := enclose_Log.z1 BK1; obtain ⟨hc302_, hf302_⟩ := enclose_Log.z1 BK2; obtain ⟨hc303_, hf303_⟩ := enclose_Log.z1 BK3))
     refine leaves_cons (f := 84) (args := #[.pointer (some ⟨gb1, 0, none⟩), .pointer (some ⟨gb2, 0, none⟩), .pointer (some ⟨gb3, 0, none⟩)]) (by simp) (by simp [go_sem]) ?_
     refine (enclose_Log.idle _ _ _ _).mono ?_
     rintro e u' w'' ⟨rfl, rfl, rfl⟩
     refine ⟨_, enclose_Log.res Try.results27 _ _ gb1 gb2 gb3 (.int .i64 (wrap64 (t599 - t600))) (.bool (t601 == 0)) (.int .i64 0) rfl rfl rfl ((blk_cell (cs := #[(.int .i64 (wrap64 (t599 - t600)))]) (t := 3) bw 0).trans rfl) ((blk_cell (cs := #[(.bool (t601 == 0))]) (t := 4) bw 0).trans rfl) ((blk_cell (cs := #[(.int .i64 0)]) (t := 24) bw 0).trans rfl), rfl, bs⟩
end Go.Proofs.Ytccgfmjcldifcaa.P
