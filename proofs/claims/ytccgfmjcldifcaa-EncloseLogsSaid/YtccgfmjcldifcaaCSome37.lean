/- Walks of Go functions: what they compute; each theorem's conditions stand in it. -/
import Derived.Test.YtccgfmjcldifcaaT
import Derived.Test.YtccgfmjcldifcaaCMade
import Derived.Test.YtccgfmjcldifcaaCNat0
import Derived.Test.YtccgfmjcldifcaaCRLow
import Derived.Test.YtccgfmjcldifcaaDA
import Derived.Test.YtccgfmjcldifcaaDB
import Derived.Test.YtccgfmjcldifcaaDE
namespace Go.Proofs.Ytccgfmjcldifcaa.P
open Go.RowKit Go.Proofs.YtccgfmjcldifcaaW.PrintWords Go.Proofs.YtccgfmjcldifcaaW.PrintLast Go.Proofs.YtccgfmjcldifcaaW.PrintMore
attribute [local go_sem] max2_int min2_int max_two min_two max_three min_three max_four min_four
set_option linter.unusedVariables false
set_option linter.unusedSimpArgs false
set_option maxHeartbeats 8000000 in
set_option maxRecDepth 100000 in
theorem corporalaw37_some.calls (k : Nat) (g : Nat) (s0_0 : List Int) (s0_1 : Int) (a1 : Bool) (r1 : Bool) (r2 : ByteArray) (r3 : ByteArray) (r4 : Int) (w0 w : World) (hI : IsS83 w0 w g s0_0 s0_1) (hB : Below w0.heap.size w0 w) (h : corporalaw37_some.f k s0_0 s0_1 a1 = some (r1, r2, r3, r4)) :
  Calls Try.prog 24 #[.pointer (some ⟨g, 0, none⟩), .bool a1] w fun e w' => e = .returned (.agg #[.bool r1, .string r2, .string r3]) ∧ IsS83 w0 w' g s0_0 r4 ∧ Below w0.heap.size w0 w' ∧ KeepBut w w' g none := by
 have hu35 := Try.underlying35
 have HI0 := Aside0.mk hI
 have HK := Aside0.mk (KeepBut.refl w g none)
 have HL := Aside0.mk hB.size
 clear hI
 have HW0 := Aside0.mk hB.size
 have HB := Aside0.mk hB
 clear hB
 have H : Option.bind (corporamade_Tape_Natural.f k s0_0 s0_1 6) _ = _ := h
 clear h
 replace H := Option.bind_eq_some_iff.mp H
 obtain ⟨⟨t481, t482⟩, A30, H⟩ := H
 replace H : Option.bind (corporamade_Tape_Natural.f k s0_0 t482 6) _ = _ := H
 have A3 := Aside0.mk A30
 clear A30
 replace H := Option.bind_eq_some_iff.mp H
 obtain ⟨⟨t483, t484⟩, A40, H⟩ := H
 replace H : (if a1 = true then _ else _) = _ := H
 have A4 := Aside0.mk A40
 clear A40
 have HC5 := Aside0.mk H
 clear H
 go_enter Try.func24, Try.ntmps24
 go_upto_region 2 with (first | ((with_reducible refine gate_dst (N := 4) rfl ?_); refine be (N := 4) (cs := #[.bool false, .string (⟨#[]⟩ : ByteArray), .string (⟨#[]⟩ : ByteArray)]) (t := 35) ?_; intro gb480 hg w6 hbox hb; replace HB := Aside0.mk (below_step (by repeat (first | (with_reducible first | exact HB.out | apply below_alloc | apply pw_below_drewN | apply below_drew1 | refine below_set ?_ (IsS83.ge HI0.out)) | exact HB.out)) hb); have BK480 := Aside0.mk (hbox); have GW480 := Aside0.mk ((by rw [hg]; exact (keep_size (w := w) (g := g) (row := none) (by repeat (first | (with_reducible first | exact HK.out | apply KeepBut.set_ | apply keep_drewN | apply keep_drew | apply keep_alloc) | exact HK.out))) : w.heap.size ≤ gb480)); have GE480 := Aside0.mk ((Nat.le_trans HW0.out (by rw [hg]; exact (keep_size (w := w) (g := g) (row := none) (by repeat (first | (with_reducible first | exact HK.out | apply KeepBut.set_ | apply keep_drewN | apply keep_drew | apply keep_alloc) | exact HK.out))) : w.heap.size ≤ gb480) : w0.heap.size ≤ gb480)); replace HK := Aside0.mk (KeepBut.trans (by repeat (first | (with_reducible first | exact HK.out | apply KeepBut.set_ | apply keep_drewN | apply keep_drew | apply keep_alloc) | exact HK.out)) (KeepBut.of_below hb g none) (.inl rfl)); have NB0_480 := Aside0.mk ((by rw [hg]; exact Nat.ne_of_lt (IsS83.lt (show IsS83 w0 _ g s0_0 s0_1 from by repeat (first | (with_reducible first | exact HI0.out | apply IsS83.alloc | apply IsS83.drewN | apply IsS83.drew | apply IsS83.set_1) | exact HI0.out))) : g ≠ gb480)); have NB480_0 := Aside0.mk ((by rw [hg]; exact Nat.ne_of_gt (IsS83.lt (show IsS83 w0 _ g s0_0 s0_1 from by repeat (first | (with_reducible first | exact HI0.out | apply IsS83.alloc | apply IsS83.drewN | apply IsS83.drew | apply IsS83.set_1) | exact HI0.out))) : gb480 ≠ g)); replace HI0 := Aside0.mk (IsS83.below (by repeat (first | (with_reducible first | exact HI0.out | apply IsS83.alloc | apply IsS83.drewN | apply IsS83.drew | apply IsS83.set_1) | exact HI0.out)) hb); clear hb hbox hg) | ((with_reducible refine gate_callee (f := 72) rfl ?_); refine goesL_ (some 10) rfl rfl Try.func72 (by kernel_rfl) rfl #[.pointer (some ⟨g, 0, none⟩), .int .i64 6] rfl ga ?_; (with_reducible refine (corporamade_Tape_Natural.calls k g s0_0 s0_1 6 t481 t482 w0 _ ?side1 ?side2 A3.out).mono ?_); (case side1 => repeat (first | (with_reducible first | exact HI0.out | apply IsS83.alloc | apply IsS83.drewN | apply IsS83.drew | apply IsS83.set_1 | refine IsS83.far ?_ NB0_480.out _) | exact HI0.out)); (case side2 => repeat (first | (with_reducible first | exact HB.out | apply below_alloc | apply pw_below_drewN | apply below_drew1 | refine below_set ?_ (IsS83.ge HI0.out) | refine below_set ?_ GE480.out) | exact HB.out)); rintro e w7 ⟨rfl, hi, hb, hk⟩; refine ⟨_, rfl, ?_⟩; replace BK480 := Aside0.mk (KeepBut.blk hk (g' := gb480) (o := .cells #[.bool false, .string (⟨#[]⟩ : ByteArray), .string (⟨#[]⟩ : ByteArray)] 35 (0, 0)) bk NB480_0.out (by simp)); replace HK := Aside0.mk (KeepBut.trans (by repeat (first | (with_reducible first | exact HK.out | apply KeepBut.set_ | apply keep_drewN | apply keep_drew | apply keep_alloc | refine keep_far ?_ GW480.out _) | exact HK.out)) hk (.inl rfl)); replace HB := Aside0.mk (hb); replace HI0 := Aside0.mk (hi); (try clear hb); (try clear hk); (try clear hi)) | ((with_reducible refine gate_callee (f := 72) rfl ?_); refine goesL_ (some 12) rfl rfl Try.func72 (by kernel_rfl) rfl #[.pointer (some ⟨g, 0, none⟩), .int .i64 6] rfl ga ?_; (with_reducible refine (corporamade_Tape_Natural.calls k g s0_0 t482 6 t483 t484 w0 _ ?side1 ?side2 A4.out).mono ?_); (case side1 => repeat (first | (with_reducible first | exact HI0.out | apply IsS83.alloc | apply IsS83.drewN | apply IsS83.drew | apply IsS83.set_1 | refine IsS83.far ?_ NB0_480.out _) | exact HI0.out)); (case side2 => repeat (first | (with_reducible first | exact HB.out | apply below_alloc | apply pw_below_drewN | apply below_drew1 | refine below_set ?_ (IsS83.ge HI0.out) | refine below_set ?_ GE480.out) | exact HB.out)); rintro e w8 ⟨rfl, hi, hb, hk⟩; refine ⟨_, rfl, ?_⟩; replace BK480 := Aside0.mk (KeepBut.blk hk (g' := gb480) (o := .cells #[.bool false, .string (⟨#[]⟩ : ByteArray), .string (⟨#[]⟩ : ByteArray)] 35 (0, 0)) bk NB480_0.out (by simp)); replace HK := Aside0.mk (KeepBut.trans (by repeat (first | (with_reducible first | exact HK.out | apply KeepBut.set_ | apply keep_drewN | apply keep_drew | apply keep_alloc | refine keep_far ?_ GW480.out _) | exact HK.out)) hk (.inl rfl)); replace HB := Aside0.mk (hb); replace HI0 := Aside0.mk (hi); (try clear hb); (try clear hk); (try clear hi)))
 (try simp only [Act.put, List.setIfInBounds_toArray, List.set_cons_zero, List.set_cons_succ])
 go_cut [17] (fun v17 wc => ∃ (kq : Nat) (x17_4 : Bool), v17 = .bool x17_4 ∧ Aside0 (corporalaw37_some.j0 kq a1 t481 t483 x17_4 s0_0 t484 = some (r1, r2, r3, r4)) ∧ Aside0 (kq ≤ k) ∧ Aside0 (wc.heap[gb480]? = some (.cells #[.bool false, .string (⟨#[]⟩ : ByteArray), .string (⟨#[]⟩ : ByteArray)] 35 (0, 0))) ∧ Aside0 (IsS83 w0 wc g s0_0 t484) ∧ Aside0 (KeepBut w wc g none) ∧ Aside0 (Below w0.heap.size w0 wc))
 case first =>
  have H := HC5.out
  clear HC5
  by_cases c9 : a1 = true
  ·subst c9
   have H1 : (corporalaw37_some.j0 k true t481 t483 (t481.toList == ([48] : List UInt8)) s0_0 t484) = some (r1, r2, r3, r4) := by rw [if_pos rfl] at H; exact H
   clear H
   have H := H1
   clear H1
   have H' := Aside0.mk H
   clear H
   go_wp2
   go_meet
   case rel => exact ⟨_, ((t481.toList == ([48] : List UInt8))), sv, H', ⟨by first | omega | exact Nat.le_refl _⟩, ⟨bk⟩, ⟨by repeat (first | (with_reducible first | exact HI0.out | apply IsS83.alloc | apply IsS83.drewN | apply IsS83.drew | apply IsS83.set_1 | refine IsS83.far ?_ NB0_480.out _) | exact HI0.out)⟩, ⟨by repeat (first | (with_reducible first | exact HK.out | apply KeepBut.set_ | apply keep_drewN | apply keep_drew | apply keep_alloc | refine keep_far ?_ GW480.out _) | exact HK.out)⟩, ⟨by repeat (first | (with_reducible first | exact HB.out | apply below_alloc | apply pw_below_drewN | apply below_drew1 | refine below_set ?_ (IsS83.ge HI0.out) | refine below_set ?_ GE480.out) | exact HB.out)⟩⟩
  ·replace c9 := Bool.eq_false_iff.mpr c9
   subst c9
   have H1 : (corporalaw37_some.j0 k false t481 t483 false s0_0 t484) = some (r1, r2, r3, r4) := by rw [if_neg (show ¬ (false = true) by decide)] at H; exact H
   clear H
   have H := H1
   clear H1
   have H' := Aside0.mk H
   clear H
   go_wp2
   go_meet
   case rel => exact ⟨_, (false), sv, H', ⟨by first | omega | exact Nat.le_refl _⟩, ⟨bk⟩, ⟨by repeat (first | (with_reducible first | exact HI0.out | apply IsS83.alloc | apply IsS83.drewN | apply IsS83.drew | apply IsS83.set_1 | refine IsS83.far ?_ NB0_480.out _) | exact HI0.out)⟩, ⟨by repeat (first | (with_reducible first | exact HK.out | apply KeepBut.set_ | apply keep_drewN | apply keep_drew | apply keep_alloc | refine keep_far ?_ GW480.out _) | exact HK.out)⟩, ⟨by repeat (first | (with_reducible first | exact HB.out | apply below_alloc | apply pw_below_drewN | apply below_drew1 | refine below_set ?_ (IsS83.ge HI0.out) | refine below_set ?_ GE480.out) | exact HB.out)⟩⟩
 case rest =>
  clear HC5
  try clear c9
  obtain ⟨kq, x17_4, rfl, HA, HJ4, BK480, HI0, HK, HB⟩ := hcut
  cases kq with
  | zero => exact absurd HA.out (by simp [corporalaw37_some.j0])
  | succ kj4 =>
   have H := HA.out
   clear HA
   simp only [corporalaw37_some.j0] at H
   have HC10 := Aside0.mk H
   clear H
   go_upto_if 17 with (fail)
   go_cut [5] (fun v5 wc => ∃ (kq : Nat) (x5_9 : ByteArray), v5 = .string x5_9 ∧ Aside0 (corporalaw37_some.j1 kq a1 x5_9 t483 s0_0 t484 = some (r1, r2, r3, r4)) ∧ Aside0 (kq ≤ kj4) ∧ Aside0 (wc.heap[gb480]? = some (.cells #[.bool false, .string (⟨#[]⟩ : ByteArray), .string (⟨#[]⟩ : ByteArray)] 35 (0, 0))) ∧ Aside0 (IsS83 w0 wc g s0_0 t484) ∧ Aside0 (KeepBut w wc g none) ∧ Aside0 (Below w0.heap.size w0 wc))
   case first =>
    have H := HC10.out
    clear HC10
    by_cases c11 : x17_4 = true
    ·subst c11
     have H1 : (corporalaw37_some.j1 kj4 a1 (⟨#[49]⟩ : ByteArray) t483 s0_0 t484) = some (r1, r2, r3, r4) := by rw [if_pos rfl] at H; exact H
     clear H
     have H := H1
     clear H1
     have H' := Aside0.mk H
     clear H
     go_wp2
     go_meet
     case rel => exact ⟨_, ((⟨#[49]⟩ : ByteArray)), sv, H', ⟨by have := HJ4.out; first | omega | exact Nat.le_refl _⟩, ⟨bk⟩, ⟨by repeat (first | (with_reducible first | exact HI0.out | apply IsS83.alloc | apply IsS83.drewN | apply IsS83.drew | apply IsS83.set_1 | refine IsS83.far ?_ NB0_480.out _) | exact HI0.out)⟩, ⟨by repeat (first | (with_reducible first | exact HK.out | apply KeepBut.set_ | apply keep_drewN | apply keep_drew | apply keep_alloc | refine keep_far ?_ GW480.out _) | exact HK.out)⟩, ⟨by repeat (first | (with_reducible first | exact HB.out | apply below_alloc | apply pw_below_drewN | apply below_drew1 | refine below_set ?_ (IsS83.ge HI0.out) | refine below_set ?_ GE480.out) | exact HB.out)⟩⟩
    ·replace c11 := Bool.eq_false_iff.mpr c11
     subst c11
     have H1 : (corporalaw37_some.j1 kj4 a1 t481 t483 s0_0 t484) = some (r1, r2, r3, r4) := by rw [if_neg (show ¬ (false = true) by decide)] at H; exact H
     clear H
     have H := H1
     clear H1
     have H' := Aside0.mk H
     clear H
     go_wp2
     go_meet
     case rel => exact ⟨_, (t481), sv, H', ⟨by have := HJ4.out; first | omega | exact Nat.le_refl _⟩, ⟨bk⟩, ⟨by repeat (first | (with_reducible first | exact HI0.out | apply IsS83.alloc | apply IsS83.drewN | apply IsS83.drew | apply IsS83.set_1 | refine IsS83.far ?_ NB0_480.out _) | exact HI0.out)⟩, ⟨by repeat (first | (with_reducible first | exact HK.out | apply KeepBut.set_ | apply keep_drewN | apply keep_drew | apply keep_alloc | refine keep_far ?_ GW480.out _) | exact HK.out)⟩, ⟨by repeat (first | (with_reducible first | exact HB.out | apply below_alloc | apply pw_below_drewN | apply below_drew1 | refine below_set ?_ (IsS83.ge HI0.out) | refine below_set ?_ GE480.out) | exact HB.out)⟩⟩
   case rest =>
    clear HC10
    try clear c9
    try clear c11
    obtain ⟨kq, x5_9, rfl, HA, HJ9, BK480, HI0, HK, HB⟩ := hcut
    cases kq with
    | zero => exact absurd HA.out (by simp [corporalaw37_some.j1])
    | succ kj9 =>
     have H := HA.out
     clear HA
     simp only [corporalaw37_some.j1] at H
     by_cases c12 : t483.toList = ([48] : List UInt8)
     ·rw [if_pos c12] at H
      have c12b0 : (t483.toList == ([48] : List UInt8)) = true := beq_iff_eq.mpr c12
      have c12b1 : (t483.toList != ([48] : List UInt8)) = false := bne_eq_false_iff_eq.mpr c12
      clear c12
      by_cases c13 : a1 = true
      ·subst c13
       have H1 : Option.bind (corporaref36_Of.f kj9 false x5_9 (⟨#[49]⟩ : ByteArray)) _ = _ := (if_pos rfl).symm.trans H
       clear H
       have H := H1
       clear H1
       replace H := Option.bind_eq_some_iff.mp H
       obtain ⟨⟨t485, t486, t487, t488⟩, A140, H⟩ := H
       replace H : (some (t485, t486, t487, t484)) = some (r1, r2, r3, r4) := H
       have A14 := Aside0.mk A140
       clear A140
       simp only [Option.some.injEq, Prod.mk.injEq] at H
       obtain ⟨rfl, rfl, rfl, rfl⟩ := H
       go_wp2_with (first | ((with_reducible refine gate_callee (f := 66) rfl ?_); refine goesL_ (some 30) rfl rfl Try.func66 (by kernel_rfl) rfl #[.bool false, .string x5_9, .string (⟨#[49]⟩ : ByteArray)] rfl ga ?_; (with_reducible refine (corporaref36_Of.calls kj9 false x5_9 (⟨#[49]⟩ : ByteArray) t485 t486 t487 t488 _ A14.out).mono ?_); rintro e w15 ⟨rfl, hb⟩; refine ⟨_, rfl, ?_⟩; replace BK480 := bb BK480 hb; replace HK := Aside0.mk (KeepBut.trans (by repeat (first | (with_reducible first | exact HK.out | apply KeepBut.set_ | apply keep_drewN | apply keep_drew | apply keep_alloc | refine keep_far ?_ GW480.out _) | exact HK.out)) (KeepBut.of_below hb g none) (.inl rfl)); replace HB := Aside0.mk (below_step (by repeat (first | (with_reducible first | exact HB.out | apply below_alloc | apply pw_below_drewN | apply below_drew1 | refine below_set ?_ (IsS83.ge HI0.out) | refine below_set ?_ GE480.out) | exact HB.out)) hb); replace HI0 := Aside0.mk (IsS83.below (by repeat (first | (with_reducible first | exact HI0.out | apply IsS83.alloc | apply IsS83.drewN | apply IsS83.drew | apply IsS83.set_1 | refine IsS83.far ?_ NB0_480.out _) | exact HI0.out)) hb); (try clear hb)) | ((with_reducible refine gate_dst (N := 7) rfl ?_); refine be (N := 7) (cs := #[.bool false, .string (⟨#[]⟩ : ByteArray), .string (⟨#[]⟩ : ByteArray)]) (t := 35) ?_; intro gb489 hg w16 hbox hb; replace HB := Aside0.mk (below_step (by repeat (first | (with_reducible first | exact HB.out | apply below_alloc | apply pw_below_drewN | apply below_drew1 | refine below_set ?_ (IsS83.ge HI0.out) | refine below_set ?_ GE480.out) | exact HB.out)) hb); have BK489 := Aside0.mk (hbox); have GW489 := Aside0.mk ((by rw [hg]; exact (keep_size (w := w) (g := g) (row := none) (by repeat (first | (with_reducible first | exact HK.out | apply KeepBut.set_ | apply keep_drewN | apply keep_drew | apply keep_alloc | refine keep_far ?_ GW480.out _) | exact HK.out))) : w.heap.size ≤ gb489)); have GE489 := Aside0.mk ((Nat.le_trans HW0.out (by rw [hg]; exact (keep_size (w := w) (g := g) (row := none) (by repeat (first | (with_reducible first | exact HK.out | apply KeepBut.set_ | apply keep_drewN | apply keep_drew | apply keep_alloc | refine keep_far ?_ GW480.out _) | exact HK.out))) : w.heap.size ≤ gb489) : w0.heap.size ≤ gb489)); replace HK := Aside0.mk (KeepBut.trans (by repeat (first | (with_reducible first | exact HK.out | apply KeepBut.set_ | apply keep_drewN | apply keep_drew | apply keep_alloc | refine keep_far ?_ GW480.out _) | exact HK.out)) (KeepBut.of_below hb g none) (.inl rfl)); have NB480_489 := na BK480 hg; have NB489_480 := nz NB480_489; replace BK480 := bb BK480 hb; have NB0_489 := Aside0.mk ((by rw [hg]; exact Nat.ne_of_lt (IsS83.lt (show IsS83 w0 _ g s0_0 t484 from by repeat (first | (with_reducible first | exact HI0.out | apply IsS83.alloc | apply IsS83.drewN | apply IsS83.drew | apply IsS83.set_1 | refine IsS83.far ?_ NB0_480.out _) | exact HI0.out))) : g ≠ gb489)); have NB489_0 := Aside0.mk ((by rw [hg]; exact Nat.ne_of_gt (IsS83.lt (show IsS83 w0 _ g s0_0 t484 from by repeat (first | (with_reducible first | exact HI0.out | apply IsS83.alloc | apply IsS83.drewN | apply IsS83.drew | apply IsS83.set_1 | refine IsS83.far ?_ NB0_480.out _) | exact HI0.out))) : gb489 ≠ g)); replace HI0 := Aside0.mk (IsS83.below (by repeat (first | (with_reducible first | exact HI0.out | apply IsS83.alloc | apply IsS83.drewN | apply IsS83.drew | apply IsS83.set_1 | refine IsS83.far ?_ NB0_480.out _) | exact HI0.out)) hb); clear hb hbox hg; have hnb17 := NB489_480.out; have hnc17 := NB480_489.out; have hnb18 := NB489_0.out; have hnc18 := NB0_489.out; obtain ⟨hcz19_0, hcz19_1, hcz19_2, hfz19_0, hfz19_1, hfz19_2⟩ := z3 BK489; have hnb20 := NB480_0.out; have hnc20 := NB0_480.out; obtain ⟨hcz21_0, hcz21_1, hcz21_2, hfz21_0, hfz21_1, hfz21_2⟩ := z3 BK480))
       refine bodyPost_ret (results_cell_row rfl _ _ gb480 35 #[.bool t485, .string t486, .string t487] (0, 0) _ rfl bw Try.underlying35 rfl (by kernel_rfl)) rfl ?_
       exact ⟨er, by repeat (first | (with_reducible first | exact HI0.out | apply IsS83.alloc | apply IsS83.drewN | apply IsS83.drew | apply IsS83.set_1 | refine IsS83.far ?_ NB0_480.out _ | refine IsS83.far ?_ NB0_489.out _) | exact HI0.out), by repeat (first | (with_reducible first | exact HB.out | apply below_alloc | apply pw_below_drewN | apply below_drew1 | refine below_set ?_ (IsS83.ge HI0.out) | refine below_set ?_ GE480.out | refine below_set ?_ GE489.out) | exact HB.out), by repeat (first | (with_reducible first | exact HK.out | apply KeepBut.set_ | apply keep_drewN | apply keep_drew | apply keep_alloc | refine keep_far ?_ GW480.out _ | refine keep_far ?_ GW489.out _) | exact HK.out)⟩
      ·replace c13 := Bool.eq_false_iff.mpr c13
       subst c13
       have H1 : Option.bind (corporamade_Tape_Next.f s0_0 t484 2) _ = _ := (if_neg (show ¬ (false = true) by decide)).symm.trans H
       clear H
       have H := H1
       clear H1
       replace H := Option.bind_eq_some_iff.mp H
       obtain ⟨⟨t490, t491⟩, A220, H⟩ := H
       replace H : Option.bind (corporaref36_Of.f kj9 (t490 == 1) x5_9 (⟨#[49]⟩ : ByteArray)) _ = _ := H
       have A22 := Aside0.mk A220
       clear A220
       replace H := Option.bind_eq_some_iff.mp H
       obtain ⟨⟨t492, t493, t494, t495⟩, A230, H⟩ := H
       replace H : (some (t492, t493, t494, t491)) = some (r1, r2, r3, r4) := H
       have A23 := Aside0.mk A230
       clear A230
       simp only [Option.some.injEq, Prod.mk.injEq] at H
       obtain ⟨rfl, rfl, rfl, rfl⟩ := H
       go_wp2_with (first | (go_at_call 53; (with_reducible refine (corporamade_Tape_Next.calls g s0_0 t484 2 t490 t491 w0 _ ?side1 ?side2 A22.out).mono ?_); (case side1 => repeat (first | (with_reducible first | exact HI0.out | apply IsS83.alloc | apply IsS83.drewN | apply IsS83.drew | apply IsS83.set_1 | refine IsS83.far ?_ NB0_480.out _) | exact HI0.out)); (case side2 => repeat (first | (with_reducible first | exact HB.out | apply below_alloc | apply pw_below_drewN | apply below_drew1 | refine below_set ?_ (IsS83.ge HI0.out) | refine below_set ?_ GE480.out) | exact HB.out)); rintro e w24 ⟨rfl, hi, hb, hk⟩; replace BK480 := Aside0.mk (KeepBut.blk hk (g' := gb480) (o := .cells #[.bool false, .string (⟨#[]⟩ : ByteArray), .string (⟨#[]⟩ : ByteArray)] 35 (0, 0)) bk NB480_0.out (by simp)); replace HK := Aside0.mk (KeepBut.trans (by repeat (first | (with_reducible first | exact HK.out | apply KeepBut.set_ | apply keep_drewN | apply keep_drew | apply keep_alloc | refine keep_far ?_ GW480.out _) | exact HK.out)) hk (.inl rfl)); replace HB := Aside0.mk (hb); replace HI0 := Aside0.mk (hi); (try clear hb); (try clear hk); (try clear hi)) | ((with_reducible refine gate_callee (f := 66) rfl ?_); refine goesL_ (some 30) rfl rfl Try.func66 (by kernel_rfl) rfl #[.bool (t490 == 1), .string x5_9, .string (⟨#[49]⟩ : ByteArray)] rfl ga ?_; (with_reducible refine (corporaref36_Of.calls kj9 (t490 == 1) x5_9 (⟨#[49]⟩ : ByteArray) t492 t493 t494 t495 _ A23.out).mono ?_); rintro e w25 ⟨rfl, hb⟩; refine ⟨_, rfl, ?_⟩; replace BK480 := bb BK480 hb; replace HK := Aside0.mk (KeepBut.trans (by repeat (first | (with_reducible first | exact HK.out | apply KeepBut.set_ | apply keep_drewN | apply keep_drew | apply keep_alloc | refine keep_far ?_ GW480.out _) | exact HK.out)) (KeepBut.of_below hb g none) (.inl rfl)); replace HB := Aside0.mk (below_step (by repeat (first | (with_reducible first | exact HB.out | apply below_alloc | apply pw_below_drewN | apply below_drew1 | refine below_set ?_ (IsS83.ge HI0.out) | refine below_set ?_ GE480.out) | exact HB.out)) hb); replace HI0 := Aside0.mk (IsS83.below (by repeat (first | (with_reducible first | exact HI0.out | apply IsS83.alloc | apply IsS83.drewN | apply IsS83.drew | apply IsS83.set_1 | refine IsS83.far ?_ NB0_480.out _) | exact HI0.out)) hb); (try clear hb)) | ((with_reducible refine gate_dst (N := 7) rfl ?_); refine be (N := 7) (cs := #[.bool false, .string (⟨#[]⟩ : ByteArray), .string (⟨#[]⟩ : ByteArray)]) (t := 35) ?_; intro gb496 hg w26 hbox hb; replace HB := Aside0.mk (below_step (by repeat (first | (with_reducible first | exact HB.out | apply below_alloc | apply pw_below_drewN | apply below_drew1 | refine below_set ?_ (IsS83.ge HI0.out) | refine below_set ?_ GE480.out) | exact HB.out)) hb); have BK496 := Aside0.mk (hbox); have GW496 := Aside0.mk ((by rw [hg]; exact (keep_size (w := w) (g := g) (row := none) (by repeat (first | (with_reducible first | exact HK.out | apply KeepBut.set_ | apply keep_drewN | apply keep_drew | apply keep_alloc | refine keep_far ?_ GW480.out _) | exact HK.out))) : w.heap.size ≤ gb496)); have GE496 := Aside0.mk ((Nat.le_trans HW0.out (by rw [hg]; exact (keep_size (w := w) (g := g) (row := none) (by repeat (first | (with_reducible first | exact HK.out | apply KeepBut.set_ | apply keep_drewN | apply keep_drew | apply keep_alloc | refine keep_far ?_ GW480.out _) | exact HK.out))) : w.heap.size ≤ gb496) : w0.heap.size ≤ gb496)); replace HK := Aside0.mk (KeepBut.trans (by repeat (first | (with_reducible first | exact HK.out | apply KeepBut.set_ | apply keep_drewN | apply keep_drew | apply keep_alloc | refine keep_far ?_ GW480.out _) | exact HK.out)) (KeepBut.of_below hb g none) (.inl rfl)); have NB480_496 := na BK480 hg; have NB496_480 := nz NB480_496; replace BK480 := bb BK480 hb; have NB0_496 := Aside0.mk ((by rw [hg]; exact Nat.ne_of_lt (IsS83.lt (show IsS83 w0 _ g s0_0 t491 from by repeat (first | (with_reducible first | exact HI0.out | apply IsS83.alloc | apply IsS83.drewN | apply IsS83.drew | apply IsS83.set_1 | refine IsS83.far ?_ NB0_480.out _) | exact HI0.out))) : g ≠ gb496)); have NB496_0 := Aside0.mk ((by rw [hg]; exact Nat.ne_of_gt (IsS83.lt (show IsS83 w0 _ g s0_0 t491 from by repeat (first | (with_reducible first | exact HI0.out | apply IsS83.alloc | apply IsS83.drewN | apply IsS83.drew | apply IsS83.set_1 | refine IsS83.far ?_ NB0_480.out _) | exact HI0.out))) : gb496 ≠ g)); replace HI0 := Aside0.mk (IsS83.below (by repeat (first | (with_reducible first | exact HI0.out | apply IsS83.alloc | apply IsS83.drewN | apply IsS83.drew | apply IsS83.set_1 | refine IsS83.far ?_ NB0_480.out _) | exact HI0.out)) hb); clear hb hbox hg; have hnb27 := NB496_480.out; have hnc27 := NB480_496.out; have hnb28 := NB496_0.out; have hnc28 := NB0_496.out; obtain ⟨hcz29_0, hcz29_1, hcz29_2, hfz29_0, hfz29_1, hfz29_2⟩ := z3 BK496; have hnb30 := NB480_0.out; have hnc30 := NB0_480.out; obtain ⟨hcz31_0, hcz31_1, hcz31_2, hfz31_0, hfz31_1, hfz31_2⟩ := z3 BK480))
       refine bodyPost_ret (results_cell_row rfl _ _ gb480 35 #[.bool t492, .string t493, .string t494] (0, 0) _ rfl bw Try.underlying35 rfl (by kernel_rfl)) rfl ?_
       exact ⟨er, by repeat (first | (with_reducible first | exact HI0.out | apply IsS83.alloc | apply IsS83.drewN | apply IsS83.drew | apply IsS83.set_1 | refine IsS83.far ?_ NB0_480.out _ | refine IsS83.far ?_ NB0_496.out _) | exact HI0.out), by repeat (first | (with_reducible first | exact HB.out | apply below_alloc | apply pw_below_drewN | apply below_drew1 | refine below_set ?_ (IsS83.ge HI0.out) | refine below_set ?_ GE480.out | refine below_set ?_ GE496.out) | exact HB.out), by repeat (first | (with_reducible first | exact HK.out | apply KeepBut.set_ | apply keep_drewN | apply keep_drew | apply keep_alloc | refine keep_far ?_ GW480.out _ | refine keep_far ?_ GW496.out _) | exact HK.out)⟩
     ·rw [if_neg c12] at H
      have c12b0 : (t483.toList == ([48] : List UInt8)) = false := beq_eq_false_iff_ne.mpr c12
      have c12b1 : (t483.toList != ([48] : List UInt8)) = true := bne_iff_ne.mpr c12
      by_cases c32 : a1 = true
      ·subst c32
       have H1 : Option.bind (corporaref36_Of.f kj9 false x5_9 t483) _ = _ := (if_pos rfl).symm.trans H
       clear H
       have H := H1
       clear H1
       replace H := Option.bind_eq_some_iff.mp H
       obtain ⟨⟨t497, t498, t499, t500⟩, A330, H⟩ := H
       replace H : (some (t497, t498, t499, t484)) = some (r1, r2, r3, r4) := H
       have A33 := Aside0.mk A330
       clear A330
       simp only [Option.some.injEq, Prod.mk.injEq] at H
       obtain ⟨rfl, rfl, rfl, rfl⟩ := H
       go_wp2_with (first | ((with_reducible refine gate_callee (f := 66) rfl ?_); refine goesL_ (some 30) rfl rfl Try.func66 (by kernel_rfl) rfl #[.bool false, .string x5_9, .string t483] rfl ga ?_; (with_reducible refine (corporaref36_Of.calls kj9 false x5_9 t483 t497 t498 t499 t500 _ A33.out).mono ?_); rintro e w34 ⟨rfl, hb⟩; refine ⟨_, rfl, ?_⟩; replace BK480 := bb BK480 hb; replace HK := Aside0.mk (KeepBut.trans (by repeat (first | (with_reducible first | exact HK.out | apply KeepBut.set_ | apply keep_drewN | apply keep_drew | apply keep_alloc | refine keep_far ?_ GW480.out _) | exact HK.out)) (KeepBut.of_below hb g none) (.inl rfl)); replace HB := Aside0.mk (below_step (by repeat (first | (with_reducible first | exact HB.out | apply below_alloc | apply pw_below_drewN | apply below_drew1 | refine below_set ?_ (IsS83.ge HI0.out) | refine below_set ?_ GE480.out) | exact HB.out)) hb); replace HI0 := Aside0.mk (IsS83.below (by repeat (first | (with_reducible first | exact HI0.out | apply IsS83.alloc | apply IsS83.drewN | apply IsS83.drew | apply IsS83.set_1 | refine IsS83.far ?_ NB0_480.out _) | exact HI0.out)) hb); (try clear hb)) | ((with_reducible refine gate_dst (N := 7) rfl ?_); refine be (N := 7) (cs := #[.bool false, .string (⟨#[]⟩ : ByteArray), .string (⟨#[]⟩ : ByteArray)]) (t := 35) ?_; intro gb501 hg w35 hbox hb; replace HB := Aside0.mk (below_step (by repeat (first | (with_reducible first | exact HB.out | apply below_alloc | apply pw_below_drewN | apply below_drew1 | refine below_set ?_ (IsS83.ge HI0.out) | refine below_set ?_ GE480.out) | exact HB.out)) hb); have BK501 := Aside0.mk (hbox); have GW501 := Aside0.mk ((by rw [hg]; exact (keep_size (w := w) (g := g) (row := none) (by repeat (first | (with_reducible first | exact HK.out | apply KeepBut.set_ | apply keep_drewN | apply keep_drew | apply keep_alloc | refine keep_far ?_ GW480.out _) | exact HK.out))) : w.heap.size ≤ gb501)); have GE501 := Aside0.mk ((Nat.le_trans HW0.out (by rw [hg]; exact (keep_size (w := w) (g := g) (row := none) (by repeat (first | (with_reducible first | exact HK.out | apply KeepBut.set_ | apply keep_drewN | apply keep_drew | apply keep_alloc | refine keep_far ?_ GW480.out _) | exact HK.out))) : w.heap.size ≤ gb501) : w0.heap.size ≤ gb501)); replace HK := Aside0.mk (KeepBut.trans (by repeat (first | (with_reducible first | exact HK.out | apply KeepBut.set_ | apply keep_drewN | apply keep_drew | apply keep_alloc | refine keep_far ?_ GW480.out _) | exact HK.out)) (KeepBut.of_below hb g none) (.inl rfl)); have NB480_501 := na BK480 hg; have NB501_480 := nz NB480_501; replace BK480 := bb BK480 hb; have NB0_501 := Aside0.mk ((by rw [hg]; exact Nat.ne_of_lt (IsS83.lt (show IsS83 w0 _ g s0_0 t484 from by repeat (first | (with_reducible first | exact HI0.out | apply IsS83.alloc | apply IsS83.drewN | apply IsS83.drew | apply IsS83.set_1 | refine IsS83.far ?_ NB0_480.out _) | exact HI0.out))) : g ≠ gb501)); have NB501_0 := Aside0.mk ((by rw [hg]; exact Nat.ne_of_gt (IsS83.lt (show IsS83 w0 _ g s0_0 t484 from by repeat (first | (with_reducible first | exact HI0.out | apply IsS83.alloc | apply IsS83.drewN | apply IsS83.drew | apply IsS83.set_1 | refine IsS83.far ?_ NB0_480.out _) | exact HI0.out))) : gb501 ≠ g)); replace HI0 := Aside0.mk (IsS83.below (by repeat (first | (with_reducible first | exact HI0.out | apply IsS83.alloc | apply IsS83.drewN | apply IsS83.drew | apply IsS83.set_1 | refine IsS83.far ?_ NB0_480.out _) | exact HI0.out)) hb); clear hb hbox hg; have hnb36 := NB501_480.out; have hnc36 := NB480_501.out; have hnb37 := NB501_0.out; have hnc37 := NB0_501.out; obtain ⟨hcz38_0, hcz38_1, hcz38_2, hfz38_0, hfz38_1, hfz38_2⟩ := z3 BK501; have hnb39 := NB480_0.out; have hnc39 := NB0_480.out; obtain ⟨hcz40_0, hcz40_1, hcz40_2, hfz40_0, hfz40_1, hfz40_2⟩ := z3 BK480))
       refine bodyPost_ret (results_cell_row rfl _ _ gb480 35 #[.bool t497, .string t498, .string t499] (0, 0) _ rfl bw Try.underlying35 rfl (by kernel_rfl)) rfl ?_
       exact ⟨er, by repeat (first | (with_reducible first | exact HI0.out | apply IsS83.alloc | apply IsS83.drewN | apply IsS83.drew | apply IsS83.set_1 | refine IsS83.far ?_ NB0_480.out _ | refine IsS83.far ?_ NB0_501.out _) | exact HI0.out), by repeat (first | (with_reducible first | exact HB.out | apply below_alloc | apply pw_below_drewN | apply below_drew1 | refine below_set ?_ (IsS83.ge HI0.out) | refine below_set ?_ GE480.out | refine below_set ?_ GE501.out) | exact HB.out), by repeat (first | (with_reducible first | exact HK.out | apply KeepBut.set_ | apply keep_drewN | apply keep_drew | apply keep_alloc | refine keep_far ?_ GW480.out _ | refine keep_far ?_ GW501.out _) | exact HK.out)⟩
      ·replace c32 := Bool.eq_false_iff.mpr c32
       subst c32
       have H1 : Option.bind (corporamade_Tape_Next.f s0_0 t484 2) _ = _ := (if_neg (show ¬ (false = true) by decide)).symm.trans H
       clear H
       have H := H1
       clear H1
       replace H := Option.bind_eq_some_iff.mp H
       obtain ⟨⟨t502, t503⟩, A410, H⟩ := H
       replace H : Option.bind (corporaref36_Of.f kj9 (t502 == 1) x5_9 t483) _ = _ := H
       have A41 := Aside0.mk A410
       clear A410
       replace H := Option.bind_eq_some_iff.mp H
       obtain ⟨⟨t504, t505, t506, t507⟩, A420, H⟩ := H
       replace H : (some (t504, t505, t506, t503)) = some (r1, r2, r3, r4) := H
       have A42 := Aside0.mk A420
       clear A420
       simp only [Option.some.injEq, Prod.mk.injEq] at H
       obtain ⟨rfl, rfl, rfl, rfl⟩ := H
       go_wp2_with (first | (go_at_call 53; (with_reducible refine (corporamade_Tape_Next.calls g s0_0 t484 2 t502 t503 w0 _ ?side1 ?side2 A41.out).mono ?_); (case side1 => repeat (first | (with_reducible first | exact HI0.out | apply IsS83.alloc | apply IsS83.drewN | apply IsS83.drew | apply IsS83.set_1 | refine IsS83.far ?_ NB0_480.out _) | exact HI0.out)); (case side2 => repeat (first | (with_reducible first | exact HB.out | apply below_alloc | apply pw_below_drewN | apply below_drew1 | refine below_set ?_ (IsS83.ge HI0.out) | refine below_set ?_ GE480.out) | exact HB.out)); rintro e w43 ⟨rfl, hi, hb, hk⟩; replace BK480 := Aside0.mk (KeepBut.blk hk (g' := gb480) (o := .cells #[.bool false, .string (⟨#[]⟩ : ByteArray), .string (⟨#[]⟩ : ByteArray)] 35 (0, 0)) bk NB480_0.out (by simp)); replace HK := Aside0.mk (KeepBut.trans (by repeat (first | (with_reducible first | exact HK.out | apply KeepBut.set_ | apply keep_drewN | apply keep_drew | apply keep_alloc | refine keep_far ?_ GW480.out _) | exact HK.out)) hk (.inl rfl)); replace HB := Aside0.mk (hb); replace HI0 := Aside0.mk (hi); (try clear hb); (try clear hk); (try clear hi)) | ((with_reducible refine gate_callee (f := 66) rfl ?_); refine goesL_ (some 30) rfl rfl Try.func66 (by kernel_rfl) rfl #[.bool (t502 == 1), .string x5_9, .string t483] rfl ga ?_; (with_reducible refine (corporaref36_Of.calls kj9 (t502 == 1) x5_9 t483 t504 t505 t506 t507 _ A42.out).mono ?_); rintro e w44 ⟨rfl, hb⟩; refine ⟨_, rfl, ?_⟩; replace BK480 := bb BK480 hb; replace HK := Aside0.mk (KeepBut.trans (by repeat (first | (with_reducible first | exact HK.out | apply KeepBut.set_ | apply keep_drewN | apply keep_drew | apply keep_alloc | refine keep_far ?_ GW480.out _) | exact HK.out)) (KeepBut.of_below hb g none) (.inl rfl)); replace HB := Aside0.mk (below_step (by repeat (first | (with_reducible first | exact HB.out | apply below_alloc | apply pw_below_drewN | apply below_drew1 | refine below_set ?_ (IsS83.ge HI0.out) | refine below_set ?_ GE480.out) | exact HB.out)) hb); replace HI0 := Aside0.mk (IsS83.below (by repeat (first | (with_reducible first | exact HI0.out | apply IsS83.alloc | apply IsS83.drewN | apply IsS83.drew | apply IsS83.set_1 | refine IsS83.far ?_ NB0_480.out _) | exact HI0.out)) hb); (try clear hb)) | ((with_reducible refine gate_dst (N := 7) rfl ?_); refine be (N := 7) (cs := #[.bool false, .string (⟨#[]⟩ : ByteArray), .string (⟨#[]⟩ : ByteArray)]) (t := 35) ?_; intro gb508 hg w45 hbox hb; replace HB := Aside0.mk (below_step (by repeat (first | (with_reducible first | exact HB.out | apply below_alloc | apply pw_below_drewN | apply below_drew1 | refine below_set ?_ (IsS83.ge HI0.out) | refine below_set ?_ GE480.out) | exact HB.out)) hb); have BK508 := Aside0.mk (hbox); have GW508 := Aside0.mk ((by rw [hg]; exact (keep_size (w := w) (g := g) (row := none) (by repeat (first | (with_reducible first | exact HK.out | apply KeepBut.set_ | apply keep_drewN | apply keep_drew | apply keep_alloc | refine keep_far ?_ GW480.out _) | exact HK.out))) : w.heap.size ≤ gb508)); have GE508 := Aside0.mk ((Nat.le_trans HW0.out (by rw [hg]; exact (keep_size (w := w) (g := g) (row := none) (by repeat (first | (with_reducible first | exact HK.out | apply KeepBut.set_ | apply keep_drewN | apply keep_drew | apply keep_alloc | refine keep_far ?_ GW480.out _) | exact HK.out))) : w.heap.size ≤ gb508) : w0.heap.size ≤ gb508)); replace HK := Aside0.mk (KeepBut.trans (by repeat (first | (with_reducible first | exact HK.out | apply KeepBut.set_ | apply keep_drewN | apply keep_drew | apply keep_alloc | refine keep_far ?_ GW480.out _) | exact HK.out)) (KeepBut.of_below hb g none) (.inl rfl)); have NB480_508 := na BK480 hg; have NB508_480 := nz NB480_508; replace BK480 := bb BK480 hb; have NB0_508 := Aside0.mk ((by rw [hg]; exact Nat.ne_of_lt (IsS83.lt (show IsS83 w0 _ g s0_0 t503 from by repeat (first | (with_reducible first | exact HI0.out | apply IsS83.alloc | apply IsS83.drewN | apply IsS83.drew | apply IsS83.set_1 | refine IsS83.far ?_ NB0_480.out _) | exact HI0.out))) : g ≠ gb508)); have NB508_0 := Aside0.mk ((by rw [hg]; exact Nat.ne_of_gt (IsS83.lt (show IsS83 w0 _ g s0_0 t503 from by repeat (first | (with_reducible first | exact HI0.out | apply IsS83.alloc | apply IsS83.drewN | apply IsS83.drew | apply IsS83.set_1 | refine IsS83.far ?_ NB0_480.out _) | exact HI0.out))) : gb508 ≠ g)); replace HI0 := Aside0.mk (IsS83.below (by repeat (first | (with_reducible first | exact HI0.out | apply IsS83.alloc | apply IsS83.drewN | apply IsS83.drew | apply IsS83.set_1 | refine IsS83.far ?_ NB0_480.out _) | exact HI0.out)) hb); clear hb hbox hg; have hnb46 := NB508_480.out; have hnc46 := NB480_508.out; have hnb47 := NB508_0.out; have hnc47 := NB0_508.out; obtain ⟨hcz48_0, hcz48_1, hcz48_2, hfz48_0, hfz48_1, hfz48_2⟩ := z3 BK508; have hnb49 := NB480_0.out; have hnc49 := NB0_480.out; obtain ⟨hcz50_0, hcz50_1, hcz50_2, hfz50_0, hfz50_1, hfz50_2⟩ := z3 BK480))
       refine bodyPost_ret (results_cell_row rfl _ _ gb480 35 #[.bool t504, .string t505, .string t506] (0, 0) _ rfl bw Try.underlying35 rfl (by kernel_rfl)) rfl ?_
       exact ⟨er, by repeat (first | (with_reducible first | exact HI0.out | apply IsS83.alloc | apply IsS83.drewN | apply IsS83.drew | apply IsS83.set_1 | refine IsS83.far ?_ NB0_480.out _ | refine IsS83.far ?_ NB0_508.out _) | exact HI0.out), by repeat (first | (with_reducible first | exact HB.out | apply below_alloc | apply pw_below_drewN | apply below_drew1 | refine below_set ?_ (IsS83.ge HI0.out) | refine below_set ?_ GE480.out | refine below_set ?_ GE508.out) | exact HB.out), by repeat (first | (with_reducible first | exact HK.out | apply KeepBut.set_ | apply keep_drewN | apply keep_drew | apply keep_alloc | refine keep_far ?_ GW480.out _ | refine keep_far ?_ GW508.out _) | exact HK.out)⟩
end Go.Proofs.Ytccgfmjcldifcaa.P
