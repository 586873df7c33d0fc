/- Walks of Go functions: what they compute; each theorem's conditions stand in it. -/
import Derived.Test.YtccgfmjcldifcaaProg
import Derived.Below
import Derived.Deep.Draws
import Derived.Deep.AppendLies
import Derived.Maps.AppendAt
import Derived.OwnWalk
import Derived.Laws.BytesArg
import Derived.Laws.MakeOwn
import Derived.Laws.OwnMore
import Derived.Deep.OwnRows
import Derived.Tactics
import Derived.Lib.ConvBytes
import Derived.Laws.Slices
import Derived.WalkKit
import Derived.KernelRfl
import Derived.RowKit3
import Derived.Deep.LoopGhost
import Derived.Deep.QuietTactic
import Derived.BigQuiet
import Derived.WideLaws
import Derived.Deep.DeepCutAuto
import Derived.Deep.CutBlock
import Derived.Deep.RegionHeld3
import Derived.Laws.Rows
import Derived.Lib.AppendStr
import Derived.ArgAppend
import Derived.Laws.IdiomCopy
import Derived.OrdersHeld
import Derived.Laws.BitsLemmas
import Derived.RowKit
import Derived.Lib.Bytealg
import Derived.Lib.BitFns
import Derived.Test.YtccgfmjcldifcaaV0
namespace Go.Proofs.Ytccgfmjcldifcaa.P
open Go.RowKit Go.Proofs.YtccgfmjcldifcaaW.PrintWords Go.Proofs.YtccgfmjcldifcaaW.PrintLast Go.Proofs.YtccgfmjcldifcaaW.PrintMore
set_option linter.unusedVariables false
set_option linter.unusedSimpArgs false
def errW : Option Int → Value
 | none => .nilIface
 | some c => .iface 0 (.int .i64 c)
theorem errW_none : errW none = .nilIface := rfl
theorem errW_some (c : Int) : errW (some c) = .iface 0 (.int .i64 c) := rfl
theorem info3 : (Try.prog.info? 3).map (fun i => (i.zero, i.size, i.bytes)) = some (some (.int .i64 0), 1, 8) := by kernel_rfl
theorem info5 : (Try.prog.info? 5).map (fun i => (i.zero, i.size, i.bytes)) = some (some (.int .u8 0), 1, 1) := by kernel_rfl
theorem info117 : (Try.prog.info? 117).map (fun i => (i.zero, i.size, i.bytes)) = some (some (.int .u32 0), 1, 4) := by kernel_rfl
-- the values' own types
structure S35 where
 f0 : Bool
 f1 : ByteArray
 f2 : ByteArray
structure S88 where
 f0 : Bool
 f1 : (List Int)
 f2 : (List Int)
theorem eqA35 (d : Nat) (w : World) (x0 y0 : Bool) (x1 y1 : ByteArray) (x2 y2 : ByteArray) :
  (Op.equalIn (d + 2) 35 (.agg #[.bool x0, .string x1, .string x2]) (.agg #[.bool y0, .string y1, .string y2])).run Try.prog w = .ok (x0 == y0 && (x1.toList == y1.toList && (x2.toList == y2.toList))) w := by
 refine eqA_of Try.underlying35 (by kernel_rfl) ?_
 refine eqf_cons (by rfl) (by go_simp; rfl) (by go_simp; rfl) (by go_simp) ?_
 refine eqf_cons (by rfl) (by go_simp; rfl) (by go_simp; rfl) (by go_simp) ?_
 exact eqf_last (by rfl) (by go_simp; rfl) (by go_simp; rfl) (by go_simp)
theorem eqA44 (d : Nat) (w : World) (x0 y0 : Bool) (x1 y1 : ByteArray) (x2 y2 : ByteArray) (x3 y3 : Bool) (x4 y4 : ByteArray) (x5 y5 : ByteArray) :
  (Op.equalIn (d + 3) 44 (.agg #[.bool x0, .string x1, .string x2, .bool x3, .string x4, .string x5]) (.agg #[.bool y0, .string y1, .string y2, .bool y3, .string y4, .string y5])).run Try.prog w = .ok ((x0 == y0 && (x1.toList == y1.toList && (x2.toList == y2.toList))) && ((x3 == y3 && (x4.toList == y4.toList && (x5.toList == y5.toList))))) w := by
 refine eqA_of Try.underlying44 (by kernel_rfl) ?_
 refine eqf_cons (by rfl) (by go_simp) (by go_simp) (eqA35 (d + 0) w _ _ _ _ _ _) ?_
 exact eqf_last (by rfl) (by go_simp) (by go_simp) (eqA35 (d + 0) w _ _ _ _ _ _)
class inductive Up (w : World) : World → Prop
 | refl : Up w w
 | alloc (w' : World) (o : Obj) : Up w w' → Up w (w'.alloc o)
 | drewN (w' : World) (m : Nat) : Up w w' → Up w (w'.drewN m)
 | drew (w' : World) : Up w w' → Up w w'.drew
instance upRefl (w : World) : Up w w := .refl
instance upAlloc (w w' : World) (o : Obj) [h : Up w w'] : Up w (w'.alloc o) := .alloc _ _ h
instance upDrewN (w w' : World) (m : Nat) [h : Up w w'] : Up w (w'.drewN m) := .drewN _ _ h
instance upDrew (w w' : World) [h : Up w w'] : Up w w'.drew := .drew _ h
section
variable {α : Type} {d : Kd α} {e b n : Nat} {ok S : Nat → Prop} {w0 w w' : World} {v : Value} {A : Option Addr} {xs : List α}
theorem bl (h : Aside0 (Below w0.heap.size w0 w)) [u : Up w w'] : Below w0.heap.size w0 w' := by
 induction u with
 | refl => exact h.out
 | alloc w1 o _ ih => exact below_alloc ih o
 | drewN w1 m _ ih => exact pw_below_drewN ih m
 | drew w1 _ ih => exact below_drew ih
theorem vl (h : Aside0 (Kd.V d e w b ok v xs)) [u : Up w w'] : Kd.V d e w' b ok v xs := by
 induction u with
 | refl => exact h.out
 | alloc w1 o _ ih => exact Kd.V_alloc ih o
 | drewN w1 m _ ih => exact Kd.V_drewN ih m
 | drew w1 _ ih => exact Kd.V_drew ih
theorem rl (h : Aside0 (Kd.R d e w b ok v xs)) [u : Up w w'] : Kd.R d e w' b ok v xs := by
 induction u with
 | refl => exact h.out
 | alloc w1 o _ ih => exact Kd.R_alloc ih o
 | drewN w1 m _ ih => exact Kd.R_drewN ih m
 | drew w1 _ ih => exact Kd.R_drew ih
theorem cl (h : Kd.C d w A n xs) [u : Up w w'] : Kd.C d w' A n xs := by
 induction u with
 | refl => exact h
 | alloc w1 o _ ih => exact Kd.C_alloc ih o
 | drewN w1 m _ ih => exact Kd.C_drewN ih m
 | drew w1 _ ih => exact Kd.C_drew ih
theorem kl (h : Aside0 (Kept w0 w S)) [u : Up w w'] : Kept w0 w' S := by
 induction u with
 | refl => exact h.out
 | alloc w1 o _ ih => exact Kept.alloc ih o
 | drewN w1 m _ ih => exact Kept.drewN ih m
 | drew w1 _ ih => exact Kept.drew ih
end
theorem bk {w : World} {g : Nat} {o : Obj} (h : w.heap[g]? = some o := by repeat (first | (with_reducible first | exact Aside0.out (by assumption) | refine blk_drewN ?_ _ | refine blk_drew ?_ | refine blk_alloc ?_ _) | refine blk_far ?_ (Aside0.out (by assumption)) _)) : w.heap[g]? = some o := h
theorem bs {w w' : World} (h : Below w.heap.size w w' := by repeat (first | (with_reducible first | exact Aside0.out (by assumption) | apply below_alloc | apply pw_below_drewN | apply below_drew1 | refine below_set ?_ (Aside0.out (by assumption))) | exact Aside0.out (by assumption))) : Below w.heap.size w w' := h
theorem dt {p : Prop} [Decidable p] (h : decide p = true := by with_reducible assumption) : p := of_decide_eq_true h
theorem sv {α : Type} {a b : α} (h : a = b := by first | rfl | (simp; done) | (simp [*]; done)) : a = b := h
theorem er {α : Type} {a b : α} (h : a = b := by first | rfl | (simp [errW_none, errW_some] <;> rfl) | (simp [*, errW_none, errW_some] <;> rfl)) : a = b := h
theorem dn {P : Prop} (h : P := by first | exact ⟨rfl, _, World.drewN_drewN _ _ _⟩ | exact ⟨rfl, _, Eq.trans (World.drewN_drewN _ _ _) (congrArg (World.drewN _) (Nat.add_assoc _ _ _))⟩) : P := h
theorem ga {P : Prop} (h : P := by (try simp only [List.map_toArray, List.map_cons, List.map_nil]); first | done | rfl | (simp only [List.length_drop, List.length_take]; rfl)) : P := h
section
variable {w w1 w2 W : World} {g g' k : Nat} {o : Obj}
theorem bb (h : Aside0 (w1.heap[g]? = some o)) (hb : Below w2.heap.size w2 W) (u : w2.heap[g]? = some o := by repeat (first | (with_reducible first | exact Aside0.out (by assumption) | refine blk_drewN ?_ _ | refine blk_drew ?_ | refine blk_alloc ?_ _) | refine blk_far ?_ (Aside0.out (by assumption)) _)) : Aside0 (W.heap[g]? = some o) := ⟨blk_below u hb⟩
theorem na (h : Aside0 (w1.heap[g]? = some o)) (hg : g' = w2.heap.size) (u : w2.heap[g]? = some o := by repeat (first | (with_reducible first | exact Aside0.out (by assumption) | refine blk_drewN ?_ _ | refine blk_drew ?_ | refine blk_alloc ?_ _) | refine blk_far ?_ (Aside0.out (by assumption)) _)) : Aside0 (g ≠ g') := ⟨by rw [hg]; exact Nat.ne_of_lt (blk_lt u)⟩
theorem nz (h : Aside0 (g ≠ g')) : Aside0 (g' ≠ g) := ⟨h.out.symm⟩
theorem bw (h : w.heap[g]? = some o := by repeat (first | (with_reducible first | exact Aside0.out (by assumption) | refine blk_drewN ?_ _ | refine blk_drew ?_ | refine blk_alloc ?_ _) | (apply blk_far; rotate_left; exact Aside0.out (by assumption); rotate_right) | apply blk_put | rfl)) : w.heap[g]? = some o := h
theorem bq {cs0 : Array Value} {t : TypeId} (h : Aside0 (w1.heap[g]? = some (.cells cs0 t (0, 0)))) (cs : Array Value) (hb : Below w2.heap.size w2 W) (u : w2.heap[g]? = some (.cells cs t (0, 0)) := by repeat (first | (with_reducible first | exact Aside0.out (by assumption) | refine blk_drewN ?_ _ | refine blk_drew ?_ | refine blk_alloc ?_ _) | (apply blk_far; rotate_left; exact Aside0.out (by assumption); rotate_right) | apply blk_put | rfl)) : Aside0 (W.heap[g]? = some (.cells cs t (0, 0))) := ⟨blk_below u hb⟩
theorem gw (h : Aside0 (Below w.heap.size w w1)) (hg : g' = w2.heap.size) (u : Below w.heap.size w w2 := by repeat (first | (with_reducible first | exact Aside0.out (by assumption) | apply below_alloc | apply pw_below_drewN | apply below_drew1 | refine below_set ?_ (Aside0.out (by assumption))) | exact Aside0.out (by assumption))) : Aside0 (w.heap.size ≤ g') := ⟨by rw [hg]; exact below_size u⟩
theorem hs (h : Aside0 (Below w.heap.size w w1)) (hb : Below w2.heap.size w2 W) (u : Below w.heap.size w w2 := by repeat (first | (with_reducible first | exact Aside0.out (by assumption) | apply below_alloc | apply pw_below_drewN | apply below_drew1 | refine below_set ?_ (Aside0.out (by assumption))) | exact Aside0.out (by assumption))) : Aside0 (Below w.heap.size w W) := ⟨below_step u hb⟩
theorem fb (h : Aside0 (w1.heap[g]? = some o)) (k : Nat) (hk : w2.heap.size ≤ k) (u : w2.heap[g]? = some o := by repeat (first | (with_reducible first | exact Aside0.out (by assumption) | refine blk_drewN ?_ _ | refine blk_drew ?_ | refine blk_alloc ?_ _) | refine blk_far ?_ (Aside0.out (by assumption)) _)) : k ≠ g := Kd.freshB u k hk
theorem ng (h : Aside0 (w.heap.size ≤ g)) (hs : k < w.heap.size) : k ≠ g := by have := h.out; omega
theorem z3 {a b c : Value} {t : TypeId} (h : Aside0 (w.heap[g]? = some (.cells #[a, b, c] t (0, 0)))) : w.cell? ⟨g, 0, none⟩ = some a ∧ w.cell? ⟨g, 1, none⟩ = some b ∧ w.cell? ⟨g, 2, none⟩ = some c ∧ w.frozen? ⟨g, 0, none⟩ = false ∧ w.frozen? ⟨g, 1, none⟩ = false ∧ w.frozen? ⟨g, 2, none⟩ = false :=
 ⟨(blk_cell h.out 0).trans rfl, (blk_cell h.out 1).trans rfl, (blk_cell h.out 2).trans rfl, blk_frozen h.out 0, blk_frozen h.out 1, blk_frozen h.out 2⟩
variable {P : Program} {ops : Array Oper} {rest : List Oper} {oi : Oper} {a : Act} {Q : Exit → Act → World → Prop}
theorem be {N : Tmp} {cs : Array Value} {t : TypeId} (h : ∀ g, g = W.heap.size → ∀ w1, w1.heap[g]? = some (.cells cs t (0, 0)) → Below W.heap.size W w1 → wpList P ops Q rest (a.put oi.dst (.pointer (some ⟨g, 0, none⟩))) w1)
  (hgd : oi.guard = none := by rfl) (hd : oi.dst = some N := by rfl) (hrun : (execOp a.eval oi).run P W = .ok (.value (.pointer (some ⟨W.heap.size, 0, none⟩))) (W.alloc (.cells cs t (0, 0))) := by first | (go_simp; done) | (go_simp; rfl)) : wpList P ops Q (oi :: rest) a W := box_event hgd hd hrun h
end
section
variable {P : Program} {md : Region.Mode} {ops : Array Oper} {Q : Exit → Act → World → Prop} {S : World → Prop} {ds : List Nat} {i fuel : Nat} {N : Option Tmp} {oi : Oper} {v : Value} {l : Array Bool} {a a' : Act} {w : World}
theorem pu (h : wpAnyLast P md ops Q S ds fuel (l.setIfInBounds i true) a' w) (hi : ops[i]? = some oi := by exact rfl) (hN : oi.dst = N := by exact rfl) (hc : anyB md ops l (l.setIfInBounds i true) i = true := by exact any_of (Aside0.out (by assumption)) (by kernel_rfl)) (hQ : ∀ c a w, Q (.panic c) (a.put oi.dst v) w → Q (.panic c) a w := by exact fun _ _ _ h => h)
  (hy : Yields P ops oi v a := by exact Or.inl ⟨by rfl, by intro w'; go_simp; with_reducible rfl⟩) (ha : a.put N v = a' := by simp only [Act.put, List.setIfInBounds_toArray, List.set_cons_zero, List.set_cons_succ, i64_w, i32_w]; rfl) : wpAnyLast P md ops Q S ds (fuel + 1) l a w := pure_ _ hi hN hc hQ hy ha h
theorem ta (hS : S w) (h : wpAnyLast P md ops Q S ds fuel (l.setIfInBounds i true) a' w) (hi : ops[i]? = some oi := by exact rfl) (hN : oi.dst = N := by exact rfl) (hc : takeB md ops ds l (l.setIfInBounds i true) i = true := by exact take_ofW (Aside0.out (by assumption)) (Aside0.out (by assumption)) (by kernel_rfl)) (hQ : ∀ c a w, Q (.panic c) (a.put oi.dst v) w → Q (.panic c) a w := by exact fun _ _ _ h => h)
  (hy : YieldsIf P ops S oi v a := by exact Or.inl ⟨by rfl, by intro w' hs_; (repeat obtain ⟨s_, hs_⟩ := hs_); go_simp; with_reducible rfl⟩) (ha : a.put N v = a' := by simp only [Act.put, List.setIfInBounds_toArray, List.set_cons_zero, List.set_cons_succ, i64_w, i32_w]; rfl) : wpAnyLast P md ops Q S ds (fuel + 1) l a w := take_ _ hi hN hc hQ hy hS ha h
theorem on (h : ∀ K : Act → World → Prop, Shut (∀ a' w', S w' → (S w' → wpAnyLast P md ops Q S ds fuel (l.setIfInBounds i true) a' w') → K a' w') → if Region.wanted oi (yielded ops a.tmps) = true then Oper.wp P oi a w K Q else K (a.put N undef) w) (hi : ops[i]? = some oi := by exact rfl) (hN : oi.dst = N := by exact rfl) (hc : readyB md ops l (l.setIfInBounds i true) i = true := by exact one_of (Aside0.out (by assumption)) (by kernel_rfl)) (hd : i ∉ ds := by decide) : wpAnyLast P md ops Q S ds (fuel + 1) l a w := one_ _ hi hN hc hd h
end
end Go.Proofs.Ytccgfmjcldifcaa.P
