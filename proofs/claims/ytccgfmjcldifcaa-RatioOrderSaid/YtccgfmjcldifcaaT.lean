/- Walks of Go functions: what they compute; each theorem's conditions stand in it. -/
import Derived.Test.YtccgfmjcldifcaaProg
import Derived.Below
import Derived.Deep.Draws
import Derived.Deep.AppendLies
import Derived.Maps.AppendAt
import Derived.OwnWalk
import Derived.Laws.BytesArg
import Derived.Laws.MakeOwn
import Derived.Laws.OwnMore
import Derived.Deep.OwnRows
import Derived.Tactics
import Derived.Lib.ConvBytes
import Derived.Laws.Slices
import Derived.WalkKit
import Derived.KernelRfl
import Derived.RowKit3
import Derived.Deep.LoopGhost
import Derived.Deep.QuietTactic
import Derived.BigQuiet
import Derived.WideLaws
import Derived.Deep.DeepCutAuto
import Derived.Deep.CutBlock
import Derived.Deep.RegionHeld3
import Derived.Laws.Rows
import Derived.Lib.AppendStr
import Derived.ArgAppend
import Derived.Laws.IdiomCopy
import Derived.OrdersHeld
import Derived.Laws.BitsLemmas
import Derived.RowKit
import Derived.Lib.Bytealg
import Derived.Lib.BitFns
import Derived.Lib.IndexMore
import Derived.Test.YtccgfmjcldifcaaV0
namespace Go.Proofs.Ytccgfmjcldifcaa.P
open Go.RowKit Go.Proofs.YtccgfmjcldifcaaW.PrintWords Go.Proofs.YtccgfmjcldifcaaW.PrintLast Go.Proofs.YtccgfmjcldifcaaW.PrintMore
set_option linter.unusedVariables false
set_option linter.unusedSimpArgs false
def errW : Option Int → Value
 | none => .nilIface
 | some c => .iface 0 (.int .i64 c)
theorem errW_none : errW none = .nilIface := rfl
theorem errW_some (c : Int) : errW (some c) = .iface 0 (.int .i64 c) := rfl
theorem info3 : (Try.prog.info? 3).map (fun i => (i.zero, i.size, i.bytes)) = some (some (.int .i64 0), 1, 8) := by kernel_rfl
theorem info5 : (Try.prog.info? 5).map (fun i => (i.zero, i.size, i.bytes)) = some (some (.int .u8 0), 1, 1) := by kernel_rfl
theorem info88 : (Try.prog.info? 88).map (fun i => (i.zero, i.size, i.bytes)) = some (some (.agg #[(.bool false), (.slice none 0 0), (.slice none 0 0)]), 3, 56) := by kernel_rfl
theorem info117 : (Try.prog.info? 117).map (fun i => (i.zero, i.size, i.bytes)) = some (some (.int .u32 0), 1, 4) := by kernel_rfl
-- the values' own types
structure S35 where
 f0 : Bool
 f1 : ByteArray
 f2 : ByteArray
def z35 : S35 := ⟨false, (⟨#[]⟩ : ByteArray), (⟨#[]⟩ : ByteArray)⟩
def k35 : Kd S35 := Kd.iso (Kd.pair Kd.bool (Kd.pair Kd.string Kd.string)) (fun x : S35 => (x.f0, x.f1, x.f2))
theorem k35_open {w : World} {x : S35} {cs : List Value} (h : k35.K w x cs) : cs = [.bool x.f0, .string x.f1, .string x.f2] := by
 obtain ⟨_, _, rfl, rfl, ⟨_, _, rfl, rfl, rfl⟩⟩ := h
 exact rfl
theorem k35_mkM (w : World) (base : Nat) (ok : Nat → Prop) (x : S35)  : k35.M w base ok x [.bool x.f0, .string x.f1, .string x.f2] := ⟨[.bool x.f0], [.string x.f1, .string x.f2], rfl, rfl, ⟨[.string x.f1], [.string x.f2], rfl, rfl, rfl⟩⟩
def rd_T35 (xs : List S35) (i : Int) : S35 := xs.getD i.toNat z35
theorem at_T35 {w : World} {A : Option Addr} {n : Nat} {xs : List S35} (h : Kd.C k35 w A n xs) (i : Int) (h0 : 0 ≤ i) (h1 : i < n) : ∃ ad , A = some ad ∧ w.cell? (ad.add (i.toNat * 3)) = some (.bool (rd_T35 xs i).f0) ∧ w.cell? ⟨(ad.add (i.toNat * 3)).block, (ad.add (i.toNat * 3)).off + 1, none⟩ = some (.string (rd_T35 xs i).f1) ∧ w.cell? ⟨(ad.add (i.toNat * 3)).block, (ad.add (i.toNat * 3)).off + 2, none⟩ = some (.string (rd_T35 xs i).f2) := by
 obtain ⟨ad, c, e, _, hK, hc0⟩ := Kd.C_get h z35 i h0 h1
 have hc : ∀ j u, c[j]? = some u → w.cell? (ad.add (i.toNat * 3 + j)) = some u := hc0
 obtain rfl := k35_open hK
 exact ⟨ad, e, hc 0 _ rfl, by rw [← add_field _ _ 1 (by omega)]; exact hc 1 _ rfl, by rw [← add_field _ _ 2 (by omega)]; exact hc 2 _ rfl⟩
structure S88 where
 f0 : Bool
 f1 : (List Int)
 f2 : (List Int)
def z88 : S88 := ⟨false, ([] : List Int), ([] : List Int)⟩
def k88 : Kd S88 := Kd.iso (Kd.pair Kd.bool (Kd.pair (Kd.slice 117 (Kd.int .u32)) (Kd.slice 117 (Kd.int .u32)))) (fun x : S88 => (x.f0, x.f1, x.f2))
theorem k88_open {w : World} {x : S88} {cs : List Value} (h : k88.K w x cs) : ∃ A1 c1 A2 c2, cs = [.bool x.f0, .slice A1 x.f1.length c1, .slice A2 x.f2.length c2] ∧ x.f1.length ≤ c1 ∧ (Kd.int .u32).C w A1 x.f1.length x.f1 ∧ x.f2.length ≤ c2 ∧ (Kd.int .u32).C w A2 x.f2.length x.f2 := by
 obtain ⟨_, _, rfl, rfl, ⟨_, _, rfl, ⟨A1, c1, rfl, l1, g1⟩, ⟨A2, c2, rfl, l2, g2⟩⟩⟩ := h
 exact ⟨A1, c1, A2, c2, rfl, l1, g1, l2, g2⟩
theorem k88_openM {w : World} {base : Nat} {ok : Nat → Prop} {x : S88} {cs : List Value} (h : k88.M w base ok x cs) : ∃ v1 v2, cs = [.bool x.f0, v1, v2] ∧ (Kd.int .u32).R 117 w base ok v1 x.f1 ∧ (Kd.int .u32).R 117 w base ok v2 x.f2 := by
 obtain ⟨_, _, rfl, rfl, ⟨_, _, rfl, ⟨v1, rfl, g1⟩, ⟨v2, rfl, g2⟩⟩⟩ := h
 exact ⟨v1, v2, rfl, g1, g2⟩
theorem k88_mkM (w : World) (base : Nat) (ok : Nat → Prop) (x : S88) {v1 : Value} (g1 : (Kd.int .u32).R 117 w base ok v1 x.f1) {v2 : Value} (g2 : (Kd.int .u32).R 117 w base ok v2 x.f2) : k88.M w base ok x [.bool x.f0, v1, v2] := ⟨[.bool x.f0], [v1, v2], rfl, rfl, ⟨[v1], [v2], rfl, ⟨v1, rfl, g1⟩, ⟨v2, rfl, g2⟩⟩⟩
def rd_T88 (xs : List S88) (i : Int) : S88 := xs.getD i.toNat z88
theorem at_T88 {w : World} {A : Option Addr} {n : Nat} {xs : List S88} (h : Kd.C k88 w A n xs) (i : Int) (h0 : 0 ≤ i) (h1 : i < n) : ∃ ad A1 c1 A2 c2, A = some ad ∧ w.cell? (ad.add (i.toNat * 3)) = some (.bool (rd_T88 xs i).f0) ∧ w.cell? ⟨(ad.add (i.toNat * 3)).block, (ad.add (i.toNat * 3)).off + 1, none⟩ = some (.slice A1 (rd_T88 xs i).f1.length c1) ∧ w.cell? ⟨(ad.add (i.toNat * 3)).block, (ad.add (i.toNat * 3)).off + 2, none⟩ = some (.slice A2 (rd_T88 xs i).f2.length c2) ∧ (rd_T88 xs i).f1.length ≤ c1 ∧ (Kd.int .u32).C w A1 (rd_T88 xs i).f1.length (rd_T88 xs i).f1 ∧ (rd_T88 xs i).f2.length ≤ c2 ∧ (Kd.int .u32).C w A2 (rd_T88 xs i).f2.length (rd_T88 xs i).f2 := by
 obtain ⟨ad, c, e, _, hK, hc0⟩ := Kd.C_get h z88 i h0 h1
 have hc : ∀ j u, c[j]? = some u → w.cell? (ad.add (i.toNat * 3 + j)) = some u := hc0
 obtain ⟨A1, c1, A2, c2, rfl, l1, g1, l2, g2⟩ := k88_open hK
 exact ⟨ad, A1, c1, A2, c2, e, hc 0 _ rfl, by rw [← add_field _ _ 1 (by omega)]; exact hc 1 _ rfl, by rw [← add_field _ _ 2 (by omega)]; exact hc 2 _ rfl, l1, g1, l2, g2⟩
theorem eqA35 (d : Nat) (w : World) (x0 y0 : Bool) (x1 y1 : ByteArray) (x2 y2 : ByteArray) :
  (Op.equalIn (d + 2) 35 (.agg #[.bool x0, .string x1, .string x2]) (.agg #[.bool y0, .string y1, .string y2])).run Try.prog w = .ok (x0 == y0 && (x1.toList == y1.toList && (x2.toList == y2.toList))) w := by
 refine eqA_of Try.underlying35 (by kernel_rfl) ?_
 refine eqf_cons (by rfl) (by go_simp; rfl) (by go_simp; rfl) (by go_simp) ?_
 refine eqf_cons (by rfl) (by go_simp; rfl) (by go_simp; rfl) (by go_simp) ?_
 exact eqf_last (by rfl) (by go_simp; rfl) (by go_simp; rfl) (by go_simp)
class inductive Up (w : World) : World → Prop
 | refl : Up w w
 | alloc (w' : World) (o : Obj) : Up w w' → Up w (w'.alloc o)
 | drewN (w' : World) (m : Nat) : Up w w' → Up w (w'.drewN m)
 | drew (w' : World) : Up w w' → Up w w'.drew
instance upRefl (w : World) : Up w w := .refl
instance upAlloc (w w' : World) (o : Obj) [h : Up w w'] : Up w (w'.alloc o) := .alloc _ _ h
instance upDrewN (w w' : World) (m : Nat) [h : Up w w'] : Up w (w'.drewN m) := .drewN _ _ h
instance upDrew (w w' : World) [h : Up w w'] : Up w w'.drew := .drew _ h
section
variable {α : Type} {d : Kd α} {e b n : Nat} {ok S : Nat → Prop} {w0 w w' : World} {v : Value} {A : Option Addr} {xs : List α}
theorem bl (h : Aside0 (Below w0.heap.size w0 w)) [u : Up w w'] : Below w0.heap.size w0 w' := by
 induction u with
 | refl => exact h.out
 | alloc w1 o _ ih => exact below_alloc ih o
 | drewN w1 m _ ih => exact pw_below_drewN ih m
 | drew w1 _ ih => exact below_drew ih
theorem vl (h : Aside0 (Kd.V d e w b ok v xs)) [u : Up w w'] : Kd.V d e w' b ok v xs := by
 induction u with
 | refl => exact h.out
 | alloc w1 o _ ih => exact Kd.V_alloc ih o
 | drewN w1 m _ ih => exact Kd.V_drewN ih m
 | drew w1 _ ih => exact Kd.V_drew ih
theorem rl (h : Aside0 (Kd.R d e w b ok v xs)) [u : Up w w'] : Kd.R d e w' b ok v xs := by
 induction u with
 | refl => exact h.out
 | alloc w1 o _ ih => exact Kd.R_alloc ih o
 | drewN w1 m _ ih => exact Kd.R_drewN ih m
 | drew w1 _ ih => exact Kd.R_drew ih
theorem cl (h : Kd.C d w A n xs) [u : Up w w'] : Kd.C d w' A n xs := by
 induction u with
 | refl => exact h
 | alloc w1 o _ ih => exact Kd.C_alloc ih o
 | drewN w1 m _ ih => exact Kd.C_drewN ih m
 | drew w1 _ ih => exact Kd.C_drew ih
theorem kl (h : Aside0 (Kept w0 w S)) [u : Up w w'] : Kept w0 w' S := by
 induction u with
 | refl => exact h.out
 | alloc w1 o _ ih => exact Kept.alloc ih o
 | drewN w1 m _ ih => exact Kept.drewN ih m
 | drew w1 _ ih => exact Kept.drew ih
end
theorem bk {w : World} {g : Nat} {o : Obj} (h : w.heap[g]? = some o := by repeat (first | (with_reducible first | exact Aside0.out (by assumption) | refine blk_drewN ?_ _ | refine blk_drew ?_ | refine blk_alloc ?_ _) | refine blk_far ?_ (Aside0.out (by assumption)) _)) : w.heap[g]? = some o := h
theorem bs {w w' : World} (h : Below w.heap.size w w' := by repeat (first | (with_reducible first | exact Aside0.out (by assumption) | apply below_alloc | apply pw_below_drewN | apply below_drew1 | refine below_set ?_ (Aside0.out (by assumption))) | exact Aside0.out (by assumption))) : Below w.heap.size w w' := h
theorem gl {w w' : World} {m : Int} (hm : w.cell? ⟨0, 0, none⟩ = some (.int .i64 m)) (h : Below w.heap.size w w') : w'.cell? ⟨0, 0, none⟩ = some (.int .i64 m) := by
 refine (h.cell ?_).trans hm
 show 0 < w.heap.size
 rcases Nat.eq_zero_or_pos w.heap.size with g | g
 ·exfalso
  have h0 : w.heap[0]? = none := Array.getElem?_eq_none (by omega)
  simp [World.cell?, h0] at hm
 ·exact g
theorem dt {p : Prop} [Decidable p] (h : decide p = true := by with_reducible assumption) : p := of_decide_eq_true h
theorem sv {α : Type} {a b : α} (h : a = b := by first | rfl | (simp; done) | (simp [*]; done)) : a = b := h
theorem er {α : Type} {a b : α} (h : a = b := by first | rfl | (simp [errW_none, errW_some] <;> rfl) | (simp [*, errW_none, errW_some] <;> rfl)) : a = b := h
theorem dn {P : Prop} (h : P := by first | exact ⟨rfl, _, World.drewN_drewN _ _ _⟩ | exact ⟨rfl, _, Eq.trans (World.drewN_drewN _ _ _) (congrArg (World.drewN _) (Nat.add_assoc _ _ _))⟩) : P := h
theorem ga {P : Prop} (h : P := by (try simp only [List.map_toArray, List.map_cons, List.map_nil]); first | done | rfl | (simp only [List.length_drop, List.length_take]; rfl)) : P := h
section
variable {w w1 w2 W : World} {g g' k : Nat} {o : Obj}
theorem bb (h : Aside0 (w1.heap[g]? = some o)) (hb : Below w2.heap.size w2 W) (u : w2.heap[g]? = some o := by repeat (first | (with_reducible first | exact Aside0.out (by assumption) | refine blk_drewN ?_ _ | refine blk_drew ?_ | refine blk_alloc ?_ _) | refine blk_far ?_ (Aside0.out (by assumption)) _)) : Aside0 (W.heap[g]? = some o) := ⟨blk_below u hb⟩
theorem na (h : Aside0 (w1.heap[g]? = some o)) (hg : g' = w2.heap.size) (u : w2.heap[g]? = some o := by repeat (first | (with_reducible first | exact Aside0.out (by assumption) | refine blk_drewN ?_ _ | refine blk_drew ?_ | refine blk_alloc ?_ _) | refine blk_far ?_ (Aside0.out (by assumption)) _)) : Aside0 (g ≠ g') := ⟨by rw [hg]; exact Nat.ne_of_lt (blk_lt u)⟩
theorem nz (h : Aside0 (g ≠ g')) : Aside0 (g' ≠ g) := ⟨h.out.symm⟩
theorem bw (h : w.heap[g]? = some o := by repeat (first | (with_reducible first | exact Aside0.out (by assumption) | refine blk_drewN ?_ _ | refine blk_drew ?_ | refine blk_alloc ?_ _) | (apply blk_far; rotate_left; exact Aside0.out (by assumption); rotate_right) | apply blk_put | rfl)) : w.heap[g]? = some o := h
theorem bq {cs0 : Array Value} {t : TypeId} (h : Aside0 (w1.heap[g]? = some (.cells cs0 t (0, 0)))) (cs : Array Value) (hb : Below w2.heap.size w2 W) (u : w2.heap[g]? = some (.cells cs t (0, 0)) := by repeat (first | (with_reducible first | exact Aside0.out (by assumption) | refine blk_drewN ?_ _ | refine blk_drew ?_ | refine blk_alloc ?_ _) | (apply blk_far; rotate_left; exact Aside0.out (by assumption); rotate_right) | apply blk_put | rfl)) : Aside0 (W.heap[g]? = some (.cells cs t (0, 0))) := ⟨blk_below u hb⟩
theorem gw (h : Aside0 (Below w.heap.size w w1)) (hg : g' = w2.heap.size) (u : Below w.heap.size w w2 := by repeat (first | (with_reducible first | exact Aside0.out (by assumption) | apply below_alloc | apply pw_below_drewN | apply below_drew1 | refine below_set ?_ (Aside0.out (by assumption))) | exact Aside0.out (by assumption))) : Aside0 (w.heap.size ≤ g') := ⟨by rw [hg]; exact below_size u⟩
theorem hs (h : Aside0 (Below w.heap.size w w1)) (hb : Below w2.heap.size w2 W) (u : Below w.heap.size w w2 := by repeat (first | (with_reducible first | exact Aside0.out (by assumption) | apply below_alloc | apply pw_below_drewN | apply below_drew1 | refine below_set ?_ (Aside0.out (by assumption))) | exact Aside0.out (by assumption))) : Aside0 (Below w.heap.size w W) := ⟨below_step u hb⟩
theorem fb (h : Aside0 (w1.heap[g]? = some o)) (k : Nat) (hk : w2.heap.size ≤ k) (u : w2.heap[g]? = some o := by repeat (first | (with_reducible first | exact Aside0.out (by assumption) | refine blk_drewN ?_ _ | refine blk_drew ?_ | refine blk_alloc ?_ _) | refine blk_far ?_ (Aside0.out (by assumption)) _)) : k ≠ g := Kd.freshB u k hk
theorem ng (h : Aside0 (w.heap.size ≤ g)) (hs : k < w.heap.size) : k ≠ g := by have := h.out; omega
theorem z3 {a b c : Value} {t : TypeId} (h : Aside0 (w.heap[g]? = some (.cells #[a, b, c] t (0, 0)))) : w.cell? ⟨g, 0, none⟩ = some a ∧ w.cell? ⟨g, 1, none⟩ = some b ∧ w.cell? ⟨g, 2, none⟩ = some c ∧ w.frozen? ⟨g, 0, none⟩ = false ∧ w.frozen? ⟨g, 1, none⟩ = false ∧ w.frozen? ⟨g, 2, none⟩ = false :=
 ⟨(blk_cell h.out 0).trans rfl, (blk_cell h.out 1).trans rfl, (blk_cell h.out 2).trans rfl, blk_frozen h.out 0, blk_frozen h.out 1, blk_frozen h.out 2⟩
theorem cf {a ad : Addr} {n c i : Nat} {u : Value} {x : Option Value} (h : some g ≠ (Value.slice (some ad) n c).ownBlock) (e : W.cell? a = x) (hb : a.block = ad.block := by first | rfl | exact add_block _ _) : (W.setCell ⟨g, i, none⟩ u).cell? a = x := (cell_far (p := ⟨g, i, none⟩) (by show a.block ≠ g; rw [hb]; exact Kd.own_blk h) u).trans e
variable {P : Program} {ops : Array Oper} {rest : List Oper} {oi : Oper} {a : Act} {Q : Exit → Act → World → Prop}
theorem be {N : Tmp} {cs : Array Value} {t : TypeId} (h : ∀ g, g = W.heap.size → ∀ w1, w1.heap[g]? = some (.cells cs t (0, 0)) → Below W.heap.size W w1 → wpList P ops Q rest (a.put oi.dst (.pointer (some ⟨g, 0, none⟩))) w1)
  (hgd : oi.guard = none := by rfl) (hd : oi.dst = some N := by rfl) (hrun : (execOp a.eval oi).run P W = .ok (.value (.pointer (some ⟨W.heap.size, 0, none⟩))) (W.alloc (.cells cs t (0, 0))) := by first | (go_simp; done) | (go_simp; rfl)) : wpList P ops Q (oi :: rest) a W := box_event hgd hd hrun h
end
section
variable {P : Program} {md : Region.Mode} {ops : Array Oper} {Q : Exit → Act → World → Prop} {S : World → Prop} {ds : List Nat} {i fuel : Nat} {N : Option Tmp} {oi : Oper} {v : Value} {l : Array Bool} {a a' : Act} {w : World}
theorem pu (h : wpAnyLast P md ops Q S ds fuel (l.setIfInBounds i true) a' w) (hi : ops[i]? = some oi := by exact rfl) (hN : oi.dst = N := by exact rfl) (hc : anyB md ops l (l.setIfInBounds i true) i = true := by exact any_of (Aside0.out (by assumption)) (by kernel_rfl)) (hQ : ∀ c a w, Q (.panic c) (a.put oi.dst v) w → Q (.panic c) a w := by exact fun _ _ _ h => h)
  (hy : Yields P ops oi v a := by exact Or.inl ⟨by rfl, by intro w'; go_simp; with_reducible rfl⟩) (ha : a.put N v = a' := by simp only [Act.put, List.setIfInBounds_toArray, List.set_cons_zero, List.set_cons_succ, i64_w, i32_w]; rfl) : wpAnyLast P md ops Q S ds (fuel + 1) l a w := pure_ _ hi hN hc hQ hy ha h
theorem ta (hS : S w) (h : wpAnyLast P md ops Q S ds fuel (l.setIfInBounds i true) a' w) (hi : ops[i]? = some oi := by exact rfl) (hN : oi.dst = N := by exact rfl) (hc : takeB md ops ds l (l.setIfInBounds i true) i = true := by exact take_ofW (Aside0.out (by assumption)) (Aside0.out (by assumption)) (by kernel_rfl)) (hQ : ∀ c a w, Q (.panic c) (a.put oi.dst v) w → Q (.panic c) a w := by exact fun _ _ _ h => h)
  (hy : YieldsIf P ops S oi v a := by exact Or.inl ⟨by rfl, by intro w' hs_; (repeat obtain ⟨s_, hs_⟩ := hs_); go_simp; with_reducible rfl⟩) (ha : a.put N v = a' := by simp only [Act.put, List.setIfInBounds_toArray, List.set_cons_zero, List.set_cons_succ, i64_w, i32_w]; rfl) : wpAnyLast P md ops Q S ds (fuel + 1) l a w := take_ _ hi hN hc hQ hy hS ha h
theorem on (h : ∀ K : Act → World → Prop, Shut (∀ a' w', S w' → (S w' → wpAnyLast P md ops Q S ds fuel (l.setIfInBounds i true) a' w') → K a' w') → if Region.wanted oi (yielded ops a.tmps) = true then Oper.wp P oi a w K Q else K (a.put N undef) w) (hi : ops[i]? = some oi := by exact rfl) (hN : oi.dst = N := by exact rfl) (hc : readyB md ops l (l.setIfInBounds i true) i = true := by exact one_of (Aside0.out (by assumption)) (by kernel_rfl)) (hd : i ∉ ds := by decide) : wpAnyLast P md ops Q S ds (fuel + 1) l a w := one_ _ hi hN hc hd h
end
section
variable {w : World} {e b n c : Nat} {ok : Nat → Prop} {ad : Addr} {A : Option Addr} {xs : List S88}
theorem r88 {ad : Addr} (h : Kd.S k88 e w b ok (.slice (some ad) n c) xs) (i : Int) (h0 : 0 ≤ i) (h1 : i < xs.length) : ∃ A1 c1 A2 c2, w.cell? (ad.add (i.toNat * 3)) = some (.bool (rd_T88 xs i).f0) ∧ w.cell? ⟨(ad.add (i.toNat * 3)).block, (ad.add (i.toNat * 3)).off + 1, none⟩ = some (.slice A1 (rd_T88 xs i).f1.length c1) ∧ w.cell? ⟨(ad.add (i.toNat * 3)).block, (ad.add (i.toNat * 3)).off + 2, none⟩ = some (.slice A2 (rd_T88 xs i).f2.length c2) ∧
  Aside0 ((Kd.int .u32).C w A1 (rd_T88 xs i).f1.length (rd_T88 xs i).f1) ∧ Aside0 ((rd_T88 xs i).f1.length ≤ c1) ∧ Aside0 ((Kd.int .u32).C w A2 (rd_T88 xs i).f2.length (rd_T88 xs i).f2) ∧ Aside0 ((rd_T88 xs i).f2.length ≤ c2) ∧
  Aside0 (Kd.R (Kd.int .u32) 117 w b (fun k => ok k ∧ some k ≠ (Value.slice (some ad) n c).ownBlock) (.slice A1 (rd_T88 xs i).f1.length c1) (rd_T88 xs i).f1) ∧ Aside0 (Kd.R (Kd.int .u32) 117 w b (fun k => ok k ∧ some k ≠ (Value.slice (some ad) n c).ownBlock) (.slice A2 (rd_T88 xs i).f2.length c2) (rd_T88 xs i).f2) := by
 obtain ⟨ad', A1, c1, A2, c2, e1, hx0, hx1, hx2, l1, i1, l2, i2⟩ := at_T88 (Kd.S_reads' h).2.2 i h0 h1
 cases e1
 obtain ⟨ce, hce, hM, hcc⟩ := Kd.S_get h z88 i h0 (by have := (Kd.S_reads' h).1; omega)
 obtain ⟨v1, v2, rfl, g1, g2⟩ := k88_openM hM
 have hv1 := hcc 1 _ rfl
 rw [add_field _ _ 1 (by omega)] at hv1
 replace hv1 := Option.some.inj (hv1.symm.trans hx1)
 rw [hv1] at g1
 have hv2 := hcc 2 _ rfl
 rw [add_field _ _ 2 (by omega)] at hv2
 replace hv2 := Option.some.inj (hv2.symm.trans hx2)
 rw [hv2] at g2
 exact ⟨A1, c1, A2, c2, hx0, hx1, hx2, ⟨i1⟩, ⟨l1⟩, ⟨i2⟩, ⟨l2⟩, ⟨g1⟩, ⟨g2⟩⟩
theorem r88z (h : Kd.S k88 e w b ok (.slice A n c) xs) (h1 : 0 < (xs.length : Int)) : ∃ ad A1 c1 A2 c2, A = some ad ∧ w.cell? ad = some (.bool (rd_T88 xs 0).f0) ∧ w.cell? ⟨ad.block, ad.off + 1, none⟩ = some (.slice A1 (rd_T88 xs 0).f1.length c1) ∧ w.cell? ⟨ad.block, ad.off + 2, none⟩ = some (.slice A2 (rd_T88 xs 0).f2.length c2) ∧
  Aside0 ((Kd.int .u32).C w A1 (rd_T88 xs 0).f1.length (rd_T88 xs 0).f1) ∧ Aside0 ((rd_T88 xs 0).f1.length ≤ c1) ∧ Aside0 ((Kd.int .u32).C w A2 (rd_T88 xs 0).f2.length (rd_T88 xs 0).f2) ∧ Aside0 ((rd_T88 xs 0).f2.length ≤ c2) ∧
  Aside0 (Kd.R (Kd.int .u32) 117 w b (fun k => ok k ∧ some k ≠ (Value.slice (some ad) n c).ownBlock) (.slice A1 (rd_T88 xs 0).f1.length c1) (rd_T88 xs 0).f1) ∧ Aside0 (Kd.R (Kd.int .u32) 117 w b (fun k => ok k ∧ some k ≠ (Value.slice (some ad) n c).ownBlock) (.slice A2 (rd_T88 xs 0).f2.length c2) (rd_T88 xs 0).f2) := by
 obtain ⟨ad, _, _, _, _, e1, _⟩ := at_T88 (Kd.S_reads' h).2.2 0 (by omega) h1
 subst e1
 obtain ⟨A1, c1, A2, c2, hx0, hx1, hx2, r⟩ := r88 h 0 (by omega) h1
 rw [show ((0 : Int)).toNat = 0 from rfl, show 0 * 3 = 0 from rfl, Addr.add_zero'] at hx0 hx1 hx2
 exact ⟨ad, A1, c1, A2, c2, rfl, hx0, hx1, hx2, r⟩
theorem se {x : Option Value} {A B : Option Addr} {n m c d : Nat} (h : x = some (.slice A n c)) (k : x = some (.slice B m d)) : A = B ∧ c = d := by
 rw [h] at k; cases k; exact ⟨rfl, rfl⟩
end
end Go.Proofs.Ytccgfmjcldifcaa.P
