/- What each Go function computes, as plain Lean functions, and the walks that show it; each theorem's conditions stand in it. -/
import Derived.Test.YtccgfmjcldifcaaProg
import Derived.Below
import Derived.Deep.Draws
import Derived.Deep.AppendLies
import Derived.Maps.AppendAt
import Derived.OwnWalk
import Derived.Laws.BytesArg
import Derived.Laws.MakeOwn
import Derived.Laws.OwnMore
import Derived.Deep.OwnRows
import Derived.Tactics
import Derived.Lib.ConvBytes
import Derived.Laws.Slices
import Derived.WalkKit
import Derived.KernelRfl
import Derived.RowKit3
import Derived.Deep.LoopGhost
import Derived.Deep.QuietTactic
import Derived.BigQuiet
import Derived.WideLaws
import Derived.Deep.DeepCutAuto
import Derived.Deep.CutBlock
import Derived.Deep.RegionHeld3
import Derived.Laws.Rows
import Derived.Lib.AppendStr
import Derived.ArgAppend
import Derived.Laws.IdiomCopy
import Derived.OrdersHeld
import Derived.Laws.BitsLemmas
import Derived.RowKit
import Derived.Lib.Bytealg
import Derived.Lib.BitFns
import Derived.Test.YtccgfmjcldifcaaV0
import Derived.Test.YtccgfmjcldifcaaV1
namespace Go.Proofs.Ytccgfmjcldifcaa.P
open Go.RowKit Go.Proofs.YtccgfmjcldifcaaW.PrintWords Go.Proofs.YtccgfmjcldifcaaW.PrintLast Go.Proofs.YtccgfmjcldifcaaW.PrintMore
attribute [local go_sem] max2_int min2_int max_two min_two max_three min_three max_four min_four   -- for this text's walks alone
set_option linter.unusedVariables false
set_option linter.unusedSimpArgs false



def errW : Option Int → Value
  | none => .nilIface
  | some c => .iface 0 (.int .i64 c)
theorem errW_none : errW none = .nilIface := rfl
theorem errW_some (c : Int) : errW (some c) = .iface 0 (.int .i64 c) := rfl

theorem info3 : (Try.prog.info? 3).map (fun i => (i.zero, i.size, i.bytes)) = some (some (.int .i64 0), 1, 8) := by kernel_rfl
theorem info5 : (Try.prog.info? 5).map (fun i => (i.zero, i.size, i.bytes)) = some (some (.int .u8 0), 1, 1) := by kernel_rfl
theorem info24 : (Try.prog.info? 24).map (fun i => (i.zero, i.size, i.bytes)) = some (some (.int .i64 0), 1, 8) := by kernel_rfl
theorem info35 : (Try.prog.info? 35).map (fun i => (i.zero, i.size, i.bytes)) = some (some (.agg #[(.bool false), (.string ⟨#[]⟩), (.string ⟨#[]⟩)]), 3, 40) := by kernel_rfl
theorem info88 : (Try.prog.info? 88).map (fun i => (i.zero, i.size, i.bytes)) = some (some (.agg #[(.bool false), (.slice none 0 0), (.slice none 0 0)]), 3, 56) := by kernel_rfl
theorem info117 : (Try.prog.info? 117).map (fun i => (i.zero, i.size, i.bytes)) = some (some (.int .u32 0), 1, 4) := by kernel_rfl
-- the values' own types
/-! #### struct type 35 -/
structure S35 where
  f0 : Bool
  f1 : ByteArray
  f2 : ByteArray
def z35 : S35 := ⟨false, (⟨#[]⟩ : ByteArray), (⟨#[]⟩ : ByteArray)⟩
def k35 : Kd S35 := Kd.iso (Kd.pair Kd.bool (Kd.pair Kd.string Kd.string)) (fun x : S35 => (x.f0, x.f1, x.f2))
theorem k35_heap : Kd.Heap k35 := Kd.heap_iso _ (Kd.heap_pair Kd.heap_bool (Kd.heap_pair Kd.heap_string Kd.heap_string))
theorem k35_open {w : World} {x : S35} {cs : List Value} (h : k35.K w x cs) : cs = [.bool x.f0, .string x.f1, .string x.f2] := by
  obtain ⟨_, _, rfl, rfl, ⟨_, _, rfl, rfl, rfl⟩⟩ := h
  exact rfl
theorem k35_openM {w : World} {base : Nat} {ok : Nat → Prop} {x : S35} {cs : List Value} (h : k35.M w base ok x cs) : cs = [.bool x.f0, .string x.f1, .string x.f2] := by
  obtain ⟨_, _, rfl, rfl, ⟨_, _, rfl, rfl, rfl⟩⟩ := h
  exact rfl
theorem k35_mk (w : World) (x : S35)  : k35.K w x [.bool x.f0, .string x.f1, .string x.f2] := ⟨[.bool x.f0], [.string x.f1, .string x.f2], rfl, rfl, ⟨[.string x.f1], [.string x.f2], rfl, rfl, rfl⟩⟩
theorem k35_mkM (w : World) (base : Nat) (ok : Nat → Prop) (x : S35)  : k35.M w base ok x [.bool x.f0, .string x.f1, .string x.f2] := ⟨[.bool x.f0], [.string x.f1, .string x.f2], rfl, rfl, ⟨[.string x.f1], [.string x.f2], rfl, rfl, rfl⟩⟩
theorem k35_mkF (W : World) (ok : Nat → Prop) (x : S35) : Kd.FK k35 W ok x [.bool x.f0, .string x.f1, .string x.f2] := fun W2 _ => k35_mk W2 x
def rd_T35 (xs : List S35) (i : Int) : S35 := xs.getD i.toNat z35
theorem at_T35 {w : World} {A : Option Addr} {n : Nat} {xs : List S35} (h : Kd.C k35 w A n xs) (i : Int) (h0 : 0 ≤ i) (h1 : i < n) : ∃ ad , A = some ad ∧ w.cell? (ad.add (i.toNat * 3)) = some (.bool (rd_T35 xs i).f0) ∧ w.cell? ⟨(ad.add (i.toNat * 3)).block, (ad.add (i.toNat * 3)).off + 1, none⟩ = some (.string (rd_T35 xs i).f1) ∧ w.cell? ⟨(ad.add (i.toNat * 3)).block, (ad.add (i.toNat * 3)).off + 2, none⟩ = some (.string (rd_T35 xs i).f2) := by
  obtain ⟨ad, c, e, _, hK, hc0⟩ := Kd.C_get h z35 i h0 h1
  have hc : ∀ j u, c[j]? = some u → w.cell? (ad.add (i.toNat * 3 + j)) = some u := hc0
  obtain rfl := k35_open hK
  exact ⟨ad, e, hc 0 _ rfl, by rw [← add_field _ _ 1 (by omega)]; exact hc 1 _ rfl, by rw [← add_field _ _ 2 (by omega)]; exact hc 2 _ rfl⟩

def rd_L6 (xs : List (List Int)) (i : Int) : (List Int) := xs.getD i.toNat ([] : List Int)
theorem at_L6 {w : World} {A : Option Addr} {n : Nat} {xs : List (List Int)} (h : Kd.C (Kd.slice 117 (Kd.int .u32)) w A n xs) (i : Int) (h0 : 0 ≤ i) (h1 : i < n) : ∃ ad A0 c0, A = some ad ∧ w.cell? (ad.add i.toNat) = some (.slice A0 (rd_L6 xs i).length c0) ∧ (rd_L6 xs i).length ≤ c0 ∧ (Kd.int .u32).C w A0 (rd_L6 xs i).length (rd_L6 xs i) := by
  obtain ⟨ad, c, e, _, hK, hc0⟩ := Kd.C_get h ([] : List Int) i h0 h1
  have hc : ∀ j u, c[j]? = some u → w.cell? (ad.add (i.toNat * 1 + j)) = some u := hc0
  obtain ⟨A0, c0, rfl, l0, g0⟩ := hK
  exact ⟨ad, A0, c0, e, by have hq := hc 0 _ rfl; rwa [Nat.mul_one, Nat.add_zero] at hq, l0, g0⟩

/-! #### struct type 88 -/
structure S88 where
  f0 : Bool
  f1 : (List Int)
  f2 : (List Int)
def z88 : S88 := ⟨false, ([] : List Int), ([] : List Int)⟩
def k88 : Kd S88 := Kd.iso (Kd.pair Kd.bool (Kd.pair (Kd.slice 117 (Kd.int .u32)) (Kd.slice 117 (Kd.int .u32)))) (fun x : S88 => (x.f0, x.f1, x.f2))
theorem k88_heap : Kd.Heap k88 := Kd.heap_iso _ (Kd.heap_pair Kd.heap_bool (Kd.heap_pair (Kd.heap_slice 117 (Kd.heap_int .u32)) (Kd.heap_slice 117 (Kd.heap_int .u32))))
theorem k88_open {w : World} {x : S88} {cs : List Value} (h : k88.K w x cs) : ∃ A1 c1 A2 c2, cs = [.bool x.f0, .slice A1 x.f1.length c1, .slice A2 x.f2.length c2] ∧ x.f1.length ≤ c1 ∧ (Kd.int .u32).C w A1 x.f1.length x.f1 ∧ x.f2.length ≤ c2 ∧ (Kd.int .u32).C w A2 x.f2.length x.f2 := by
  obtain ⟨_, _, rfl, rfl, ⟨_, _, rfl, ⟨A1, c1, rfl, l1, g1⟩, ⟨A2, c2, rfl, l2, g2⟩⟩⟩ := h
  exact ⟨A1, c1, A2, c2, rfl, l1, g1, l2, g2⟩
theorem k88_openM {w : World} {base : Nat} {ok : Nat → Prop} {x : S88} {cs : List Value} (h : k88.M w base ok x cs) : ∃ v1 v2, cs = [.bool x.f0, v1, v2] ∧ (Kd.int .u32).R 117 w base ok v1 x.f1 ∧ (Kd.int .u32).R 117 w base ok v2 x.f2 := by
  obtain ⟨_, _, rfl, rfl, ⟨_, _, rfl, ⟨v1, rfl, g1⟩, ⟨v2, rfl, g2⟩⟩⟩ := h
  exact ⟨v1, v2, rfl, g1, g2⟩
theorem k88_mk (w : World) (x : S88) {A1 : Option Addr} {c1 : Nat} (l1 : x.f1.length ≤ c1) (g1 : (Kd.int .u32).C w A1 x.f1.length x.f1) {A2 : Option Addr} {c2 : Nat} (l2 : x.f2.length ≤ c2) (g2 : (Kd.int .u32).C w A2 x.f2.length x.f2) : k88.K w x [.bool x.f0, .slice A1 x.f1.length c1, .slice A2 x.f2.length c2] := ⟨[.bool x.f0], [.slice A1 x.f1.length c1, .slice A2 x.f2.length c2], rfl, rfl, ⟨[.slice A1 x.f1.length c1], [.slice A2 x.f2.length c2], rfl, ⟨A1, c1, rfl, l1, g1⟩, ⟨A2, c2, rfl, l2, g2⟩⟩⟩
theorem k88_mkM (w : World) (base : Nat) (ok : Nat → Prop) (x : S88) {v1 : Value} (g1 : (Kd.int .u32).R 117 w base ok v1 x.f1) {v2 : Value} (g2 : (Kd.int .u32).R 117 w base ok v2 x.f2) : k88.M w base ok x [.bool x.f0, v1, v2] := ⟨[.bool x.f0], [v1, v2], rfl, rfl, ⟨[v1], [v2], rfl, ⟨v1, rfl, g1⟩, ⟨v2, rfl, g2⟩⟩⟩
theorem k88_openF {W : World} {ok : Nat → Prop} {x : S88} {cs : List Value} (h : Kd.FK k88 W ok x cs) : ∃ A1 c1 A2 c2, cs = [.bool x.f0, .slice A1 x.f1.length c1, .slice A2 x.f2.length c2] ∧ x.f1.length ≤ c1 ∧ Kd.F (Kd.int .u32) W ok A1 x.f1.length x.f1 ∧ x.f2.length ≤ c2 ∧ Kd.F (Kd.int .u32) W ok A2 x.f2.length x.f2 := by
  obtain ⟨A1, c1, A2, c2, rfl, l1, _, l2, _⟩ := k88_open (Kd.FK_now h)
  exact ⟨A1, c1, A2, c2, rfl, l1, (fun W' hW => by obtain ⟨A1_, c1_, A2_, c2_, he, l1_, g1_, l2_, g2_⟩ := k88_open (h W' hW); injection (Option.some.inj (show some (Value.slice A1 x.f1.length c1) = some (Value.slice A1_ x.f1.length c1_) from congrArg (fun l => l[1]?) he)) with ha_ _ _; rw [ha_]; exact g1_), l2, (fun W' hW => by obtain ⟨A1_, c1_, A2_, c2_, he, l1_, g1_, l2_, g2_⟩ := k88_open (h W' hW); injection (Option.some.inj (show some (Value.slice A2 x.f2.length c2) = some (Value.slice A2_ x.f2.length c2_) from congrArg (fun l => l[2]?) he)) with ha_ _ _; rw [ha_]; exact g2_)⟩
theorem k88_mkF (W : World) (ok : Nat → Prop) (x : S88) {A1 : Option Addr} {c1 : Nat} (l1 : x.f1.length ≤ c1) (g1 : Kd.F (Kd.int .u32) W ok A1 x.f1.length x.f1) {A2 : Option Addr} {c2 : Nat} (l2 : x.f2.length ≤ c2) (g2 : Kd.F (Kd.int .u32) W ok A2 x.f2.length x.f2) : Kd.FK k88 W ok x [.bool x.f0, .slice A1 x.f1.length c1, .slice A2 x.f2.length c2] := fun W2 hW => k88_mk W2 x l1 (g1 W2 hW) l2 (g2 W2 hW)
def rd_T88 (xs : List S88) (i : Int) : S88 := xs.getD i.toNat z88
theorem at_T88 {w : World} {A : Option Addr} {n : Nat} {xs : List S88} (h : Kd.C k88 w A n xs) (i : Int) (h0 : 0 ≤ i) (h1 : i < n) : ∃ ad A1 c1 A2 c2, A = some ad ∧ w.cell? (ad.add (i.toNat * 3)) = some (.bool (rd_T88 xs i).f0) ∧ w.cell? ⟨(ad.add (i.toNat * 3)).block, (ad.add (i.toNat * 3)).off + 1, none⟩ = some (.slice A1 (rd_T88 xs i).f1.length c1) ∧ w.cell? ⟨(ad.add (i.toNat * 3)).block, (ad.add (i.toNat * 3)).off + 2, none⟩ = some (.slice A2 (rd_T88 xs i).f2.length c2) ∧ (rd_T88 xs i).f1.length ≤ c1 ∧ (Kd.int .u32).C w A1 (rd_T88 xs i).f1.length (rd_T88 xs i).f1 ∧ (rd_T88 xs i).f2.length ≤ c2 ∧ (Kd.int .u32).C w A2 (rd_T88 xs i).f2.length (rd_T88 xs i).f2 := by
  obtain ⟨ad, c, e, _, hK, hc0⟩ := Kd.C_get h z88 i h0 h1
  have hc : ∀ j u, c[j]? = some u → w.cell? (ad.add (i.toNat * 3 + j)) = some u := hc0
  obtain ⟨A1, c1, A2, c2, rfl, l1, g1, l2, g2⟩ := k88_open hK
  exact ⟨ad, A1, c1, A2, c2, e, hc 0 _ rfl, by rw [← add_field _ _ 1 (by omega)]; exact hc 1 _ rfl, by rw [← add_field _ _ 2 (by omega)]; exact hc 2 _ rfl, l1, g1, l2, g2⟩

theorem eqA35 (d : Nat) (w : World) (x0 y0 : Bool) (x1 y1 : ByteArray) (x2 y2 : ByteArray) :
    (Op.equalIn (d + 2) 35 (.agg #[.bool x0, .string x1, .string x2]) (.agg #[.bool y0, .string y1, .string y2])).run Try.prog w = .ok (x0 == y0 && (x1.toList == y1.toList && (x2.toList == y2.toList))) w := by
  refine eqA_of Try.underlying35 (by kernel_rfl) ?_
  refine eqf_cons (by rfl) (by go_simp; rfl) (by go_simp; rfl) (by go_simp) ?_
  refine eqf_cons (by rfl) (by go_simp; rfl) (by go_simp; rfl) (by go_simp) ?_
  exact eqf_last (by rfl) (by go_simp; rfl) (by go_simp; rfl) (by go_simp)
theorem eqA44 (d : Nat) (w : World) (x0 y0 : Bool) (x1 y1 : ByteArray) (x2 y2 : ByteArray) (x3 y3 : Bool) (x4 y4 : ByteArray) (x5 y5 : ByteArray) :
    (Op.equalIn (d + 3) 44 (.agg #[.bool x0, .string x1, .string x2, .bool x3, .string x4, .string x5]) (.agg #[.bool y0, .string y1, .string y2, .bool y3, .string y4, .string y5])).run Try.prog w = .ok ((x0 == y0 && (x1.toList == y1.toList && (x2.toList == y2.toList))) && ((x3 == y3 && (x4.toList == y4.toList && (x5.toList == y5.toList))))) w := by
  refine eqA_of Try.underlying44 (by kernel_rfl) ?_
  refine eqf_cons (by rfl) (by go_simp) (by go_simp) (eqA35 (d + 0) w _ _ _ _ _ _) ?_
  exact eqf_last (by rfl) (by go_simp) (by go_simp) (eqA35 (d + 0) w _ _ _ _ _ _)
/-- A world, and what is drawn or laid on top of it. -/
class inductive Up (w : World) : World → Prop
  | refl : Up w w
  | alloc (w' : World) (o : Obj) : Up w w' → Up w (w'.alloc o)
  | drewN (w' : World) (m : Nat) : Up w w' → Up w (w'.drewN m)
  | drew (w' : World) : Up w w' → Up w w'.drew
instance upRefl (w : World) : Up w w := .refl
instance upAlloc (w w' : World) (o : Obj) [h : Up w w'] : Up w (w'.alloc o) := .alloc _ _ h
instance upDrewN (w w' : World) (m : Nat) [h : Up w w'] : Up w (w'.drewN m) := .drewN _ _ h
instance upDrew (w w' : World) [h : Up w w'] : Up w w'.drew := .drew _ h
section
variable {α : Type} {d : Kd α} {e b n : Nat} {ok S : Nat → Prop} {w0 w w' : World} {v : Value} {A : Option Addr} {xs : List α}
theorem bl (h : Aside0 (Below w0.heap.size w0 w)) [u : Up w w'] : Below w0.heap.size w0 w' := by
  induction u with
  | refl => exact h.out
  | alloc w1 o _ ih => exact below_alloc ih o
  | drewN w1 m _ ih => exact pw_below_drewN ih m
  | drew w1 _ ih => exact below_drew ih
theorem vl (h : Aside0 (Kd.V d e w b ok v xs)) [u : Up w w'] : Kd.V d e w' b ok v xs := by
  induction u with
  | refl => exact h.out
  | alloc w1 o _ ih => exact Kd.V_alloc ih o
  | drewN w1 m _ ih => exact Kd.V_drewN ih m
  | drew w1 _ ih => exact Kd.V_drew ih
theorem rl (h : Aside0 (Kd.R d e w b ok v xs)) [u : Up w w'] : Kd.R d e w' b ok v xs := by
  induction u with
  | refl => exact h.out
  | alloc w1 o _ ih => exact Kd.R_alloc ih o
  | drewN w1 m _ ih => exact Kd.R_drewN ih m
  | drew w1 _ ih => exact Kd.R_drew ih
theorem cl (h : Kd.C d w A n xs) [u : Up w w'] : Kd.C d w' A n xs := by
  induction u with
  | refl => exact h
  | alloc w1 o _ ih => exact Kd.C_alloc ih o
  | drewN w1 m _ ih => exact Kd.C_drewN ih m
  | drew w1 _ ih => exact Kd.C_drew ih
theorem kl (h : Aside0 (Kept w0 w S)) [u : Up w w'] : Kept w0 w' S := by
  induction u with
  | refl => exact h.out
  | alloc w1 o _ ih => exact Kept.alloc ih o
  | drewN w1 m _ ih => exact Kept.drewN ih m
  | drew w1 _ ih => exact Kept.drew ih
end
/-! Sides of walks, told by the goal alone: what is found in the context closes them. -/
theorem bk {w : World} {g : Nat} {o : Obj} (h : w.heap[g]? = some o := by repeat (first | (with_reducible first | exact Aside0.out (by assumption) | refine blk_drewN ?_ _ | refine blk_drew ?_ | refine blk_alloc ?_ _) | refine blk_far ?_ (Aside0.out (by assumption)) _)) : w.heap[g]? = some o := h
theorem bs {w w' : World} (h : Below w.heap.size w w' := by repeat (first | (with_reducible first | exact Aside0.out (by assumption) | apply below_alloc | apply pw_below_drewN | apply below_drew1 | refine below_set ?_ (Aside0.out (by assumption))) | exact Aside0.out (by assumption))) : Below w.heap.size w w' := h
theorem dt {p : Prop} [Decidable p] (h : decide p = true := by with_reducible assumption) : p := of_decide_eq_true h
theorem sv {α : Type} {a b : α} (h : a = b := by first | rfl | (simp; done) | (simp [*]; done)) : a = b := h
theorem dn {P : Prop} (h : P := by first | exact ⟨rfl, _, World.drewN_drewN _ _ _⟩ | exact ⟨rfl, _, Eq.trans (World.drewN_drewN _ _ _) (congrArg (World.drewN _) (Nat.add_assoc _ _ _))⟩) : P := h
theorem ga {P : Prop} (h : P := by (try simp only [List.map_toArray, List.map_cons, List.map_nil]); first | done | rfl | (simp only [List.length_drop, List.length_take]; rfl)) : P := h

end Go.Proofs.Ytccgfmjcldifcaa.P
