/- The functions of the seat's laws as plain Lean functions, and that Go's code comes to just their answers. Written by pp.py (wip/tools), a program of this session, on the kit's print. -/
import Derived.Test.YtjpedimndkibnaaGreatDoorProg
import Derived.Below
import Derived.Deep.Draws
import Derived.Deep.AppendLies
import Derived.Maps.AppendAt
import Derived.OwnWalk
import Derived.Laws.BytesArg
import Derived.Laws.MakeOwn
import Derived.Laws.OwnMore
import Derived.Deep.OwnRows
import Derived.Tactics
import Derived.Lib.ConvBytes
import Derived.Laws.Slices
import Derived.WalkKit
import Derived.KernelRfl
import Derived.RowKit3
import Derived.Deep.LoopGhost
import Derived.Deep.QuietTactic
import Derived.BigQuiet
import Derived.WideLaws
import Derived.Deep.DeepCutAuto
import Derived.Deep.CutBlock
import Derived.Deep.RegionHeld3
import Derived.Laws.Rows
import Derived.Lib.AppendStr
import Derived.ArgAppend
import Derived.Laws.IdiomCopy
import Derived.OrdersHeld
import Derived.Laws.BitsLemmas
import Derived.RowKit
import Derived.RangeFuncNested
import Derived.RangeFuncBound
import Derived.RangeFuncCalls
import Derived.RangeFuncLeaves
import Derived.RangeFuncBox
import Derived.Shelf.Abstract
import Derived.Shelf.RegionOpen
import Derived.OwnWalkIn
import Derived.TacticsInMore
import Derived.LoopNIn
import Derived.LoopIn
import Derived.Deep.RegionWith
import Derived.LaidEql
import Derived.Stop.Asserts
import Derived.RowKitTokens
import Derived.Lib.SliceRun
import Derived.Test.YtjpedimndkibnaaGreatDoorUWords
import Derived.Test.YtjpedimndkibnaaGreatDoorULast
import Derived.Test.YtjpedimndkibnaaGreatDoorUTab
import Derived.Test.YtjpedimndkibnaaGreatDoorUFour
import Derived.Test.YtjpedimndkibnaaGreatDoorUQPut
import Derived.Test.YtjpedimndkibnaaGreatDoorUApart
import Derived.Test.YtjpedimndkibnaaGreatDoorUArr
import Derived.Test.YtjpedimndkibnaaGreatDoorUZeros
import Derived.Test.YtjpedimndkibnaaGreatDoorUFoot
import Derived.Test.YtjpedimndkibnaaGreatDoorUKept
import Derived.Test.YtjpedimndkibnaaGreatDoorUShare
import Derived.Test.YtjpedimndkibnaaGreatDoorUN
import Derived.Test.YtjpedimndkibnaaGreatDoorUFootNe
import Derived.Test.YtjpedimndkibnaaGreatDoorUAt
import Derived.Test.YtjpedimndkibnaaGreatDoorUEqStruct
import Derived.Test.YtjpedimndkibnaaGreatDoorURepsOne
import Derived.Test.YtjpedimndkibnaaGreatDoorUInv
import Derived.Test.YtjpedimndkibnaaGreatDoorUInvWords
import Derived.Test.YtjpedimndkibnaaGreatDoorUGuard
import Derived.Test.YtjpedimndkibnaaGreatDoorUNEv
import Derived.Test.YtjpedimndkibnaaGreatDoorUMore
namespace Go.Proofs.YtjpedimndkibnaaGreatDoor.P
open Go.RowKit Go.Proofs.YtjpedimndkibnaaGreatDoorW.PrintWords Go.Proofs.YtjpedimndkibnaaGreatDoorW.PrintLast Go.Proofs.YtjpedimndkibnaaGreatDoorW.PrintMore
attribute [local go_sem] max2_int min2_int max_two min_two max_three min_three max_four min_four   -- for this text's walks alone
attribute [local go_sem] Instr.field asAgg
set_option linter.unusedVariables false
set_option linter.unusedSimpArgs false



/-- What an error is: a number, or a spot (what it says stands in a row beside it). -/
inductive Er where
 | num : Int → Er
 | spot : Er
def ez : Er := .num 0
abbrev ERNT : TypeId := 69
def Er.ty : Er → TypeId
 | .num _ => 69
 | .spot => 72
def adrOf : Value → Option Addr
 | .slice a _ _ => a
 | _ => none
def Er.pay (v : Value) : Er → Value
 | .num n => .int .i64 n
 | .spot => .pointer (adrOf v)
def errW (v : Value) : Option Er → Value
 | none => .nilIface
 | some c => .iface c.ty (c.pay v)
theorem errW_none {v : Value} : errW v none = .nilIface := rfl
theorem errW_some {v : Value} {c : Er} : errW v (some c) = .iface c.ty (c.pay v) := rfl
def kern : Kd Int := Kd.scalar (fun x : Int => .iface ERNT (.int .i64 x)) (fun _ => rfl)
theorem kern_heap : Kd.Heap kern := Kd.heap_scalar

theorem info3 : (Tryz.prog.info? 3).map (fun i => (i.zero, i.size, i.bytes)) = some (some (.int .i64 0), 1, 8) := by kernel_rfl
theorem info55 : (Tryz.prog.info? 55).map (fun i => (i.zero, i.size, i.bytes)) = some (some (.agg #[(.bool false), (.bool false), (.bool false), (.int .i64 0), (.bool false), (.int .u8 0)]), 6, 40) := by kernel_rfl
-- the values' own types
/-! #### struct type 53 -/
structure S53 where
 f0 : Bool
 f1 : Bool
 f2 : Int
 f3 : Bool
def z53 : S53 := ⟨false, false, (0 : Int), false⟩
def k53 : Kd S53 := Kd.iso (Kd.pair Kd.bool (Kd.pair Kd.bool (Kd.pair (Kd.int .i64) Kd.bool))) (fun x : S53 => (x.f0, x.f1, x.f2, x.f3))
theorem k53_heap : Kd.Heap k53 := Kd.heap_iso _ (Kd.heap_pair Kd.heap_bool (Kd.heap_pair Kd.heap_bool (Kd.heap_pair (Kd.heap_int .i64) Kd.heap_bool)))
theorem k53_open {w : World} {x : S53} {cs : List Value} (h : k53.K w x cs) : cs = [.bool x.f0, .bool x.f1, .int .i64 x.f2, .bool x.f3] := by
 obtain ⟨_, _, rfl, rfl, ⟨_, _, rfl, rfl, ⟨_, _, rfl, rfl, rfl⟩⟩⟩ := h
 exact rfl
theorem k53_openM {w : World} {base : Nat} {ok : Nat → Prop} {x : S53} {cs : List Value} (h : k53.M w base ok x cs) : cs = [.bool x.f0, .bool x.f1, .int .i64 x.f2, .bool x.f3] := by
 obtain ⟨_, _, rfl, rfl, ⟨_, _, rfl, rfl, ⟨_, _, rfl, rfl, rfl⟩⟩⟩ := h
 exact rfl
theorem k53_mk (w : World) (x : S53)  : k53.K w x [.bool x.f0, .bool x.f1, .int .i64 x.f2, .bool x.f3] := ⟨[.bool x.f0], [.bool x.f1, .int .i64 x.f2, .bool x.f3], rfl, rfl, ⟨[.bool x.f1], [.int .i64 x.f2, .bool x.f3], rfl, rfl, ⟨[.int .i64 x.f2], [.bool x.f3], rfl, rfl, rfl⟩⟩⟩
theorem k53_mkM (w : World) (base : Nat) (ok : Nat → Prop) (x : S53)  : k53.M w base ok x [.bool x.f0, .bool x.f1, .int .i64 x.f2, .bool x.f3] := ⟨[.bool x.f0], [.bool x.f1, .int .i64 x.f2, .bool x.f3], rfl, rfl, ⟨[.bool x.f1], [.int .i64 x.f2, .bool x.f3], rfl, rfl, ⟨[.int .i64 x.f2], [.bool x.f3], rfl, rfl, rfl⟩⟩⟩
theorem k53_mkF (W : World) (ok : Nat → Prop) (x : S53) : Kd.FK k53 W ok x [.bool x.f0, .bool x.f1, .int .i64 x.f2, .bool x.f3] := fun W2 _ => k53_mk W2 x
def rd_T53 (xs : List S53) (i : Int) : S53 := xs.getD i.toNat z53
theorem at_T53 {w : World} {A : Option Addr} {n : Nat} {xs : List S53} (h : Kd.C k53 w A n xs) (i : Int) (h0 : 0 ≤ i) (h1 : i < n) : ∃ ad , A = some ad ∧ w.cell? (ad.add (i.toNat * 4)) = some (.bool (rd_T53 xs i).f0) ∧ w.cell? ⟨(ad.add (i.toNat * 4)).block, (ad.add (i.toNat * 4)).off + 1, none⟩ = some (.bool (rd_T53 xs i).f1) ∧ w.cell? ⟨(ad.add (i.toNat * 4)).block, (ad.add (i.toNat * 4)).off + 2, none⟩ = some (.int .i64 (rd_T53 xs i).f2) ∧ w.cell? ⟨(ad.add (i.toNat * 4)).block, (ad.add (i.toNat * 4)).off + 3, none⟩ = some (.bool (rd_T53 xs i).f3) := by
 obtain ⟨ad, c, e, _, hK, hc0⟩ := Kd.C_get h z53 i h0 h1
 have hc : ∀ j u, c[j]? = some u → w.cell? (ad.add (i.toNat * 4 + j)) = some u := hc0
 obtain rfl := k53_open hK
 exact ⟨ad, e, hc 0 _ rfl, by rw [← add_field _ _ 1 (by omega)]; exact hc 1 _ rfl, by rw [← add_field _ _ 2 (by omega)]; exact hc 2 _ rfl, by rw [← add_field _ _ 3 (by omega)]; exact hc 3 _ rfl⟩

/-! #### struct type 55 -/
structure S55 where
 f0 : Bool
 f1 : S53
 f2 : Int
def z55 : S55 := ⟨false, z53, (0 : Int)⟩
def k55 : Kd S55 := Kd.iso (Kd.pair Kd.bool (Kd.pair k53 (Kd.int .u8))) (fun x : S55 => (x.f0, x.f1, x.f2))
theorem k55_heap : Kd.Heap k55 := Kd.heap_iso _ (Kd.heap_pair Kd.heap_bool (Kd.heap_pair k53_heap (Kd.heap_int .u8)))
theorem k55_open {w : World} {x : S55} {cs : List Value} (h : k55.K w x cs) : cs = [.bool x.f0, .bool x.f1.f0, .bool x.f1.f1, .int .i64 x.f1.f2, .bool x.f1.f3, .int .u8 x.f2] := by
 obtain ⟨_, _, rfl, rfl, ⟨_, _, rfl, s1, rfl⟩⟩ := h
 obtain rfl := k53_open s1
 exact rfl
theorem k55_openM {w : World} {base : Nat} {ok : Nat → Prop} {x : S55} {cs : List Value} (h : k55.M w base ok x cs) : cs = [.bool x.f0, .bool x.f1.f0, .bool x.f1.f1, .int .i64 x.f1.f2, .bool x.f1.f3, .int .u8 x.f2] := by
 obtain ⟨_, _, rfl, rfl, ⟨_, _, rfl, s1, rfl⟩⟩ := h
 obtain rfl := k53_openM s1
 exact rfl
theorem k55_mk (w : World) (x : S55)  : k55.K w x [.bool x.f0, .bool x.f1.f0, .bool x.f1.f1, .int .i64 x.f1.f2, .bool x.f1.f3, .int .u8 x.f2] := ⟨[.bool x.f0], [.bool x.f1.f0, .bool x.f1.f1, .int .i64 x.f1.f2, .bool x.f1.f3, .int .u8 x.f2], rfl, rfl, ⟨[.bool x.f1.f0, .bool x.f1.f1, .int .i64 x.f1.f2, .bool x.f1.f3], [.int .u8 x.f2], rfl, (k53_mk w x.f1 ), rfl⟩⟩
theorem k55_mkM (w : World) (base : Nat) (ok : Nat → Prop) (x : S55)  : k55.M w base ok x [.bool x.f0, .bool x.f1.f0, .bool x.f1.f1, .int .i64 x.f1.f2, .bool x.f1.f3, .int .u8 x.f2] := ⟨[.bool x.f0], [.bool x.f1.f0, .bool x.f1.f1, .int .i64 x.f1.f2, .bool x.f1.f3, .int .u8 x.f2], rfl, rfl, ⟨[.bool x.f1.f0, .bool x.f1.f1, .int .i64 x.f1.f2, .bool x.f1.f3], [.int .u8 x.f2], rfl, (k53_mkM w base ok x.f1 ), rfl⟩⟩
theorem k55_mkF (W : World) (ok : Nat → Prop) (x : S55) : Kd.FK k55 W ok x [.bool x.f0, .bool x.f1.f0, .bool x.f1.f1, .int .i64 x.f1.f2, .bool x.f1.f3, .int .u8 x.f2] := fun W2 _ => k55_mk W2 x
def rd_T55 (xs : List S55) (i : Int) : S55 := xs.getD i.toNat z55
theorem at_T55 {w : World} {A : Option Addr} {n : Nat} {xs : List S55} (h : Kd.C k55 w A n xs) (i : Int) (h0 : 0 ≤ i) (h1 : i < n) : ∃ ad , A = some ad ∧ w.cell? (ad.add (i.toNat * 6)) = some (.bool (rd_T55 xs i).f0) ∧ w.cell? ⟨(ad.add (i.toNat * 6)).block, (ad.add (i.toNat * 6)).off + 1, none⟩ = some (.bool (rd_T55 xs i).f1.f0) ∧ w.cell? ⟨(ad.add (i.toNat * 6)).block, (ad.add (i.toNat * 6)).off + 2, none⟩ = some (.bool (rd_T55 xs i).f1.f1) ∧ w.cell? ⟨(ad.add (i.toNat * 6)).block, (ad.add (i.toNat * 6)).off + 3, none⟩ = some (.int .i64 (rd_T55 xs i).f1.f2) ∧ w.cell? ⟨(ad.add (i.toNat * 6)).block, (ad.add (i.toNat * 6)).off + 4, none⟩ = some (.bool (rd_T55 xs i).f1.f3) ∧ w.cell? ⟨(ad.add (i.toNat * 6)).block, (ad.add (i.toNat * 6)).off + 5, none⟩ = some (.int .u8 (rd_T55 xs i).f2) := by
 obtain ⟨ad, c, e, _, hK, hc0⟩ := Kd.C_get h z55 i h0 h1
 have hc : ∀ j u, c[j]? = some u → w.cell? (ad.add (i.toNat * 6 + j)) = some u := hc0
 obtain rfl := k55_open hK
 exact ⟨ad, e, hc 0 _ rfl, by rw [← add_field _ _ 1 (by omega)]; exact hc 1 _ rfl, by rw [← add_field _ _ 2 (by omega)]; exact hc 2 _ rfl, by rw [← add_field _ _ 3 (by omega)]; exact hc 3 _ rfl, by rw [← add_field _ _ 4 (by omega)]; exact hc 4 _ rfl, by rw [← add_field _ _ 5 (by omega)]; exact hc 5 _ rfl⟩

/-! #### struct type 206 -/
structure S206 where
 f0 : Int
 f1 : Int
def z206 : S206 := ⟨(0 : Int), (0 : Int)⟩
def k206 : Kd S206 := Kd.iso (Kd.pair (Kd.int .i64) kern) (fun x : S206 => (x.f0, x.f1))
theorem k206_heap : Kd.Heap k206 := Kd.heap_iso _ (Kd.heap_pair (Kd.heap_int .i64) kern_heap)
theorem k206_open {w : World} {x : S206} {cs : List Value} (h : k206.K w x cs) : cs = [.int .i64 x.f0, .iface ERNT (.int .i64 x.f1)] := by
 obtain ⟨_, _, rfl, rfl, rfl⟩ := h
 exact rfl
theorem k206_openM {w : World} {base : Nat} {ok : Nat → Prop} {x : S206} {cs : List Value} (h : k206.M w base ok x cs) : cs = [.int .i64 x.f0, .iface ERNT (.int .i64 x.f1)] := by
 obtain ⟨_, _, rfl, rfl, rfl⟩ := h
 exact rfl
theorem k206_mk (w : World) (x : S206)  : k206.K w x [.int .i64 x.f0, .iface ERNT (.int .i64 x.f1)] := ⟨[.int .i64 x.f0], [.iface ERNT (.int .i64 x.f1)], rfl, rfl, rfl⟩
theorem k206_mkM (w : World) (base : Nat) (ok : Nat → Prop) (x : S206)  : k206.M w base ok x [.int .i64 x.f0, .iface ERNT (.int .i64 x.f1)] := ⟨[.int .i64 x.f0], [.iface ERNT (.int .i64 x.f1)], rfl, rfl, rfl⟩
theorem k206_mkF (W : World) (ok : Nat → Prop) (x : S206) : Kd.FK k206 W ok x [.int .i64 x.f0, .iface ERNT (.int .i64 x.f1)] := fun W2 _ => k206_mk W2 x
def rd_T206 (xs : List S206) (i : Int) : S206 := xs.getD i.toNat z206
theorem at_T206 {w : World} {A : Option Addr} {n : Nat} {xs : List S206} (h : Kd.C k206 w A n xs) (i : Int) (h0 : 0 ≤ i) (h1 : i < n) : ∃ ad , A = some ad ∧ w.cell? (ad.add (i.toNat * 2)) = some (.int .i64 (rd_T206 xs i).f0) ∧ w.cell? ⟨(ad.add (i.toNat * 2)).block, (ad.add (i.toNat * 2)).off + 1, none⟩ = some (.iface ERNT (.int .i64 (rd_T206 xs i).f1)) := by
 obtain ⟨ad, c, e, _, hK, hc0⟩ := Kd.C_get h z206 i h0 h1
 have hc : ∀ j u, c[j]? = some u → w.cell? (ad.add (i.toNat * 2 + j)) = some u := hc0
 obtain rfl := k206_open hK
 exact ⟨ad, e, hc 0 _ rfl, by rw [← add_field _ _ 1 (by omega)]; exact hc 1 _ rfl⟩

/-! ### short words for what the print says at length -/
class PeelW (W1 : World) (W : outParam World) : Prop where
 bel : Below W.heap.size W W1
instance (W : World) (o : Obj) : PeelW (W.alloc o) W := ⟨below_alloc (Below.refl _ _) o⟩
instance (W : World) (n : Nat) : PeelW (W.drewN n) W := ⟨pw_below_drewN (Below.refl _ _) n⟩
instance (W : World) : PeelW W.drew W := ⟨below_drew (Below.refl _ _)⟩
theorem pK {W W1 : World} {g : Nat} {o : Obj} [p : PeelW W1 W] (h : W.heap[g]? = some o) : W1.heap[g]? = some o := blk_below h p.bel
theorem pL {w W W1 : World} [p : PeelW W1 W] (h : Below w.heap.size w W) : Below w.heap.size w W1 := below_step h p.bel
theorem pV {α : Type} {d : Kd α} {e base : Nat} {ok : Nat → Prop} {v : Value} {xs : List α} {W W1 : World} [p : PeelW W1 W] (h : Kd.V d e W base ok v xs) : Kd.V d e W1 base ok v xs := Kd.V_below h p.bel
theorem pR {α : Type} {d : Kd α} {e base : Nat} {ok : Nat → Prop} {v : Value} {xs : List α} {W W1 : World} [p : PeelW W1 W] (h : Kd.R d e W base ok v xs) : Kd.R d e W1 base ok v xs := Kd.R_below h p.bel
theorem pN {α : Type} {d : Kd α} {e base : Nat} {ok : Nat → Prop} {v : Value} {xs : List α} {W W1 : World} [p : PeelW W1 W] (h : Kd.N d e W base ok v xs) : Kd.N d e W1 base ok v xs := Kd.N_below h p.bel
theorem pS {α : Type} {d : Kd α} {e base : Nat} {ok : Nat → Prop} {v : Value} {xs : List α} {W W1 : World} [p : PeelW W1 W] (h : Kd.S d e W base ok v xs) : Kd.S d e W1 base ok v xs := Kd.S_below h p.bel
theorem pC {α : Type} {d : Kd α} {A : Option Addr} {n : Nat} {xs : List α} {W W1 : World} [p : PeelW W1 W] (h : Kd.C d W A n xs) : Kd.C d W1 A n xs := Kd.C_below h p.bel
/-- The world has only grown since the call's begin (from the facts at hand). -/
theorem bl_ {P : Prop} (h : P := by repeat (first | (with_reducible first | exact Aside0.out (by with_reducible assumption) | apply pL | refine below_set ?_ (Aside0.out (by assumption))) | exact Aside0.out (by assumption))) : P := h
theorem le_new {g n b : Nat} (h : g = n) (hb : b ≤ n) : b ≤ g := h ▸ hb
theorem argsR {A B : Prop} (h : A → B) (a : A) : B := h a
/-- Blocks other than one: unchanged by stores into that one. -/
theorem off_ {P : Prop} (h : P := by intro k hk; repeat (first | rfl | refine (Below.heap_setCell _ _ _ k hk).trans ?_)) : P := h
theorem R_off {α : Type} {d : Kd α} {e base : Nat} {ok : Nat → Prop} {v : Value} {xs : List α} {w w1 : World} {g t : Nat} {cells : Array Value} (h : Kd.R d e w base ok v xs) (hb : w.heap[g]? = some (.cells cells t (0, 0))) (ht : ∀ q, q ∈ e :: d.E → q ≠ t) (hm : ∀ k, k ≠ g → w1.heap[k]? = w.heap[k]?) : Kd.R d e w1 base ok v xs :=
 Kd.R_mono (Kd.R_step (Kd.R_types h hb ht) (fun k hk _ => hm k hk.2)) (fun _ hk => hk.1)
theorem blk_off {w w1 : World} {g g2 : Nat} {o : Obj} (h : w.heap[g2]? = some o) (ne : g2 ≠ g) (hm : ∀ k, k ≠ g → w1.heap[k]? = w.heap[k]?) : w1.heap[g2]? = some o := (hm g2 ne).trans h
theorem cells1 {W : World} {g : Nat} {t : TypeId} {a0 : Value} (h : W.heap[g]? = some (.cells #[a0] t (0, 0))) : W.cell? ⟨g, 0, none⟩ = some a0 ∧ W.frozen? ⟨g, 0, none⟩ = false := ⟨(blk_cell h 0).trans rfl, blk_frozen h 0⟩
theorem cells2 {W : World} {g : Nat} {t : TypeId} {a0 a1 : Value} (h : W.heap[g]? = some (.cells #[a0, a1] t (0, 0))) : W.cell? ⟨g, 0, none⟩ = some a0 ∧ W.cell? ⟨g, 1, none⟩ = some a1 ∧ W.frozen? ⟨g, 0, none⟩ = false ∧ W.frozen? ⟨g, 1, none⟩ = false := ⟨(blk_cell h 0).trans rfl, (blk_cell h 1).trans rfl, blk_frozen h 0, blk_frozen h 1⟩
theorem cells3 {W : World} {g : Nat} {t : TypeId} {a0 a1 a2 : Value} (h : W.heap[g]? = some (.cells #[a0, a1, a2] t (0, 0))) : W.cell? ⟨g, 0, none⟩ = some a0 ∧ W.cell? ⟨g, 1, none⟩ = some a1 ∧ W.cell? ⟨g, 2, none⟩ = some a2 ∧ W.frozen? ⟨g, 0, none⟩ = false ∧ W.frozen? ⟨g, 1, none⟩ = false ∧ W.frozen? ⟨g, 2, none⟩ = false := ⟨(blk_cell h 0).trans rfl, (blk_cell h 1).trans rfl, (blk_cell h 2).trans rfl, blk_frozen h 0, blk_frozen h 1, blk_frozen h 2⟩
theorem cells4 {W : World} {g : Nat} {t : TypeId} {a0 a1 a2 a3 : Value} (h : W.heap[g]? = some (.cells #[a0, a1, a2, a3] t (0, 0))) : W.cell? ⟨g, 0, none⟩ = some a0 ∧ W.cell? ⟨g, 1, none⟩ = some a1 ∧ W.cell? ⟨g, 2, none⟩ = some a2 ∧ W.cell? ⟨g, 3, none⟩ = some a3 ∧ W.frozen? ⟨g, 0, none⟩ = false ∧ W.frozen? ⟨g, 1, none⟩ = false ∧ W.frozen? ⟨g, 2, none⟩ = false ∧ W.frozen? ⟨g, 3, none⟩ = false := ⟨(blk_cell h 0).trans rfl, (blk_cell h 1).trans rfl, (blk_cell h 2).trans rfl, (blk_cell h 3).trans rfl, blk_frozen h 0, blk_frozen h 1, blk_frozen h 2, blk_frozen h 3⟩
theorem cells5 {W : World} {g : Nat} {t : TypeId} {a0 a1 a2 a3 a4 : Value} (h : W.heap[g]? = some (.cells #[a0, a1, a2, a3, a4] t (0, 0))) : W.cell? ⟨g, 0, none⟩ = some a0 ∧ W.cell? ⟨g, 1, none⟩ = some a1 ∧ W.cell? ⟨g, 2, none⟩ = some a2 ∧ W.cell? ⟨g, 3, none⟩ = some a3 ∧ W.cell? ⟨g, 4, none⟩ = some a4 ∧ W.frozen? ⟨g, 0, none⟩ = false ∧ W.frozen? ⟨g, 1, none⟩ = false ∧ W.frozen? ⟨g, 2, none⟩ = false ∧ W.frozen? ⟨g, 3, none⟩ = false ∧ W.frozen? ⟨g, 4, none⟩ = false := ⟨(blk_cell h 0).trans rfl, (blk_cell h 1).trans rfl, (blk_cell h 2).trans rfl, (blk_cell h 3).trans rfl, (blk_cell h 4).trans rfl, blk_frozen h 0, blk_frozen h 1, blk_frozen h 2, blk_frozen h 3, blk_frozen h 4⟩
theorem cells6 {W : World} {g : Nat} {t : TypeId} {a0 a1 a2 a3 a4 a5 : Value} (h : W.heap[g]? = some (.cells #[a0, a1, a2, a3, a4, a5] t (0, 0))) : W.cell? ⟨g, 0, none⟩ = some a0 ∧ W.cell? ⟨g, 1, none⟩ = some a1 ∧ W.cell? ⟨g, 2, none⟩ = some a2 ∧ W.cell? ⟨g, 3, none⟩ = some a3 ∧ W.cell? ⟨g, 4, none⟩ = some a4 ∧ W.cell? ⟨g, 5, none⟩ = some a5 ∧ W.frozen? ⟨g, 0, none⟩ = false ∧ W.frozen? ⟨g, 1, none⟩ = false ∧ W.frozen? ⟨g, 2, none⟩ = false ∧ W.frozen? ⟨g, 3, none⟩ = false ∧ W.frozen? ⟨g, 4, none⟩ = false ∧ W.frozen? ⟨g, 5, none⟩ = false := ⟨(blk_cell h 0).trans rfl, (blk_cell h 1).trans rfl, (blk_cell h 2).trans rfl, (blk_cell h 3).trans rfl, (blk_cell h 4).trans rfl, (blk_cell h 5).trans rfl, blk_frozen h 0, blk_frozen h 1, blk_frozen h 2, blk_frozen h 3, blk_frozen h 4, blk_frozen h 5⟩
theorem cells7 {W : World} {g : Nat} {t : TypeId} {a0 a1 a2 a3 a4 a5 a6 : Value} (h : W.heap[g]? = some (.cells #[a0, a1, a2, a3, a4, a5, a6] t (0, 0))) : W.cell? ⟨g, 0, none⟩ = some a0 ∧ W.cell? ⟨g, 1, none⟩ = some a1 ∧ W.cell? ⟨g, 2, none⟩ = some a2 ∧ W.cell? ⟨g, 3, none⟩ = some a3 ∧ W.cell? ⟨g, 4, none⟩ = some a4 ∧ W.cell? ⟨g, 5, none⟩ = some a5 ∧ W.cell? ⟨g, 6, none⟩ = some a6 ∧ W.frozen? ⟨g, 0, none⟩ = false ∧ W.frozen? ⟨g, 1, none⟩ = false ∧ W.frozen? ⟨g, 2, none⟩ = false ∧ W.frozen? ⟨g, 3, none⟩ = false ∧ W.frozen? ⟨g, 4, none⟩ = false ∧ W.frozen? ⟨g, 5, none⟩ = false ∧ W.frozen? ⟨g, 6, none⟩ = false := ⟨(blk_cell h 0).trans rfl, (blk_cell h 1).trans rfl, (blk_cell h 2).trans rfl, (blk_cell h 3).trans rfl, (blk_cell h 4).trans rfl, (blk_cell h 5).trans rfl, (blk_cell h 6).trans rfl, blk_frozen h 0, blk_frozen h 1, blk_frozen h 2, blk_frozen h 3, blk_frozen h 4, blk_frozen h 5, blk_frozen h 6⟩
theorem cells8 {W : World} {g : Nat} {t : TypeId} {a0 a1 a2 a3 a4 a5 a6 a7 : Value} (h : W.heap[g]? = some (.cells #[a0, a1, a2, a3, a4, a5, a6, a7] t (0, 0))) : W.cell? ⟨g, 0, none⟩ = some a0 ∧ W.cell? ⟨g, 1, none⟩ = some a1 ∧ W.cell? ⟨g, 2, none⟩ = some a2 ∧ W.cell? ⟨g, 3, none⟩ = some a3 ∧ W.cell? ⟨g, 4, none⟩ = some a4 ∧ W.cell? ⟨g, 5, none⟩ = some a5 ∧ W.cell? ⟨g, 6, none⟩ = some a6 ∧ W.cell? ⟨g, 7, none⟩ = some a7 ∧ W.frozen? ⟨g, 0, none⟩ = false ∧ W.frozen? ⟨g, 1, none⟩ = false ∧ W.frozen? ⟨g, 2, none⟩ = false ∧ W.frozen? ⟨g, 3, none⟩ = false ∧ W.frozen? ⟨g, 4, none⟩ = false ∧ W.frozen? ⟨g, 5, none⟩ = false ∧ W.frozen? ⟨g, 6, none⟩ = false ∧ W.frozen? ⟨g, 7, none⟩ = false := ⟨(blk_cell h 0).trans rfl, (blk_cell h 1).trans rfl, (blk_cell h 2).trans rfl, (blk_cell h 3).trans rfl, (blk_cell h 4).trans rfl, (blk_cell h 5).trans rfl, (blk_cell h 6).trans rfl, (blk_cell h 7).trans rfl, blk_frozen h 0, blk_frozen h 1, blk_frozen h 2, blk_frozen h 3, blk_frozen h 4, blk_frozen h 5, blk_frozen h 6, blk_frozen h 7⟩
/-- A call's arguments, as the slots hold them. -/
theorem ag_ {P : Prop} (h : P := by (try simp only [List.map_toArray, List.map_cons, List.map_nil]); first | done | rfl | (simp only [List.length_drop, List.length_take]; rfl)) : P := h

/-! ### words that squeeze.py says the texts in -/
theorem Z {p : Prop} (h : p) : Aside0 p := ⟨h⟩
theorem set_far_ {w w0 : World} {g i k : Nat} {u : Value} (hk : k ≠ g) (h : w.heap[k]? = w0.heap[k]?) : (w.setCell ⟨g, i, none⟩ u).heap[k]? = w0.heap[k]? := (Below.heap_setCell _ _ _ k hk).trans h
theorem off2_ {P : Prop} (h : P := by intro k hk; (with_reducible repeat refine set_far_ hk ?_); with_reducible rfl) : P := h
theorem V_off {α : Type} {d : Kd α} {e base : Nat} {ok ok' : Nat → Prop} {v : Value} {xs : List α} {w w1 : World} {g : Nat} (h : Kd.V d e w base ok v xs) (hne : ∀ k, ok k → k ≠ g) (hm : ∀ k, k ≠ g → w1.heap[k]? = w.heap[k]?) (ho : ∀ k, ok k → ok' k) : Kd.V d e w1 base ok' v xs := Kd.V_mono (Kd.V_step h (fun k hk _ => hm k (hne k hk))) ho
theorem put6 {w : World} {g : Nat} {t : TypeId} {a0 a1 a2 a3 a4 a5 b0 b1 b2 b3 b4 b5 : Value} (h : w.heap[g]? = some (.cells #[b0, b1, b2, b3, b4, b5] t (0, 0))) : ((((((w.setCell ⟨g, 0, none⟩ a0).setCell ⟨g, 1, none⟩ a1).setCell ⟨g, 2, none⟩ a2).setCell ⟨g, 3, none⟩ a3).setCell ⟨g, 4, none⟩ a4).setCell ⟨g, 5, none⟩ a5).heap[g]? = some (.cells #[a0, a1, a2, a3, a4, a5] t (0, 0)) := by
 refine blk_put (cs := #[a0, a1, a2, a3, a4, b5]) ?_ 5 _ rfl
 refine blk_put (cs := #[a0, a1, a2, a3, b4, b5]) ?_ 4 _ rfl
 refine blk_put (cs := #[a0, a1, a2, b3, b4, b5]) ?_ 3 _ rfl
 refine blk_put (cs := #[a0, a1, b2, b3, b4, b5]) ?_ 2 _ rfl
 refine blk_put (cs := #[a0, b1, b2, b3, b4, b5]) ?_ 1 _ rfl
 exact blk_put (cs := #[b0, b1, b2, b3, b4, b5]) h 0 _ rfl
class Peels (W1 W : World) : Prop where
 bel : Below W.heap.size W W1
instance (W : World) : Peels W W := ⟨Below.refl _ _⟩
instance {W1 W : World} [p : Peels W1 W] (o : Obj) : Peels (W1.alloc o) W := ⟨below_alloc p.bel o⟩
instance {W1 W : World} [p : Peels W1 W] (n : Nat) : Peels (W1.drewN n) W := ⟨pw_below_drewN p.bel n⟩
instance {W1 W : World} [p : Peels W1 W] : Peels W1.drew W := ⟨below_drew p.bel⟩
theorem rb {α : Type} {d : Kd α} {e base : Nat} {ok : Nat → Prop} {v : Value} {xs : List α} {W W1 W2 : World} [p : Peels W1 W] (h : Kd.R d e W base ok v xs) (hb : Below W1.heap.size W1 W2) : Kd.R d e W2 base ok v xs := Kd.R_below (Kd.R_below h p.bel) hb
theorem vb {α : Type} {d : Kd α} {e base : Nat} {ok : Nat → Prop} {v : Value} {xs : List α} {W W1 W2 : World} [p : Peels W1 W] (h : Kd.V d e W base ok v xs) (hb : Below W1.heap.size W1 W2) : Kd.V d e W2 base ok v xs := Kd.V_below (Kd.V_below h p.bel) hb
theorem ve {α : Type} {d : Kd α} {e base g : Nat} {ok : Nat → Prop} {v : Value} {xs : List α} {W W1 W2 : World} [p : Peels W1 W] (h : Kd.V d e W base ok v xs) (hg : g = W1.heap.size) (hb : Below W1.heap.size W1 W2) : Kd.V d e W2 base (fun k => ok k ∧ k ≠ g) v xs := Kd.V_below (Kd.V_elderB (Kd.V_below h p.bel) g (Nat.le_of_eq hg.symm)) hb
theorem kb {W W1 W2 : World} {g : Nat} {o : Obj} [p : Peels W1 W] (h : W.heap[g]? = some o) (hb : Below W1.heap.size W1 W2) : W2.heap[g]? = some o := blk_below (blk_below h p.bel) hb
theorem nl {W W1 : World} {g g2 : Nat} {o : Obj} [p : Peels W1 W] (h : W.heap[g]? = some o) (hg : g2 = W1.heap.size) : g ≠ g2 := by rw [hg]; exact Nat.ne_of_lt (blk_lt (blk_below h p.bel))
theorem ng {W W1 : World} {g g2 : Nat} {o : Obj} [p : Peels W1 W] (h : W.heap[g]? = some o) (hg : g2 = W1.heap.size) : g2 ≠ g := (nl h hg).symm
theorem fb {W W1 : World} {g : Nat} {o : Obj} [p : Peels W1 W] (h : W.heap[g]? = some o) : ∀ k, W1.heap.size ≤ k → k ≠ g := Kd.freshB (blk_below h p.bel)
/-- Which operations are done: the bits of a number. -/
def bv (n m : Nat) : Array Bool := ((List.range n).map (fun i => m.testBit i)).toArray
theorem sA {α : Type _} (l : List α) (i : Nat) (x : α) : l.toArray.setIfInBounds i x = (l.set i x).toArray := List.setIfInBounds_toArray l i x
theorem sB {α : Type _} (b a : α) (l : List α) : (b :: l).set 0 a = a :: l := List.set_cons_zero
theorem sC {α : Type _} (b : α) (l : List α) (n : Nat) (a : α) : (b :: l).set (n + 1) a = b :: l.set n a := List.set_cons_succ
theorem bk_ (w : World) (a : Addr) {v : Value} (h : w.cell? a = some v) : a.block < w.heap.size := World.block_lt_of_cell? w a h
theorem od_ {p : Prop} [Decidable p] (h : decide p = true := by first | (with_reducible assumption) | assumption) : p := of_decide_eq_true h

end Go.Proofs.YtjpedimndkibnaaGreatDoor.P
