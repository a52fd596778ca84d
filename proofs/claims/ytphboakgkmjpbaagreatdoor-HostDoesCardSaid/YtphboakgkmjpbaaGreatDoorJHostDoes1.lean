/- Printed walks of the law's functions, joined by joinpx.py: each function as a plain Lean function, and that Go's code comes to its answer. -/
import Derived.Test.YtphboakgkmjpbaaGreatDoorProg
import Derived.Below
import Derived.Deep.Draws
import Derived.Deep.AppendLies
import Derived.Maps.AppendAt
import Derived.OwnWalk
import Derived.Laws.BytesArg
import Derived.Laws.MakeOwn
import Derived.Laws.OwnMore
import Derived.Deep.OwnRows
import Derived.Tactics
import Derived.Lib.ConvBytes
import Derived.Laws.Slices
import Derived.WalkKit
import Derived.KernelRfl
import Derived.RowKit3
import Derived.Deep.LoopGhost
import Derived.Deep.QuietTactic
import Derived.BigQuiet
import Derived.WideLaws
import Derived.Deep.DeepCutAuto
import Derived.Deep.CutBlock
import Derived.Deep.RegionHeld3
import Derived.Laws.Rows
import Derived.Lib.AppendStr
import Derived.ArgAppend
import Derived.Laws.IdiomCopy
import Derived.OrdersHeld
import Derived.Laws.BitsLemmas
import Derived.RowKit
import Derived.RangeFuncNested
import Derived.RangeFuncBound
import Derived.RangeFuncCalls
import Derived.RangeFuncLeaves
import Derived.RangeFuncBox
import Derived.Shelf.Abstract
import Derived.Shelf.RegionOpen
import Derived.OwnWalkIn
import Derived.TacticsInMore
import Derived.LoopNIn
import Derived.LoopIn
import Derived.Deep.RegionWith
import Derived.LaidEql
import Derived.Stop.Asserts
import Derived.RowKitTokens
import Derived.Lib.SliceRun
import Derived.Test.YtphboakgkmjpbaaGreatDoorUWords
import Derived.Test.YtphboakgkmjpbaaGreatDoorULast
import Derived.Test.YtphboakgkmjpbaaGreatDoorUTab
import Derived.Test.YtphboakgkmjpbaaGreatDoorUFour
import Derived.Test.YtphboakgkmjpbaaGreatDoorUQPut
import Derived.Test.YtphboakgkmjpbaaGreatDoorUApart
import Derived.Test.YtphboakgkmjpbaaGreatDoorUArr
import Derived.Test.YtphboakgkmjpbaaGreatDoorUZeros
import Derived.Test.YtphboakgkmjpbaaGreatDoorUFoot
import Derived.Test.YtphboakgkmjpbaaGreatDoorUKept
import Derived.Test.YtphboakgkmjpbaaGreatDoorUShare
import Derived.Test.YtphboakgkmjpbaaGreatDoorUN
import Derived.Test.YtphboakgkmjpbaaGreatDoorUFootNe
import Derived.Test.YtphboakgkmjpbaaGreatDoorUAt
import Derived.Test.YtphboakgkmjpbaaGreatDoorUEqStruct
import Derived.Test.YtphboakgkmjpbaaGreatDoorURepsOne
import Derived.Test.YtphboakgkmjpbaaGreatDoorUInv
import Derived.Test.YtphboakgkmjpbaaGreatDoorUInvWords
import Derived.Test.YtphboakgkmjpbaaGreatDoorUGuard
import Derived.Test.YtphboakgkmjpbaaGreatDoorUNEv
import Derived.Test.YtphboakgkmjpbaaGreatDoorUMore
namespace Go.Proofs.YtphboakgkmjpbaaGreatDoor.P
open Go.RowKit Go.Proofs.YtphboakgkmjpbaaGreatDoorW.PrintWords Go.Proofs.YtphboakgkmjpbaaGreatDoorW.PrintLast Go.Proofs.YtphboakgkmjpbaaGreatDoorW.PrintMore
attribute [local go_sem] max2_int min2_int max_two min_two max_three min_three max_four min_four   -- for this text's walks alone
attribute [local go_sem] Instr.field asAgg
set_option linter.unusedVariables false
set_option linter.unusedSimpArgs false
inductive Er where
 | num : Int → Er
 | spot : Er
def ez : Er := .num 0
abbrev ERNT : TypeId := 61
def Er.ty : Er → TypeId
 | .num _ => 61
 | .spot => 64
def adrOf : Value → Option Addr
 | .slice a _ _ => a
 | _ => none
def Er.pay (v : Value) : Er → Value
 | .num n => .int .i64 n
 | .spot => .pointer (adrOf v)
def errW (v : Value) : Option Er → Value
 | none => .nilIface
 | some c => .iface c.ty (c.pay v)
theorem errW_none {v : Value} : errW v none = .nilIface := rfl
theorem errW_some {v : Value} {c : Er} : errW v (some c) = .iface c.ty (c.pay v) := rfl
def kern : Kd Int := Kd.scalar (fun x : Int => .iface ERNT (.int .i64 x)) (fun _ => rfl)
theorem info3 : (Tryz.prog.info? 3).map (fun i => (i.zero, i.size, i.bytes)) = some (some (.int .i64 0), 1, 8) := by kernel_rfl
theorem info5 : (Tryz.prog.info? 5).map (fun i => (i.zero, i.size, i.bytes)) = some (some (.int .u8 0), 1, 1) := by kernel_rfl
theorem info47 : (Tryz.prog.info? 47).map (fun i => (i.zero, i.size, i.bytes)) = some (some (.agg #[(.bool false), (.bool false), (.bool false), (.int .i64 0), (.bool false), (.int .u8 0)]), 6, 40) := by kernel_rfl
structure S45 where
 f0 : Bool
 f1 : Bool
 f2 : Int
 f3 : Bool
def z45 : S45 := ⟨false, false, (0 : Int), false⟩
def k45 : Kd S45 := Kd.iso (Kd.pair Kd.bool (Kd.pair Kd.bool (Kd.pair (Kd.int .i64) Kd.bool))) (fun x : S45 => (x.f0, x.f1, x.f2, x.f3))
theorem k45_heap : Kd.Heap k45 := Kd.heap_iso _ (Kd.heap_pair Kd.heap_bool (Kd.heap_pair Kd.heap_bool (Kd.heap_pair (Kd.heap_int .i64) Kd.heap_bool)))
theorem k45_open {w : World} {x : S45} {cs : List Value} (h : k45.K w x cs) : cs = [.bool x.f0, .bool x.f1, .int .i64 x.f2, .bool x.f3] := by
 obtain ⟨_, _, rfl, rfl, ⟨_, _, rfl, rfl, ⟨_, _, rfl, rfl, rfl⟩⟩⟩ := h
 exact rfl
theorem k45_openM {w : World} {base : Nat} {ok : Nat → Prop} {x : S45} {cs : List Value} (h : k45.M w base ok x cs) : cs = [.bool x.f0, .bool x.f1, .int .i64 x.f2, .bool x.f3] := by
 obtain ⟨_, _, rfl, rfl, ⟨_, _, rfl, rfl, ⟨_, _, rfl, rfl, rfl⟩⟩⟩ := h
 exact rfl
theorem k45_mk (w : World) (x : S45)  : k45.K w x [.bool x.f0, .bool x.f1, .int .i64 x.f2, .bool x.f3] := ⟨[.bool x.f0], [.bool x.f1, .int .i64 x.f2, .bool x.f3], rfl, rfl, ⟨[.bool x.f1], [.int .i64 x.f2, .bool x.f3], rfl, rfl, ⟨[.int .i64 x.f2], [.bool x.f3], rfl, rfl, rfl⟩⟩⟩
theorem k45_mkM (w : World) (base : Nat) (ok : Nat → Prop) (x : S45)  : k45.M w base ok x [.bool x.f0, .bool x.f1, .int .i64 x.f2, .bool x.f3] := ⟨[.bool x.f0], [.bool x.f1, .int .i64 x.f2, .bool x.f3], rfl, rfl, ⟨[.bool x.f1], [.int .i64 x.f2, .bool x.f3], rfl, rfl, ⟨[.int .i64 x.f2], [.bool x.f3], rfl, rfl, rfl⟩⟩⟩
structure S47 where
 f0 : Bool
 f1 : S45
 f2 : Int
def z47 : S47 := ⟨false, z45, (0 : Int)⟩
def k47 : Kd S47 := Kd.iso (Kd.pair Kd.bool (Kd.pair k45 (Kd.int .u8))) (fun x : S47 => (x.f0, x.f1, x.f2))
theorem k47_heap : Kd.Heap k47 := Kd.heap_iso _ (Kd.heap_pair Kd.heap_bool (Kd.heap_pair k45_heap (Kd.heap_int .u8)))
theorem k47_open {w : World} {x : S47} {cs : List Value} (h : k47.K w x cs) : cs = [.bool x.f0, .bool x.f1.f0, .bool x.f1.f1, .int .i64 x.f1.f2, .bool x.f1.f3, .int .u8 x.f2] := by
 obtain ⟨_, _, rfl, rfl, ⟨_, _, rfl, s1, rfl⟩⟩ := h
 obtain rfl := k45_open s1
 exact rfl
theorem k47_openM {w : World} {base : Nat} {ok : Nat → Prop} {x : S47} {cs : List Value} (h : k47.M w base ok x cs) : cs = [.bool x.f0, .bool x.f1.f0, .bool x.f1.f1, .int .i64 x.f1.f2, .bool x.f1.f3, .int .u8 x.f2] := by
 obtain ⟨_, _, rfl, rfl, ⟨_, _, rfl, s1, rfl⟩⟩ := h
 obtain rfl := k45_openM s1
 exact rfl
theorem k47_mk (w : World) (x : S47)  : k47.K w x [.bool x.f0, .bool x.f1.f0, .bool x.f1.f1, .int .i64 x.f1.f2, .bool x.f1.f3, .int .u8 x.f2] := ⟨[.bool x.f0], [.bool x.f1.f0, .bool x.f1.f1, .int .i64 x.f1.f2, .bool x.f1.f3, .int .u8 x.f2], rfl, rfl, ⟨[.bool x.f1.f0, .bool x.f1.f1, .int .i64 x.f1.f2, .bool x.f1.f3], [.int .u8 x.f2], rfl, (k45_mk w x.f1 ), rfl⟩⟩
theorem k47_mkM (w : World) (base : Nat) (ok : Nat → Prop) (x : S47)  : k47.M w base ok x [.bool x.f0, .bool x.f1.f0, .bool x.f1.f1, .int .i64 x.f1.f2, .bool x.f1.f3, .int .u8 x.f2] := ⟨[.bool x.f0], [.bool x.f1.f0, .bool x.f1.f1, .int .i64 x.f1.f2, .bool x.f1.f3, .int .u8 x.f2], rfl, rfl, ⟨[.bool x.f1.f0, .bool x.f1.f1, .int .i64 x.f1.f2, .bool x.f1.f3], [.int .u8 x.f2], rfl, (k45_mkM w base ok x.f1 ), rfl⟩⟩
def rd_T47 (xs : List S47) (i : Int) : S47 := xs.getD i.toNat z47
theorem at_T47 {w : World} {A : Option Addr} {n : Nat} {xs : List S47} (h : Kd.C k47 w A n xs) (i : Int) (h0 : 0 ≤ i) (h1 : i < n) : ∃ ad , A = some ad ∧ w.cell? (ad.add (i.toNat * 6)) = some (.bool (rd_T47 xs i).f0) ∧ w.cell? ⟨(ad.add (i.toNat * 6)).block, (ad.add (i.toNat * 6)).off + 1, none⟩ = some (.bool (rd_T47 xs i).f1.f0) ∧ w.cell? ⟨(ad.add (i.toNat * 6)).block, (ad.add (i.toNat * 6)).off + 2, none⟩ = some (.bool (rd_T47 xs i).f1.f1) ∧ w.cell? ⟨(ad.add (i.toNat * 6)).block, (ad.add (i.toNat * 6)).off + 3, none⟩ = some (.int .i64 (rd_T47 xs i).f1.f2) ∧ w.cell? ⟨(ad.add (i.toNat * 6)).block, (ad.add (i.toNat * 6)).off + 4, none⟩ = some (.bool (rd_T47 xs i).f1.f3) ∧ w.cell? ⟨(ad.add (i.toNat * 6)).block, (ad.add (i.toNat * 6)).off + 5, none⟩ = some (.int .u8 (rd_T47 xs i).f2) := by
 obtain ⟨ad, c, e, _, hK, hc0⟩ := Kd.C_get h z47 i h0 h1
 have hc : ∀ j u, c[j]? = some u → w.cell? (ad.add (i.toNat * 6 + j)) = some u := hc0
 obtain rfl := k47_open hK
 exact ⟨ad, e, hc 0 _ rfl, by rw [← add_field _ _ 1 (by omega)]; exact hc 1 _ rfl, by rw [← add_field _ _ 2 (by omega)]; exact hc 2 _ rfl, by rw [← add_field _ _ 3 (by omega)]; exact hc 3 _ rfl, by rw [← add_field _ _ 4 (by omega)]; exact hc 4 _ rfl, by rw [← add_field _ _ 5 (by omega)]; exact hc 5 _ rfl⟩
structure S177 where
 f0 : Int
 f1 : Int
def z177 : S177 := ⟨(0 : Int), (0 : Int)⟩
def k177 : Kd S177 := Kd.iso (Kd.pair (Kd.int .i64) kern) (fun x : S177 => (x.f0, x.f1))
theorem k177_open {w : World} {x : S177} {cs : List Value} (h : k177.K w x cs) : cs = [.int .i64 x.f0, .iface ERNT (.int .i64 x.f1)] := by
 obtain ⟨_, _, rfl, rfl, rfl⟩ := h
 exact rfl
theorem k177_mk (w : World) (x : S177)  : k177.K w x [.int .i64 x.f0, .iface ERNT (.int .i64 x.f1)] := ⟨[.int .i64 x.f0], [.iface ERNT (.int .i64 x.f1)], rfl, rfl, rfl⟩
def rd_T177 (xs : List S177) (i : Int) : S177 := xs.getD i.toNat z177
theorem at_T177 {w : World} {A : Option Addr} {n : Nat} {xs : List S177} (h : Kd.C k177 w A n xs) (i : Int) (h0 : 0 ≤ i) (h1 : i < n) : ∃ ad , A = some ad ∧ w.cell? (ad.add (i.toNat * 2)) = some (.int .i64 (rd_T177 xs i).f0) ∧ w.cell? ⟨(ad.add (i.toNat * 2)).block, (ad.add (i.toNat * 2)).off + 1, none⟩ = some (.iface ERNT (.int .i64 (rd_T177 xs i).f1)) := by
 obtain ⟨ad, c, e, _, hK, hc0⟩ := Kd.C_get h z177 i h0 h1
 have hc : ∀ j u, c[j]? = some u → w.cell? (ad.add (i.toNat * 2 + j)) = some u := hc0
 obtain rfl := k177_open hK
 exact ⟨ad, e, hc 0 _ rfl, by rw [← add_field _ _ 1 (by omega)]; exact hc 1 _ rfl⟩
structure S106 where
 f0 : Bool
 f1 : Int
def z106 : S106 := ⟨false, (0 : Int)⟩
def k106 : Kd S106 := Kd.iso (Kd.pair Kd.bool (Kd.int .i64)) (fun x : S106 => (x.f0, x.f1))
theorem k106_open {w : World} {x : S106} {cs : List Value} (h : k106.K w x cs) : cs = [.bool x.f0, .int .i64 x.f1] := by
 obtain ⟨_, _, rfl, rfl, rfl⟩ := h
 exact rfl
theorem k106_mkM (w : World) (base : Nat) (ok : Nat → Prop) (x : S106)  : k106.M w base ok x [.bool x.f0, .int .i64 x.f1] := ⟨[.bool x.f0], [.int .i64 x.f1], rfl, rfl, rfl⟩
def rd_T106 (xs : List S106) (i : Int) : S106 := xs.getD i.toNat z106
theorem at_T106 {w : World} {A : Option Addr} {n : Nat} {xs : List S106} (h : Kd.C k106 w A n xs) (i : Int) (h0 : 0 ≤ i) (h1 : i < n) : ∃ ad , A = some ad ∧ w.cell? (ad.add (i.toNat * 2)) = some (.bool (rd_T106 xs i).f0) ∧ w.cell? ⟨(ad.add (i.toNat * 2)).block, (ad.add (i.toNat * 2)).off + 1, none⟩ = some (.int .i64 (rd_T106 xs i).f1) := by
 obtain ⟨ad, c, e, _, hK, hc0⟩ := Kd.C_get h z106 i h0 h1
 have hc : ∀ j u, c[j]? = some u → w.cell? (ad.add (i.toNat * 2 + j)) = some u := hc0
 obtain rfl := k106_open hK
 exact ⟨ad, e, hc 0 _ rfl, by rw [← add_field _ _ 1 (by omega)]; exact hc 1 _ rfl⟩
class PeelW (W1 : World) (W : outParam World) : Prop where
 bel : Below W.heap.size W W1
instance (W : World) (o : Obj) : PeelW (W.alloc o) W := ⟨below_alloc (Below.refl _ _) o⟩
instance (W : World) (n : Nat) : PeelW (W.drewN n) W := ⟨pw_below_drewN (Below.refl _ _) n⟩
instance (W : World) : PeelW W.drew W := ⟨below_drew (Below.refl _ _)⟩
theorem pK {W W1 : World} {g : Nat} {o : Obj} [p : PeelW W1 W] (h : W.heap[g]? = some o) : W1.heap[g]? = some o := blk_below h p.bel
theorem pL {w W W1 : World} [p : PeelW W1 W] (h : Below w.heap.size w W) : Below w.heap.size w W1 := below_step h p.bel
theorem pV {α : Type} {d : Kd α} {e base : Nat} {ok : Nat → Prop} {v : Value} {xs : List α} {W W1 : World} [p : PeelW W1 W] (h : Kd.V d e W base ok v xs) : Kd.V d e W1 base ok v xs := Kd.V_below h p.bel
theorem pR {α : Type} {d : Kd α} {e base : Nat} {ok : Nat → Prop} {v : Value} {xs : List α} {W W1 : World} [p : PeelW W1 W] (h : Kd.R d e W base ok v xs) : Kd.R d e W1 base ok v xs := Kd.R_below h p.bel
theorem pC {α : Type} {d : Kd α} {A : Option Addr} {n : Nat} {xs : List α} {W W1 : World} [p : PeelW W1 W] (h : Kd.C d W A n xs) : Kd.C d W1 A n xs := Kd.C_below h p.bel
theorem bl_ {P : Prop} (h : P := by repeat (first | (with_reducible first | exact Aside0.out (by with_reducible assumption) | apply pL | refine below_set ?_ (Aside0.out (by assumption))) | exact Aside0.out (by assumption))) : P := h
theorem le_new {g n b : Nat} (h : g = n) (hb : b ≤ n) : b ≤ g := h ▸ hb
theorem R_off {α : Type} {d : Kd α} {e base : Nat} {ok : Nat → Prop} {v : Value} {xs : List α} {w w1 : World} {g t : Nat} {cells : Array Value} (h : Kd.R d e w base ok v xs) (hb : w.heap[g]? = some (.cells cells t (0, 0))) (ht : ∀ q, q ∈ e :: d.E → q ≠ t) (hm : ∀ k, k ≠ g → w1.heap[k]? = w.heap[k]?) : Kd.R d e w1 base ok v xs :=
 Kd.R_mono (Kd.R_step (Kd.R_types h hb ht) (fun k hk _ => hm k hk.2)) (fun _ hk => hk.1)
theorem blk_off {w w1 : World} {g g2 : Nat} {o : Obj} (h : w.heap[g2]? = some o) (ne : g2 ≠ g) (hm : ∀ k, k ≠ g → w1.heap[k]? = w.heap[k]?) : w1.heap[g2]? = some o := (hm g2 ne).trans h
theorem cells2 {W : World} {g : Nat} {t : TypeId} {a0 a1 : Value} (h : W.heap[g]? = some (.cells #[a0, a1] t (0, 0))) : W.cell? ⟨g, 0, none⟩ = some a0 ∧ W.cell? ⟨g, 1, none⟩ = some a1 ∧ W.frozen? ⟨g, 0, none⟩ = false ∧ W.frozen? ⟨g, 1, none⟩ = false := ⟨(blk_cell h 0).trans rfl, (blk_cell h 1).trans rfl, blk_frozen h 0, blk_frozen h 1⟩
theorem cells3 {W : World} {g : Nat} {t : TypeId} {a0 a1 a2 : Value} (h : W.heap[g]? = some (.cells #[a0, a1, a2] t (0, 0))) : W.cell? ⟨g, 0, none⟩ = some a0 ∧ W.cell? ⟨g, 1, none⟩ = some a1 ∧ W.cell? ⟨g, 2, none⟩ = some a2 ∧ W.frozen? ⟨g, 0, none⟩ = false ∧ W.frozen? ⟨g, 1, none⟩ = false ∧ W.frozen? ⟨g, 2, none⟩ = false := ⟨(blk_cell h 0).trans rfl, (blk_cell h 1).trans rfl, (blk_cell h 2).trans rfl, blk_frozen h 0, blk_frozen h 1, blk_frozen h 2⟩
theorem cells4 {W : World} {g : Nat} {t : TypeId} {a0 a1 a2 a3 : Value} (h : W.heap[g]? = some (.cells #[a0, a1, a2, a3] t (0, 0))) : W.cell? ⟨g, 0, none⟩ = some a0 ∧ W.cell? ⟨g, 1, none⟩ = some a1 ∧ W.cell? ⟨g, 2, none⟩ = some a2 ∧ W.cell? ⟨g, 3, none⟩ = some a3 ∧ W.frozen? ⟨g, 0, none⟩ = false ∧ W.frozen? ⟨g, 1, none⟩ = false ∧ W.frozen? ⟨g, 2, none⟩ = false ∧ W.frozen? ⟨g, 3, none⟩ = false := ⟨(blk_cell h 0).trans rfl, (blk_cell h 1).trans rfl, (blk_cell h 2).trans rfl, (blk_cell h 3).trans rfl, blk_frozen h 0, blk_frozen h 1, blk_frozen h 2, blk_frozen h 3⟩
theorem cells5 {W : World} {g : Nat} {t : TypeId} {a0 a1 a2 a3 a4 : Value} (h : W.heap[g]? = some (.cells #[a0, a1, a2, a3, a4] t (0, 0))) : W.cell? ⟨g, 0, none⟩ = some a0 ∧ W.cell? ⟨g, 1, none⟩ = some a1 ∧ W.cell? ⟨g, 2, none⟩ = some a2 ∧ W.cell? ⟨g, 3, none⟩ = some a3 ∧ W.cell? ⟨g, 4, none⟩ = some a4 ∧ W.frozen? ⟨g, 0, none⟩ = false ∧ W.frozen? ⟨g, 1, none⟩ = false ∧ W.frozen? ⟨g, 2, none⟩ = false ∧ W.frozen? ⟨g, 3, none⟩ = false ∧ W.frozen? ⟨g, 4, none⟩ = false := ⟨(blk_cell h 0).trans rfl, (blk_cell h 1).trans rfl, (blk_cell h 2).trans rfl, (blk_cell h 3).trans rfl, (blk_cell h 4).trans rfl, blk_frozen h 0, blk_frozen h 1, blk_frozen h 2, blk_frozen h 3, blk_frozen h 4⟩
theorem cells6 {W : World} {g : Nat} {t : TypeId} {a0 a1 a2 a3 a4 a5 : Value} (h : W.heap[g]? = some (.cells #[a0, a1, a2, a3, a4, a5] t (0, 0))) : W.cell? ⟨g, 0, none⟩ = some a0 ∧ W.cell? ⟨g, 1, none⟩ = some a1 ∧ W.cell? ⟨g, 2, none⟩ = some a2 ∧ W.cell? ⟨g, 3, none⟩ = some a3 ∧ W.cell? ⟨g, 4, none⟩ = some a4 ∧ W.cell? ⟨g, 5, none⟩ = some a5 ∧ W.frozen? ⟨g, 0, none⟩ = false ∧ W.frozen? ⟨g, 1, none⟩ = false ∧ W.frozen? ⟨g, 2, none⟩ = false ∧ W.frozen? ⟨g, 3, none⟩ = false ∧ W.frozen? ⟨g, 4, none⟩ = false ∧ W.frozen? ⟨g, 5, none⟩ = false := ⟨(blk_cell h 0).trans rfl, (blk_cell h 1).trans rfl, (blk_cell h 2).trans rfl, (blk_cell h 3).trans rfl, (blk_cell h 4).trans rfl, (blk_cell h 5).trans rfl, blk_frozen h 0, blk_frozen h 1, blk_frozen h 2, blk_frozen h 3, blk_frozen h 4, blk_frozen h 5⟩
theorem cells7 {W : World} {g : Nat} {t : TypeId} {a0 a1 a2 a3 a4 a5 a6 : Value} (h : W.heap[g]? = some (.cells #[a0, a1, a2, a3, a4, a5, a6] t (0, 0))) : W.cell? ⟨g, 0, none⟩ = some a0 ∧ W.cell? ⟨g, 1, none⟩ = some a1 ∧ W.cell? ⟨g, 2, none⟩ = some a2 ∧ W.cell? ⟨g, 3, none⟩ = some a3 ∧ W.cell? ⟨g, 4, none⟩ = some a4 ∧ W.cell? ⟨g, 5, none⟩ = some a5 ∧ W.cell? ⟨g, 6, none⟩ = some a6 ∧ W.frozen? ⟨g, 0, none⟩ = false ∧ W.frozen? ⟨g, 1, none⟩ = false ∧ W.frozen? ⟨g, 2, none⟩ = false ∧ W.frozen? ⟨g, 3, none⟩ = false ∧ W.frozen? ⟨g, 4, none⟩ = false ∧ W.frozen? ⟨g, 5, none⟩ = false ∧ W.frozen? ⟨g, 6, none⟩ = false := ⟨(blk_cell h 0).trans rfl, (blk_cell h 1).trans rfl, (blk_cell h 2).trans rfl, (blk_cell h 3).trans rfl, (blk_cell h 4).trans rfl, (blk_cell h 5).trans rfl, (blk_cell h 6).trans rfl, blk_frozen h 0, blk_frozen h 1, blk_frozen h 2, blk_frozen h 3, blk_frozen h 4, blk_frozen h 5, blk_frozen h 6⟩
theorem cells8 {W : World} {g : Nat} {t : TypeId} {a0 a1 a2 a3 a4 a5 a6 a7 : Value} (h : W.heap[g]? = some (.cells #[a0, a1, a2, a3, a4, a5, a6, a7] t (0, 0))) : W.cell? ⟨g, 0, none⟩ = some a0 ∧ W.cell? ⟨g, 1, none⟩ = some a1 ∧ W.cell? ⟨g, 2, none⟩ = some a2 ∧ W.cell? ⟨g, 3, none⟩ = some a3 ∧ W.cell? ⟨g, 4, none⟩ = some a4 ∧ W.cell? ⟨g, 5, none⟩ = some a5 ∧ W.cell? ⟨g, 6, none⟩ = some a6 ∧ W.cell? ⟨g, 7, none⟩ = some a7 ∧ W.frozen? ⟨g, 0, none⟩ = false ∧ W.frozen? ⟨g, 1, none⟩ = false ∧ W.frozen? ⟨g, 2, none⟩ = false ∧ W.frozen? ⟨g, 3, none⟩ = false ∧ W.frozen? ⟨g, 4, none⟩ = false ∧ W.frozen? ⟨g, 5, none⟩ = false ∧ W.frozen? ⟨g, 6, none⟩ = false ∧ W.frozen? ⟨g, 7, none⟩ = false := ⟨(blk_cell h 0).trans rfl, (blk_cell h 1).trans rfl, (blk_cell h 2).trans rfl, (blk_cell h 3).trans rfl, (blk_cell h 4).trans rfl, (blk_cell h 5).trans rfl, (blk_cell h 6).trans rfl, (blk_cell h 7).trans rfl, blk_frozen h 0, blk_frozen h 1, blk_frozen h 2, blk_frozen h 3, blk_frozen h 4, blk_frozen h 5, blk_frozen h 6, blk_frozen h 7⟩
theorem ag_ {P : Prop} (h : P := by (try simp only [List.map_toArray, List.map_cons, List.map_nil]); first | done | rfl | (simp only [List.length_drop, List.length_take]; rfl)) : P := h
theorem Z {p : Prop} (h : p) : Aside0 p := ⟨h⟩
theorem set_far_ {w w0 : World} {g i k : Nat} {u : Value} (hk : k ≠ g) (h : w.heap[k]? = w0.heap[k]?) : (w.setCell ⟨g, i, none⟩ u).heap[k]? = w0.heap[k]? := (Below.heap_setCell _ _ _ k hk).trans h
theorem off2_ {P : Prop} (h : P := by intro k hk; (with_reducible repeat refine set_far_ hk ?_); with_reducible rfl) : P := h
theorem V_off {α : Type} {d : Kd α} {e base : Nat} {ok ok' : Nat → Prop} {v : Value} {xs : List α} {w w1 : World} {g : Nat} (h : Kd.V d e w base ok v xs) (hne : ∀ k, ok k → k ≠ g) (hm : ∀ k, k ≠ g → w1.heap[k]? = w.heap[k]?) (ho : ∀ k, ok k → ok' k) : Kd.V d e w1 base ok' v xs := Kd.V_mono (Kd.V_step h (fun k hk _ => hm k (hne k hk))) ho
theorem put6 {w : World} {g : Nat} {t : TypeId} {a0 a1 a2 a3 a4 a5 b0 b1 b2 b3 b4 b5 : Value} (h : w.heap[g]? = some (.cells #[b0, b1, b2, b3, b4, b5] t (0, 0))) : ((((((w.setCell ⟨g, 0, none⟩ a0).setCell ⟨g, 1, none⟩ a1).setCell ⟨g, 2, none⟩ a2).setCell ⟨g, 3, none⟩ a3).setCell ⟨g, 4, none⟩ a4).setCell ⟨g, 5, none⟩ a5).heap[g]? = some (.cells #[a0, a1, a2, a3, a4, a5] t (0, 0)) := by
 refine blk_put (cs := #[a0, a1, a2, a3, a4, b5]) ?_ 5 _ rfl
 refine blk_put (cs := #[a0, a1, a2, a3, b4, b5]) ?_ 4 _ rfl
 refine blk_put (cs := #[a0, a1, a2, b3, b4, b5]) ?_ 3 _ rfl
 refine blk_put (cs := #[a0, a1, b2, b3, b4, b5]) ?_ 2 _ rfl
 refine blk_put (cs := #[a0, b1, b2, b3, b4, b5]) ?_ 1 _ rfl
 exact blk_put (cs := #[b0, b1, b2, b3, b4, b5]) h 0 _ rfl
class Peels (W1 W : World) : Prop where
 bel : Below W.heap.size W W1
instance (W : World) : Peels W W := ⟨Below.refl _ _⟩
instance {W1 W : World} [p : Peels W1 W] (o : Obj) : Peels (W1.alloc o) W := ⟨below_alloc p.bel o⟩
instance {W1 W : World} [p : Peels W1 W] (n : Nat) : Peels (W1.drewN n) W := ⟨pw_below_drewN p.bel n⟩
instance {W1 W : World} [p : Peels W1 W] : Peels W1.drew W := ⟨below_drew p.bel⟩
theorem rb {α : Type} {d : Kd α} {e base : Nat} {ok : Nat → Prop} {v : Value} {xs : List α} {W W1 W2 : World} [p : Peels W1 W] (h : Kd.R d e W base ok v xs) (hb : Below W1.heap.size W1 W2) : Kd.R d e W2 base ok v xs := Kd.R_below (Kd.R_below h p.bel) hb
theorem vb {α : Type} {d : Kd α} {e base : Nat} {ok : Nat → Prop} {v : Value} {xs : List α} {W W1 W2 : World} [p : Peels W1 W] (h : Kd.V d e W base ok v xs) (hb : Below W1.heap.size W1 W2) : Kd.V d e W2 base ok v xs := Kd.V_below (Kd.V_below h p.bel) hb
theorem ve {α : Type} {d : Kd α} {e base g : Nat} {ok : Nat → Prop} {v : Value} {xs : List α} {W W1 W2 : World} [p : Peels W1 W] (h : Kd.V d e W base ok v xs) (hg : g = W1.heap.size) (hb : Below W1.heap.size W1 W2) : Kd.V d e W2 base (fun k => ok k ∧ k ≠ g) v xs := Kd.V_below (Kd.V_elderB (Kd.V_below h p.bel) g (Nat.le_of_eq hg.symm)) hb
theorem kb {W W1 W2 : World} {g : Nat} {o : Obj} [p : Peels W1 W] (h : W.heap[g]? = some o) (hb : Below W1.heap.size W1 W2) : W2.heap[g]? = some o := blk_below (blk_below h p.bel) hb
theorem nl {W W1 : World} {g g2 : Nat} {o : Obj} [p : Peels W1 W] (h : W.heap[g]? = some o) (hg : g2 = W1.heap.size) : g ≠ g2 := by rw [hg]; exact Nat.ne_of_lt (blk_lt (blk_below h p.bel))
theorem ng {W W1 : World} {g g2 : Nat} {o : Obj} [p : Peels W1 W] (h : W.heap[g]? = some o) (hg : g2 = W1.heap.size) : g2 ≠ g := (nl h hg).symm
theorem fb {W W1 : World} {g : Nat} {o : Obj} [p : Peels W1 W] (h : W.heap[g]? = some o) : ∀ k, W1.heap.size ≤ k → k ≠ g := Kd.freshB (blk_below h p.bel)
def bv (n m : Nat) : Array Bool := ((List.range n).map (fun i => m.testBit i)).toArray
theorem sA {α : Type _} (l : List α) (i : Nat) (x : α) : l.toArray.setIfInBounds i x = (l.set i x).toArray := List.setIfInBounds_toArray l i x
theorem sB {α : Type _} (b a : α) (l : List α) : (b :: l).set 0 a = a :: l := List.set_cons_zero
theorem sC {α : Type _} (b : α) (l : List α) (n : Nat) (a : α) : (b :: l).set (n + 1) a = b :: l.set n a := List.set_cons_succ
theorem bk_ (w : World) (a : Addr) {v : Value} (h : w.cell? a = some v) : a.block < w.heap.size := World.block_lt_of_cell? w a h
theorem od_ {p : Prop} [Decidable p] (h : decide p = true := by first | (with_reducible assumption) | assumption) : p := of_decide_eq_true h
structure S49 where
 f0 : Int
 f1 : (List Int)
 f2 : S45
 f3 : Int
 f4 : Int
def z49 : S49 := ⟨(0 : Int), ([] : List Int), z45, (0 : Int), (0 : Int)⟩
def k49 : Kd S49 := Kd.iso (Kd.pair (Kd.int .i64) (Kd.pair (Kd.slice 5 (Kd.int .u8)) (Kd.pair k45 (Kd.pair (Kd.int .i64) (Kd.int .u8))))) (fun x : S49 => (x.f0, x.f1, x.f2, x.f3, x.f4))
theorem k49_open {w : World} {x : S49} {cs : List Value} (h : k49.K w x cs) : ∃ A1 c1, cs = [.int .i64 x.f0, .slice A1 x.f1.length c1, .bool x.f2.f0, .bool x.f2.f1, .int .i64 x.f2.f2, .bool x.f2.f3, .int .i64 x.f3, .int .u8 x.f4] ∧ x.f1.length ≤ c1 ∧ (Kd.int .u8).C w A1 x.f1.length x.f1 := by
 obtain ⟨_, _, rfl, rfl, ⟨_, _, rfl, ⟨A1, c1, rfl, l1, g1⟩, ⟨_, _, rfl, s2, ⟨_, _, rfl, rfl, rfl⟩⟩⟩⟩ := h
 obtain rfl := k45_open s2
 exact ⟨A1, c1, rfl, l1, g1⟩
theorem k49_mk (w : World) (x : S49) {A1 : Option Addr} {c1 : Nat} (l1 : x.f1.length ≤ c1) (g1 : (Kd.int .u8).C w A1 x.f1.length x.f1) : k49.K w x [.int .i64 x.f0, .slice A1 x.f1.length c1, .bool x.f2.f0, .bool x.f2.f1, .int .i64 x.f2.f2, .bool x.f2.f3, .int .i64 x.f3, .int .u8 x.f4] := ⟨[.int .i64 x.f0], [.slice A1 x.f1.length c1, .bool x.f2.f0, .bool x.f2.f1, .int .i64 x.f2.f2, .bool x.f2.f3, .int .i64 x.f3, .int .u8 x.f4], rfl, rfl, ⟨[.slice A1 x.f1.length c1], [.bool x.f2.f0, .bool x.f2.f1, .int .i64 x.f2.f2, .bool x.f2.f3, .int .i64 x.f3, .int .u8 x.f4], rfl, ⟨A1, c1, rfl, l1, g1⟩, ⟨[.bool x.f2.f0, .bool x.f2.f1, .int .i64 x.f2.f2, .bool x.f2.f3], [.int .i64 x.f3, .int .u8 x.f4], rfl, (k45_mk w x.f2 ), ⟨[.int .i64 x.f3], [.int .u8 x.f4], rfl, rfl, rfl⟩⟩⟩⟩
def rd_T49 (xs : List S49) (i : Int) : S49 := xs.getD i.toNat z49
theorem at_T49 {w : World} {A : Option Addr} {n : Nat} {xs : List S49} (h : Kd.C k49 w A n xs) (i : Int) (h0 : 0 ≤ i) (h1 : i < n) : ∃ ad A1 c1, A = some ad ∧ w.cell? (ad.add (i.toNat * 8)) = some (.int .i64 (rd_T49 xs i).f0) ∧ w.cell? ⟨(ad.add (i.toNat * 8)).block, (ad.add (i.toNat * 8)).off + 1, none⟩ = some (.slice A1 (rd_T49 xs i).f1.length c1) ∧ w.cell? ⟨(ad.add (i.toNat * 8)).block, (ad.add (i.toNat * 8)).off + 2, none⟩ = some (.bool (rd_T49 xs i).f2.f0) ∧ w.cell? ⟨(ad.add (i.toNat * 8)).block, (ad.add (i.toNat * 8)).off + 3, none⟩ = some (.bool (rd_T49 xs i).f2.f1) ∧ w.cell? ⟨(ad.add (i.toNat * 8)).block, (ad.add (i.toNat * 8)).off + 4, none⟩ = some (.int .i64 (rd_T49 xs i).f2.f2) ∧ w.cell? ⟨(ad.add (i.toNat * 8)).block, (ad.add (i.toNat * 8)).off + 5, none⟩ = some (.bool (rd_T49 xs i).f2.f3) ∧ w.cell? ⟨(ad.add (i.toNat * 8)).block, (ad.add (i.toNat * 8)).off + 6, none⟩ = some (.int .i64 (rd_T49 xs i).f3) ∧ w.cell? ⟨(ad.add (i.toNat * 8)).block, (ad.add (i.toNat * 8)).off + 7, none⟩ = some (.int .u8 (rd_T49 xs i).f4) ∧ (rd_T49 xs i).f1.length ≤ c1 ∧ (Kd.int .u8).C w A1 (rd_T49 xs i).f1.length (rd_T49 xs i).f1 := by
 obtain ⟨ad, c, e, _, hK, hc0⟩ := Kd.C_get h z49 i h0 h1
 have hc : ∀ j u, c[j]? = some u → w.cell? (ad.add (i.toNat * 8 + j)) = some u := hc0
 obtain ⟨A1, c1, rfl, l1, g1⟩ := k49_open hK
 exact ⟨ad, A1, c1, e, hc 0 _ rfl, by rw [← add_field _ _ 1 (by omega)]; exact hc 1 _ rfl, by rw [← add_field _ _ 2 (by omega)]; exact hc 2 _ rfl, by rw [← add_field _ _ 3 (by omega)]; exact hc 3 _ rfl, by rw [← add_field _ _ 4 (by omega)]; exact hc 4 _ rfl, by rw [← add_field _ _ 5 (by omega)]; exact hc 5 _ rfl, by rw [← add_field _ _ 6 (by omega)]; exact hc 6 _ rfl, by rw [← add_field _ _ 7 (by omega)]; exact hc 7 _ rfl, l1, g1⟩
end Go.Proofs.YtphboakgkmjpbaaGreatDoor.P
namespace Go.Proofs.YtphboakgkmjpbaaGreatDoor.P
open Go.RowKit Go.Proofs.YtphboakgkmjpbaaGreatDoorW.PrintWords Go.Proofs.YtphboakgkmjpbaaGreatDoorW.PrintLast Go.Proofs.YtphboakgkmjpbaaGreatDoorW.PrintMore
class PeelWs (W1 : World) (W : World) : Prop where
  bel : Below W.heap.size W W1
instance (W : World) : PeelWs W W := ⟨Below.refl _ _⟩
instance (W1 W2 W : World) [p : PeelW W1 W2] [q : PeelWs W2 W] : PeelWs W1 W := ⟨below_step q.bel p.bel⟩
theorem vK {W W1 : World} {g : Nat} {o : Obj} [p : PeelWs W1 W] (h : W.heap[g]? = some o) : W1.heap[g]? = some o := blk_below h p.bel
theorem vV {α : Type} {d : Kd α} {e base : Nat} {ok : Nat → Prop} {v : Value} {xs : List α} {W W1 : World} [p : PeelWs W1 W] (h : Kd.V d e W base ok v xs) : Kd.V d e W1 base ok v xs := Kd.V_below h p.bel
theorem sM {w w1 : World} {m : Nat} {o : Option Obj} (h : w = w1) (x : w1.heap[m]? = o) : w.heap[m]? = o := h ▸ x
theorem ir_ {p : Prop} {w W : World} {k : Nat} (hn : W.heap.size ≤ k) (hb : Below w.heap.size w W := by exact bl_) : p ∨ w.heap.size ≤ k := .inr (Nat.le_trans (below_size hb) hn)
theorem er_ {P : Prop} (h : P := by first | rfl | (simp [errW_none, errW_some] <;> rfl) | (simp [*, errW_none, errW_some] <;> rfl)) : P := h
theorem dn_ {P : Prop} (h : P := by first | rfl | (simp; done) | (simp [*]; done)) : P := h
theorem dr_ {P : Prop} (h : P := by repeat (first | exact Drawn0.refl _ | apply Drawn0.step)) : P := h
theorem f6V {α : Type} {d : Kd α} {e base : Nat} {ok : Nat → Prop} {v : Value} {xs : List α} {W : World} (x : Nat) (h : Kd.V d e W base ok v xs) (ne : ∀ k, ok k → k ≠ x) {v0 v1 v2 v3 v4 v5 : Value} : Kd.V d e ((((((W.setCell ⟨x, 0, none⟩ v0).setCell ⟨x, 1, none⟩ v1).setCell ⟨x, 2, none⟩ v2).setCell ⟨x, 3, none⟩ v3).setCell ⟨x, 4, none⟩ v4).setCell ⟨x, 5, none⟩ v5) base ok v xs :=
  Kd.V_far (p := ⟨x, 5, none⟩) (Kd.V_far (p := ⟨x, 4, none⟩) (Kd.V_far (p := ⟨x, 3, none⟩) (Kd.V_far (p := ⟨x, 2, none⟩) (Kd.V_far (p := ⟨x, 1, none⟩) (Kd.V_far (p := ⟨x, 0, none⟩) h ne v0) ne v1) ne v2) ne v3) ne v4) ne v5
theorem f6R {α : Type} {d : Kd α} {e base : Nat} {ok : Nat → Prop} {v : Value} {xs : List α} {W : World} (x : Nat) (h : Kd.R d e W base ok v xs) (ne : ∀ k, ok k → k ≠ x) {v0 v1 v2 v3 v4 v5 : Value} : Kd.R d e ((((((W.setCell ⟨x, 0, none⟩ v0).setCell ⟨x, 1, none⟩ v1).setCell ⟨x, 2, none⟩ v2).setCell ⟨x, 3, none⟩ v3).setCell ⟨x, 4, none⟩ v4).setCell ⟨x, 5, none⟩ v5) base ok v xs :=
  Kd.R_far (p := ⟨x, 5, none⟩) (Kd.R_far (p := ⟨x, 4, none⟩) (Kd.R_far (p := ⟨x, 3, none⟩) (Kd.R_far (p := ⟨x, 2, none⟩) (Kd.R_far (p := ⟨x, 1, none⟩) (Kd.R_far (p := ⟨x, 0, none⟩) h ne v0) ne v1) ne v2) ne v3) ne v4) ne v5
section
variable {P : Program} {ops : Array Oper} {rest : List Oper} {o : Oper} {a : Act} {Q : Exit → Act → World → Prop}
theorem bx_ {W : World} (N : Tmp) (t : TypeId) (cs : Array Value)
    (h : ∀ g, g = W.heap.size → ∀ w1, w1.heap[g]? = some (.cells cs t (0, 0)) → Below W.heap.size W w1 → wpList P ops Q rest (a.put o.dst (.pointer (some ⟨g, 0, none⟩))) w1)
    (hgd : o.guard = none := by rfl) (hd : o.dst = some N := by rfl)
    (hrun : (execOp a.eval o).run P W = .ok (.value (.pointer (some ⟨W.heap.size, 0, none⟩))) (W.alloc (.cells cs t (0, 0))) := by first | (go_simp; done) | (go_simp; rfl)) : wpList P ops Q (o :: rest) a W := box_event hgd hd hrun h
theorem sx_ {W : World} (t : TypeId) (p : Tmp) (w1 : World) {v : Operand} (h : ∀ w', w' = w1 → wpList P ops Q rest a w')
    (ho : o.op = .store t (.tmp p) v := by rfl) (hgd : o.guard = none := by rfl) (hN : o.dst = none := by rfl)
    (hrun : (execOp a.eval o).run P W = .ok .skip w1 := by first | (go_simp; done) | (go_simp; rfl)) : wpList P ops Q (o :: rest) a W := store_event hgd ho hN hrun h
end
section
variable {P : Program} {md : Region.Mode} {ops : Array Oper} {Q : Exit → Act → World → Prop} {S : World → Prop} {ds : List Nat} {T : Bool × List (List Nat × List Nat)} {oi : Oper} {v : Value} {fuel : Nat} {l : Array Bool} {a a' : Act} {w : World}
theorem pA_ (i n m : Nat) (N : Option Tmp) (h : wpAnyLast P md ops Q S ds fuel (bv n m) a' w) (hi : ops[i]? = some oi := by exact rfl) (hN : oi.dst = N := by exact rfl) (hc : anyB md ops l (bv n m) i = true := by kernel_rfl)
    (hQ : ∀ c a w, Q (.panic c) (a.put oi.dst v) w → Q (.panic c) a w := by exact fun _ _ _ h => h) (hw : Region.wanted oi (yielded ops a.tmps) = true := by rfl) (hy : ∀ w, (execOp a.eval oi).run P w = .ok (.value v) w := by intro w'; go_simp; with_reducible rfl)
    (ha : a.put N v = a' := by simp only [Act.put, sA, sB, sC, i64_w, i32_w]; rfl) : wpAnyLast P md ops Q S ds (fuel + 1) l a w := pure_ (bv n m) hi hN hc hQ (Or.inl ⟨hw, hy⟩) ha h
theorem pT_ (HT : Aside0 (rtab md ops = T)) (i n m : Nat) (N : Option Tmp) (h : wpAnyLast P md ops Q S ds fuel (bv n m) a' w) (hi : ops[i]? = some oi := by exact rfl) (hN : oi.dst = N := by exact rfl) (hc : anyT T l.toList (bv n m).toList i = true := by kernel_rfl)
    (hQ : ∀ c a w, Q (.panic c) (a.put oi.dst v) w → Q (.panic c) a w := by exact fun _ _ _ h => h) (hw : Region.wanted oi (yielded ops a.tmps) = true := by rfl) (hy : ∀ w, (execOp a.eval oi).run P w = .ok (.value v) w := by intro w'; go_simp; with_reducible rfl)
    (ha : a.put N v = a' := by simp only [Act.put, sA, sB, sC, i64_w, i32_w]; rfl) : wpAnyLast P md ops Q S ds (fuel + 1) l a w := pure_ (bv n m) hi hN (any_of HT.out hc) hQ (Or.inl ⟨hw, hy⟩) ha h
theorem pU_ (HT : Aside0 (rtab md ops = T)) (i n m : Nat) (N : Option Tmp) (h : wpAnyLast P md ops Q S ds fuel (bv n m) a' w) (hi : ops[i]? = some oi := by exact rfl) (hN : oi.dst = N := by exact rfl) (hc : anyT T l.toList (bv n m).toList i = true := by kernel_rfl)
    (hQ : ∀ c a w, Q (.panic c) (a.put oi.dst undef) w → Q (.panic c) a w := by exact fun _ _ _ h => h) (hw : Region.wanted oi (yielded ops a.tmps) = false := by rfl)
    (ha : a.put N undef = a' := by simp only [Act.put, sA, sB, sC, i64_w, i32_w]; rfl) : wpAnyLast P md ops Q S ds (fuel + 1) l a w := pure_ (bv n m) hi hN (any_of HT.out hc) hQ (Or.inr ⟨hw, rfl⟩) ha h
theorem tA_ (hS : S w) (i n m : Nat) (N : Option Tmp) (h : wpAnyLast P md ops Q S ds fuel (bv n m) a' w) (hi : ops[i]? = some oi := by exact rfl) (hN : oi.dst = N := by exact rfl) (hc : takeB md ops ds l (bv n m) i = true := by kernel_rfl)
    (hQ : ∀ c a w, Q (.panic c) (a.put oi.dst v) w → Q (.panic c) a w := by exact fun _ _ _ h => h) (hw : Region.wanted oi (yielded ops a.tmps) = true := by rfl) (hy : ∀ w, S w → (execOp a.eval oi).run P w = .ok (.value v) w := by intro w' hs_; (repeat (have hl_ := hs_.1; replace hs_ := hs_.2)); go_simp; with_reducible rfl)
    (ha : a.put N v = a' := by simp only [Act.put, sA, sB, sC, i64_w, i32_w]; rfl) : wpAnyLast P md ops Q S ds (fuel + 1) l a w := take_ (bv n m) hi hN hc hQ (Or.inl ⟨hw, hy⟩) hS ha h
theorem tT_ {B : List Nat} (HT : Aside0 (rtab md ops = T)) (HW : Aside0 (waitsOk T.2 B = true)) (hS : S w) (i n m : Nat) (N : Option Tmp) (h : wpAnyLast P md ops Q S ds fuel (bv n m) a' w) (hi : ops[i]? = some oi := by exact rfl) (hN : oi.dst = N := by exact rfl) (hc : takeW T B ds l.toList (bv n m).toList i = true := by kernel_rfl)
    (hQ : ∀ c a w, Q (.panic c) (a.put oi.dst v) w → Q (.panic c) a w := by exact fun _ _ _ h => h) (hw : Region.wanted oi (yielded ops a.tmps) = true := by rfl) (hy : ∀ w, S w → (execOp a.eval oi).run P w = .ok (.value v) w := by intro w' hs_; (repeat (have hl_ := hs_.1; replace hs_ := hs_.2)); go_simp; with_reducible rfl)
    (ha : a.put N v = a' := by simp only [Act.put, sA, sB, sC, i64_w, i32_w]; rfl) : wpAnyLast P md ops Q S ds (fuel + 1) l a w := take_ (bv n m) hi hN (take_ofW HT.out HW.out hc) hQ (Or.inl ⟨hw, hy⟩) hS ha h
theorem oT_ (HT : Aside0 (rtab md ops = T)) (i n m : Nat) (N : Option Tmp) (h : ∀ K : Act → World → Prop, Shut (∀ a' w', S w' → (S w' → wpAnyLast P md ops Q S ds fuel (bv n m) a' w') → K a' w') → if Region.wanted oi (yielded ops a.tmps) = true then Oper.wp P oi a w K Q else K (a.put N undef) w)
    (hi : ops[i]? = some oi := by exact rfl) (hN : oi.dst = N := by exact rfl) (hc : (readyT T.2 l.toList == [i] && l.toList.set i true == (bv n m).toList) = true := by kernel_rfl) (hd : i ∉ ds := by decide) : wpAnyLast P md ops Q S ds (fuel + 1) l a w := one_ (bv n m) hi hN (one_of HT.out hc) hd h
theorem nA_ (N : Option Tmp) (h : wpAnyLast P md ops Q S ds fuel l a' w) (ha : a.put N v = a' := by simp only [Act.put, sA, sB, sC, i64_w, i32_w]; rfl) : wpAnyLast P md ops Q S ds fuel l (a.put N v) w := norm_ ha h
end
theorem kb' {W W1 W2 : World} {g : Nat} {o : Obj} [p : Peels W1 W] (h : Aside0 (W.heap[g]? = some o)) (hb : Below W1.heap.size W1 W2) : Aside0 (W2.heap[g]? = some o) := ⟨kb h.out hb⟩
theorem rb' {α : Type} {d : Kd α} {e base : Nat} {ok : Nat → Prop} {v : Value} {xs : List α} {W W1 W2 : World} [p : Peels W1 W] (h : Aside0 (Kd.R d e W base ok v xs)) (hb : Below W1.heap.size W1 W2) : Aside0 (Kd.R d e W2 base ok v xs) := ⟨rb h.out hb⟩
theorem vb' {α : Type} {d : Kd α} {e base : Nat} {ok : Nat → Prop} {v : Value} {xs : List α} {W W1 W2 : World} [p : Peels W1 W] (h : Aside0 (Kd.V d e W base ok v xs)) (hb : Below W1.heap.size W1 W2) : Aside0 (Kd.V d e W2 base ok v xs) := ⟨vb h.out hb⟩
theorem nl' {W W1 : World} {g g2 : Nat} {o : Obj} [p : Peels W1 W] (h : Aside0 (W.heap[g]? = some o)) (hg : g2 = W1.heap.size) : Aside0 (g ≠ g2) := ⟨nl h.out hg⟩
theorem ng' {W W1 : World} {g g2 : Nat} {o : Obj} [p : Peels W1 W] (h : Aside0 (W.heap[g]? = some o)) (hg : g2 = W1.heap.size) : Aside0 (g2 ≠ g) := ⟨ng h.out hg⟩
theorem eT_ {α : Type} [BEq α] [LawfulBEq α] {a b : α} (h : a = b) : (a == b) = true ∧ (a != b) = false := ⟨beq_iff_eq.mpr h, bne_eq_false_iff_eq.mpr h⟩
theorem eF_ {α : Type} [BEq α] [LawfulBEq α] {a b : α} (h : ¬a = b) : (a == b) = false ∧ (a != b) = true := ⟨beq_eq_false_iff_ne.mpr h, bne_iff_ne.mpr h⟩
theorem bs_ {w W W1 : World} (hb : Below W.heap.size W W1) (h : Below w.heap.size w W := by exact bl_) : Aside0 (Below w.heap.size w W1) := ⟨below_step h hb⟩
theorem fC6 (x : Nat) {W : World} {a : Addr} {r : Option Value} (h : a.block ≠ x) (y : W.cell? a = r) {i0 i1 i2 i3 i4 i5 : Nat} {v0 v1 v2 v3 v4 v5 : Value} : ((((((W.setCell ⟨x, i0, none⟩ v0).setCell ⟨x, i1, none⟩ v1).setCell ⟨x, i2, none⟩ v2).setCell ⟨x, i3, none⟩ v3).setCell ⟨x, i4, none⟩ v4).setCell ⟨x, i5, none⟩ v5).cell? a = r :=
  (cell_far (p := ⟨x, _, none⟩) h _).trans ((cell_far (p := ⟨x, _, none⟩) h _).trans ((cell_far (p := ⟨x, _, none⟩) h _).trans ((cell_far (p := ⟨x, _, none⟩) h _).trans ((cell_far (p := ⟨x, _, none⟩) h _).trans ((cell_far (p := ⟨x, _, none⟩) h _).trans y)))))
theorem nb_ {P Q : Prop} {W : World} {ad : Addr} {v : Value} (x : W.cell? ad = some v) (a : Q) (e : ad.block < W.heap.size → Q → P := by intro t_ a_; first | exact Nat.ne_of_lt (Nat.lt_of_lt_of_le (by first | exact t_ | rwa [add_block] at t_) a_) | (rw [add_block]; exact Nat.ne_of_lt (Nat.lt_of_lt_of_le (by first | exact t_ | rwa [add_block] at t_) a_)) | (show (Addr.add _ _).block ≠ _; rw [add_block]; exact Nat.ne_of_lt (Nat.lt_of_lt_of_le (by first | exact t_ | rwa [add_block] at t_) a_)) | (dsimp only; exact Nat.ne_of_lt (Nat.lt_of_lt_of_le (by first | exact t_ | rwa [add_block] at t_) a_))) : P := e (bk_ _ _ x) a
theorem bn_ {α β : Type} {x : Option α} {f : α → Option β} {b : β} (h : x.bind f = some b) : ∃ a, Aside0 (x = some a) ∧ f a = some b := by
  obtain ⟨a, ha, hf⟩ := Option.bind_eq_some_iff.mp h; exact ⟨a, ⟨ha⟩, hf⟩
section
variable {α : Type} {d : Kd α} {e base : Nat} {W W1 w : World} {ok : Nat → Prop} {A : Option Addr} {n c : Nat} {xs : List α}
theorem vC_ [p : PeelWs W1 W] (h : Aside0 (Kd.V d e W base ok (.slice A n c) xs)) : Kd.C d W1 A xs.length xs := Kd.C_below (Kd.V_reads' h.out).2.2 p.bel
theorem vL_ (h : Aside0 (Kd.V d e W base ok (.slice A n c) xs)) : n ≤ c := (Kd.V_reads' h.out).2.1
theorem rC_ [p : PeelWs W1 W] (h : Aside0 (Kd.R d e W base ok (.slice A n c) xs)) : Kd.C d W1 A xs.length xs := Kd.C_below (Kd.R_reads' h.out).2.2 p.bel
theorem rL_ (h : Aside0 (Kd.R d e W base ok (.slice A n c) xs)) : n ≤ c := (Kd.R_reads' h.out).2.1
theorem cB_ [p : PeelWs W1 W] (h : Aside0 (Kd.C d w A n xs)) (hb : Aside0 (Below w.heap.size w W)) : Kd.C d W1 A n xs := Kd.C_below (Kd.C_below h.out hb.out) p.bel
theorem ve' {g : Nat} {v : Value} {W2 : World} [p : Peels W1 W] (h : Aside0 (Kd.V d e W base ok v xs)) (hg : g = W1.heap.size) (hb : Below W1.heap.size W1 W2) : Aside0 (Kd.V d e W2 base (fun k => ok k ∧ k ≠ g) v xs) := ⟨ve h.out hg hb⟩
end
theorem ln' (w : World) {W : World} {m : Nat} (h : m = W.heap.size) (hb : Below w.heap.size w W := by exact bl_) : Aside0 (w.heap.size ≤ m) := ⟨le_new h (below_size hb)⟩
theorem ns_ {α : Type} {a b : α} (h : Aside0 (a ≠ b)) : a ≠ b ∧ b ≠ a := ⟨h.out, h.out.symm⟩
theorem gw_ {w w1 : World} {g : Nat} {o : Obj} {row : Option Nat} (h : Aside0 (w.heap[g]? = some o)) (hg : w.grownBy w1 row) (hne : some g ≠ row) : Aside0 (w1.heap[g]? = some o) := ⟨blk_grown h.out hg hne⟩
section
variable {P : Program} {ops : Array Oper} {Q : Exit → Act → World → Prop} {rest : List Oper} {oi : Oper} {a : Act} {w : World}
theorem gF_ (f : FuncId) {us : Array Operand} {ts : Array TypeId} (_ho : oi.op = .call { callee := .value (.func f), args := us, argTypes := ts }) (h : wpList P ops Q (oi :: rest) a w) : wpList P ops Q (oi :: rest) a w := h
theorem gD_ (N : Tmp) (_hN : oi.dst = some N) (h : wpList P ops Q (oi :: rest) a w) : wpList P ops Q (oi :: rest) a w := h
theorem gd_ {fn : Func} {f : FuncId} {us : Array Operand} {ts : Array TypeId} {args : Array Value} {R : Ending → World → Prop} (N : Option Tmp) (hf : P.funcs[f]? = some fn) (hC : Calls P f args w R)
    (h : ∀ e w', R e w' → ∃ v, e = .returned v ∧ wpList P ops Q rest (a.put N v) w') (hd : oi.dst = N := by rfl) (hg : oi.guard = none := by rfl) (hname : (fn.name == "runtime.NumGoroutine") = false := by kernel_rfl) (hb : fn.body.isSome = true := by rfl)
    (hop : oi.op = .call { callee := .value (.func f), args := us, argTypes := ts } := by rfl) (hargs : us.map a.eval = args := by exact ag_) : wpList P ops Q (oi :: rest) a w := goesL_ N hd hg hf hname hb args hop hargs (hC.mono h)
end
section
variable {P : Program} {fn : Func} {R : Ending → World → Prop} {a : Act} {w : World} {g p u u2 : Nat} {t ty : TypeId} {cs : Array Value} {d : TypeDesc}
theorem rc1_ (hg : w.heap[g]? = some (.cells cs t (0, 0))) (hu : P.underlying ty = some d) (hR : R (.returned (.agg cs)) w) (h : fn.results = #[.cell p ty] := by rfl) (hp : a.tmps.getD p undef = .pointer (some ⟨g, 0, none⟩) := by rfl)
    (hs : (match d with | .struct _ | .array _ _ => true | _ => false) = true := by rfl) (hi : (P.info? ty).map (·.size) = some cs.size := by kernel_rfl) (hd : a.defers = [] := by rfl) : bodyPost P fn R .ret a w :=
  bodyPost_ret (results_cell_row h a.tmps w g t cs (0, 0) d hp hg hu hs hi) hd hR
theorem rc2_ (hg : w.heap[g]? = some (.cells cs t (0, 0))) (hu : P.underlying ty = some d) (hR : R (.returned (.tuple #[.agg cs, a.tmps.getD u undef])) w) (h : fn.results = #[.cell p ty, .tmp u] := by rfl) (hp : a.tmps.getD p undef = .pointer (some ⟨g, 0, none⟩) := by rfl)
    (hs : (match d with | .struct _ | .array _ _ => true | _ => false) = true := by rfl) (hi : (P.info? ty).map (·.size) = some cs.size := by kernel_rfl) (hd : a.defers = [] := by rfl) : bodyPost P fn R .ret a w :=
  bodyPost_ret (results_ct h a.tmps w g t cs (0, 0) d hp hg hu hs hi) hd hR
theorem rc3_ (hg : w.heap[g]? = some (.cells cs t (0, 0))) (hu : P.underlying ty = some d) (hR : R (.returned (.tuple #[.agg cs, a.tmps.getD u undef, a.tmps.getD u2 undef])) w) (h : fn.results = #[.cell p ty, .tmp u, .tmp u2] := by rfl) (hp : a.tmps.getD p undef = .pointer (some ⟨g, 0, none⟩) := by rfl)
    (hs : (match d with | .struct _ | .array _ _ => true | _ => false) = true := by rfl) (hi : (P.info? ty).map (·.size) = some cs.size := by kernel_rfl) (hd : a.defers = [] := by rfl) : bodyPost P fn R .ret a w :=
  bodyPost_ret (results_ctt h a.tmps w g t cs (0, 0) d hp hg hu hs hi) hd hR
end
theorem ce_ {W : World} {g : Nat} {xs : List S47} {i : Int} (h : ∀ j u, [Value.bool (xs.getD i.toNat z47).f0, .bool (xs.getD i.toNat z47).f1.f0, .bool (xs.getD i.toNat z47).f1.f1, .int .i64 (xs.getD i.toNat z47).f1.f2, .bool (xs.getD i.toNat z47).f1.f3, .int .u8 (xs.getD i.toNat z47).f2][j]? = some u → W.cell? ⟨g, i.toNat * k47.sz + j, none⟩ = some u) :
    W.cell? ⟨g, i.toNat * 6, none⟩ = some (.bool (rd_T47 xs i).f0) ∧ W.cell? ⟨g, i.toNat * 6 + 1, none⟩ = some (.bool (rd_T47 xs i).f1.f0) ∧ W.cell? ⟨g, i.toNat * 6 + 2, none⟩ = some (.bool (rd_T47 xs i).f1.f1) ∧ W.cell? ⟨g, i.toNat * 6 + 3, none⟩ = some (.int .i64 (rd_T47 xs i).f1.f2) ∧ W.cell? ⟨g, i.toNat * 6 + 4, none⟩ = some (.bool (rd_T47 xs i).f1.f3) ∧ W.cell? ⟨g, i.toNat * 6 + 5, none⟩ = some (.int .u8 (rd_T47 xs i).f2) :=
  ⟨h 0 _ rfl, h 1 _ rfl, h 2 _ rfl, h 3 _ rfl, h 4 _ rfl, h 5 _ rfl⟩
theorem cf_ {W : World} {g : Nat} {i : Nat} (h : ∀ j, W.frozen? ⟨g, i * k47.sz + j, none⟩ = false) :
    W.frozen? ⟨g, i * 6, none⟩ = false ∧ W.frozen? ⟨g, i * 6 + 1, none⟩ = false ∧ W.frozen? ⟨g, i * 6 + 2, none⟩ = false ∧ W.frozen? ⟨g, i * 6 + 3, none⟩ = false ∧ W.frozen? ⟨g, i * 6 + 4, none⟩ = false ∧ W.frozen? ⟨g, i * 6 + 5, none⟩ = false := ⟨h 0, h 1, h 2, h 3, h 4, h 5⟩
class Im (p q : Prop) : Prop where
  im : p → q
instance (p : Prop) : Im p p := ⟨id⟩
instance (p : Prop) : Im p True := ⟨fun _ => trivial⟩
instance (p q r : Prop) [x : Im p q] [y : Im p r] : Im p (q ∧ r) := ⟨fun h => ⟨x.im h, y.im h⟩⟩
instance (p q r : Prop) [x : Im p q] : Im (p ∧ r) q := ⟨fun h => x.im h.1⟩
instance (p q r : Prop) [x : Im r q] : Im (p ∧ r) q := ⟨fun h => x.im h.2⟩
theorem im_ {p q : Nat → Prop} [h : ∀ k, Im (p k) (q k)] (k : Nat) (x : p k) : q k := (h k).im x
theorem gt_ {α : Type} {p : Prop} [Decidable p] {x : Option α} {r : α} (h : (if p then x else none) = some r) : p ∧ x = some r := by
  by_cases c : p
  · exact ⟨c, (if_pos c).symm.trans h⟩
  · rw [if_neg c] at h; cases h
theorem gf_ {α : Type} {p : Prop} [Decidable p] {x : Option α} {r : α} (h : (if p then none else x) = some r) : ¬p ∧ x = some r := by
  by_cases c : p
  · rw [if_pos c] at h; cases h
  · exact ⟨c, (if_neg c).symm.trans h⟩
theorem iF_ {α : Sort _} {a b : α} : (if false = true then a else b) = b := if_neg Bool.false_ne_true
theorem ij2_ {A0 : Type} {A1 : Type} {x0 y0 : A0} {x1 y1 : A1} (h : some (x0, x1) = some (y0, y1)) : x0 = y0 ∧ x1 = y1 := by
  simpa only [Option.some.injEq, Prod.mk.injEq] using h
theorem ij3_ {A0 : Type} {A1 : Type} {A2 : Type} {x0 y0 : A0} {x1 y1 : A1} {x2 y2 : A2} (h : some (x0, x1, x2) = some (y0, y1, y2)) : x0 = y0 ∧ x1 = y1 ∧ x2 = y2 := by
  simpa only [Option.some.injEq, Prod.mk.injEq] using h
theorem ij4_ {A0 : Type} {A1 : Type} {A2 : Type} {A3 : Type} {x0 y0 : A0} {x1 y1 : A1} {x2 y2 : A2} {x3 y3 : A3} (h : some (x0, x1, x2, x3) = some (y0, y1, y2, y3)) : x0 = y0 ∧ x1 = y1 ∧ x2 = y2 ∧ x3 = y3 := by
  simpa only [Option.some.injEq, Prod.mk.injEq] using h
theorem ij6_ {A0 : Type} {A1 : Type} {A2 : Type} {A3 : Type} {A4 : Type} {A5 : Type} {x0 y0 : A0} {x1 y1 : A1} {x2 y2 : A2} {x3 y3 : A3} {x4 y4 : A4} {x5 y5 : A5} (h : some (x0, x1, x2, x3, x4, x5) = some (y0, y1, y2, y3, y4, y5)) : x0 = y0 ∧ x1 = y1 ∧ x2 = y2 ∧ x3 = y3 ∧ x4 = y4 ∧ x5 = y5 := by
  simpa only [Option.some.injEq, Prod.mk.injEq] using h
theorem ij7_ {A0 : Type} {A1 : Type} {A2 : Type} {A3 : Type} {A4 : Type} {A5 : Type} {A6 : Type} {x0 y0 : A0} {x1 y1 : A1} {x2 y2 : A2} {x3 y3 : A3} {x4 y4 : A4} {x5 y5 : A5} {x6 y6 : A6} (h : some (x0, x1, x2, x3, x4, x5, x6) = some (y0, y1, y2, y3, y4, y5, y6)) : x0 = y0 ∧ x1 = y1 ∧ x2 = y2 ∧ x3 = y3 ∧ x4 = y4 ∧ x5 = y5 ∧ x6 = y6 := by
  simpa only [Option.some.injEq, Prod.mk.injEq] using h
theorem ij8_ {A0 : Type} {A1 : Type} {A2 : Type} {A3 : Type} {A4 : Type} {A5 : Type} {A6 : Type} {A7 : Type} {x0 y0 : A0} {x1 y1 : A1} {x2 y2 : A2} {x3 y3 : A3} {x4 y4 : A4} {x5 y5 : A5} {x6 y6 : A6} {x7 y7 : A7} (h : some (x0, x1, x2, x3, x4, x5, x6, x7) = some (y0, y1, y2, y3, y4, y5, y6, y7)) : x0 = y0 ∧ x1 = y1 ∧ x2 = y2 ∧ x3 = y3 ∧ x4 = y4 ∧ x5 = y5 ∧ x6 = y6 ∧ x7 = y7 := by
  simpa only [Option.some.injEq, Prod.mk.injEq] using h
abbrev zS_ : Array Value := #[.int .i64 0, .int .i64 0, .slice none 0 0, .int .i64 0, .bool false, .bool false]
theorem sb_ {α β : Type} {y : α} {f : α → Option β} {r : Option β} (h : (some y).bind f = r) : f y = r := h
theorem hd_ {P : Prop} (h : P := by repeat' (first | exact (blk_cell (Aside0.out (by first | with_reducible assumption | assumption)) _).trans rfl | apply And.intro)) : P := h
theorem hc_ {w W : World} {a : Addr} {v : Value} (h : Aside0 (Below w.heap.size w W)) (x : w.cell? a = some v) : W.cell? a = some v := (h.out.cell (bk_ w _ x)).trans x
theorem vR_ {α : Type} {d : Kd α} {e base : Nat} {ok : Nat → Prop} {v : Value} {xs : List α} {W W1 : World} [p : PeelWs W1 W] (h : Kd.R d e W base ok v xs) : Kd.R d e W1 base ok v xs := Kd.R_below h p.bel
theorem rn_ {α : Type} {d : Kd α} {e : Nat} {ok : Nat → Prop} {v : Value} {xs : List α} (w : World) {W w1 : World} (h : Kd.R d e w1 W.heap.size ok v xs) (hb : Below w.heap.size w W := by exact bl_) : Aside0 (Kd.R d e w1 w.heap.size (fun k => (w.heap.size ≤ k) ∧ ok k) v xs) := ⟨Kd.R_lower (Kd.R_newM (M := fun k => w.heap.size ≤ k) h (below_size hb) (fun _ h => h)) (below_size hb)⟩
end Go.Proofs.YtphboakgkmjpbaaGreatDoor.P
namespace Go.Proofs.YtphboakgkmjpbaaGreatDoor.P
open Go.RowKit Go.Proofs.YtphboakgkmjpbaaGreatDoorW.PrintWords Go.Proofs.YtphboakgkmjpbaaGreatDoorW.PrintLast Go.Proofs.YtphboakgkmjpbaaGreatDoorW.PrintMore
attribute [local go_sem] max2_int min2_int max_two min_two max_three min_three max_four min_four
attribute [local go_sem] Instr.field asAgg
set_option linter.unusedVariables false
set_option linter.unusedSimpArgs false
theorem eqA26 (d : Nat) (w : World) (a e b f c g : Bool) :
  (Op.equalIn (d + 2) 26 (.agg #[.bool a, .bool b, .bool c]) (.agg #[.bool e, .bool f, .bool g])).run Tryz.prog w = .ok (a == e && (b == f && (c == g))) w := by
 refine eqA_of Tryz.underlying26 (by kernel_rfl) ?_
 refine eqf_cons (by rfl) (by go_simp; rfl) (by go_simp; rfl) (by go_simp) ?_
 refine eqf_cons (by rfl) (by go_simp; rfl) (by go_simp; rfl) (by go_simp) ?_
 exact eqf_last (by rfl) (by go_simp; rfl) (by go_simp; rfl) (by go_simp)
theorem eqA45 (d : Nat) (w : World) (a f b g : Bool) (c h : Int) (e i : Bool) :
  (Op.equalIn (d + 2) 45 (.agg #[.bool a, .bool b, .int .i64 c, .bool e]) (.agg #[.bool f, .bool g, .int .i64 h, .bool i])).run Tryz.prog w = .ok (a == f && (b == g && (c == h && (e == i)))) w := by
 refine eqA_of Tryz.underlying45 (by kernel_rfl) ?_
 refine eqf_cons (by rfl) (by go_simp; rfl) (by go_simp; rfl) (by go_simp) ?_
 refine eqf_cons (by rfl) (by go_simp; rfl) (by go_simp; rfl) (by go_simp) ?_
 refine eqf_cons (by rfl) (by go_simp; rfl) (by go_simp; rfl) (by go_simp) ?_
 exact eqf_last (by rfl) (by go_simp; rfl) (by go_simp; rfl) (by go_simp)
theorem eqA47 (d : Nat) (w : World) (a h b i c j : Bool) (e k : Int) (f l : Bool) (g m : Int) :
  (Op.equalIn (d + 3) 47 (.agg #[.bool a, .bool b, .bool c, .int .i64 e, .bool f, .int .u8 g]) (.agg #[.bool h, .bool i, .bool j, .int .i64 k, .bool l, .int .u8 m])).run Tryz.prog w = .ok (a == h && ((b == i && (c == j && (e == k && (f == l)))) && (g == m))) w := by
 refine eqA_of Tryz.underlying47 (by kernel_rfl) ?_
 refine eqf_cons (by rfl) (by go_simp; rfl) (by go_simp; rfl) (by go_simp) ?_
 refine eqf_cons (by rfl) (by go_simp) (by go_simp) (eqA45 (d + 0) w _ _ _ _ _ _ _ _) ?_
 exact eqf_last (by rfl) (by go_simp; rfl) (by go_simp; rfl) (by go_simp)
end Go.Proofs.YtphboakgkmjpbaaGreatDoor.P
