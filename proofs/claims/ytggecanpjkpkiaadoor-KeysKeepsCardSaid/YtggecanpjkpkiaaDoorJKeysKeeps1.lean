/- Printed walks of the law's functions, joined by joinpx.py: each function as a plain Lean function, and that Go's code comes to its answer. -/
import Derived.Test.YtggecanpjkpkiaaDoorProg
import Derived.Below
import Derived.Deep.Draws
import Derived.Deep.AppendLies
import Derived.Maps.AppendAt
import Derived.OwnWalk
import Derived.Laws.BytesArg
import Derived.Laws.MakeOwn
import Derived.Laws.OwnMore
import Derived.Deep.OwnRows
import Derived.Tactics
import Derived.Lib.ConvBytes
import Derived.Laws.Slices
import Derived.WalkKit
import Derived.KernelRfl
import Derived.RowKit3
import Derived.Deep.LoopGhost
import Derived.Deep.QuietTactic
import Derived.BigQuiet
import Derived.WideLaws
import Derived.Deep.DeepCutAuto
import Derived.Deep.CutBlock
import Derived.Deep.RegionHeld3
import Derived.Laws.Rows
import Derived.Lib.AppendStr
import Derived.ArgAppend
import Derived.Laws.IdiomCopy
import Derived.OrdersHeld
import Derived.Laws.BitsLemmas
import Derived.RowKit
import Derived.RangeFuncNested
import Derived.RangeFuncBound
import Derived.RangeFuncCalls
import Derived.RangeFuncLeaves
import Derived.RangeFuncBox
import Derived.Shelf.Abstract
import Derived.Shelf.RegionOpen
import Derived.OwnWalkIn
import Derived.TacticsInMore
import Derived.LoopNIn
import Derived.LoopIn
import Derived.Deep.RegionWith
import Derived.LaidEql
import Derived.Stop.Asserts
import Derived.RowKitTokens
import Derived.Lib.SliceRun
import Derived.Test.YtggecanpjkpkiaaDoorUWords
import Derived.Test.YtggecanpjkpkiaaDoorULast
import Derived.Test.YtggecanpjkpkiaaDoorUTab
import Derived.Test.YtggecanpjkpkiaaDoorUFour
import Derived.Test.YtggecanpjkpkiaaDoorUQPut
import Derived.Test.YtggecanpjkpkiaaDoorUApart
import Derived.Test.YtggecanpjkpkiaaDoorUArr
import Derived.Test.YtggecanpjkpkiaaDoorUZeros
import Derived.Test.YtggecanpjkpkiaaDoorUFoot
import Derived.Test.YtggecanpjkpkiaaDoorUKept
import Derived.Test.YtggecanpjkpkiaaDoorUShare
import Derived.Test.YtggecanpjkpkiaaDoorUN
import Derived.Test.YtggecanpjkpkiaaDoorUFootNe
import Derived.Test.YtggecanpjkpkiaaDoorUAt
import Derived.Test.YtggecanpjkpkiaaDoorUEqStruct
import Derived.Test.YtggecanpjkpkiaaDoorURepsOne
import Derived.Test.YtggecanpjkpkiaaDoorUInv
import Derived.Test.YtggecanpjkpkiaaDoorUInvWords
import Derived.Test.YtggecanpjkpkiaaDoorUGuard
import Derived.Test.YtggecanpjkpkiaaDoorUNEv
import Derived.Test.YtggecanpjkpkiaaDoorUMore
namespace Go.Proofs.YtggecanpjkpkiaaDoor.P
open Go.RowKit Go.Proofs.YtggecanpjkpkiaaDoorW.PrintWords Go.Proofs.YtggecanpjkpkiaaDoorW.PrintLast Go.Proofs.YtggecanpjkpkiaaDoorW.PrintMore
attribute [local go_sem] max2_int min2_int max_two min_two max_three min_three max_four min_four   -- for this text's walks alone
attribute [local go_sem] Instr.field asAgg
set_option linter.unusedVariables false
set_option linter.unusedSimpArgs false
inductive Er where
 | num : Int → Er
 | spot : Er
def ez : Er := .num 0
abbrev ERNT : TypeId := 52
def Er.ty : Er → TypeId
 | .num _ => 52
 | .spot => 76
def adrOf : Value → Option Addr
 | .slice a _ _ => a
 | _ => none
def Er.pay (v : Value) : Er → Value
 | .num n => .int .i64 n
 | .spot => .pointer (adrOf v)
def errW (v : Value) : Option Er → Value
 | none => .nilIface
 | some c => .iface c.ty (c.pay v)
theorem errW_none {v : Value} : errW v none = .nilIface := rfl
theorem errW_some {v : Value} {c : Er} : errW v (some c) = .iface c.ty (c.pay v) := rfl
def kern : Kd Int := Kd.scalar (fun x : Int => .iface ERNT (.int .i64 x)) (fun _ => rfl)
theorem kern_heap : Kd.Heap kern := Kd.heap_scalar
theorem info3 : (Tryd.prog.info? 3).map (fun i => (i.zero, i.size, i.bytes)) = some (some (.int .i64 0), 1, 8) := by kernel_rfl
theorem info5 : (Tryd.prog.info? 5).map (fun i => (i.zero, i.size, i.bytes)) = some (some (.int .u8 0), 1, 1) := by kernel_rfl
theorem info35 : (Tryd.prog.info? 35).map (fun i => (i.zero, i.size, i.bytes)) = some (some (.agg #[(.bool false), (.bool false), (.bool false), (.int .i64 0), (.bool false), (.int .u8 0)]), 6, 40) := by kernel_rfl
-- the values' own types
structure S33 where
 f0 : Bool
 f1 : Bool
 f2 : Int
 f3 : Bool
def z33 : S33 := ⟨false, false, (0 : Int), false⟩
def k33 : Kd S33 := Kd.iso (Kd.pair Kd.bool (Kd.pair Kd.bool (Kd.pair (Kd.int .i64) Kd.bool))) (fun x : S33 => (x.f0, x.f1, x.f2, x.f3))
theorem k33_heap : Kd.Heap k33 := Kd.heap_iso _ (Kd.heap_pair Kd.heap_bool (Kd.heap_pair Kd.heap_bool (Kd.heap_pair (Kd.heap_int .i64) Kd.heap_bool)))
theorem k33_open {w : World} {x : S33} {cs : List Value} (h : k33.K w x cs) : cs = [.bool x.f0, .bool x.f1, .int .i64 x.f2, .bool x.f3] := by
 obtain ⟨_, _, rfl, rfl, ⟨_, _, rfl, rfl, ⟨_, _, rfl, rfl, rfl⟩⟩⟩ := h
 exact rfl
theorem k33_openM {w : World} {base : Nat} {ok : Nat → Prop} {x : S33} {cs : List Value} (h : k33.M w base ok x cs) : cs = [.bool x.f0, .bool x.f1, .int .i64 x.f2, .bool x.f3] := by
 obtain ⟨_, _, rfl, rfl, ⟨_, _, rfl, rfl, ⟨_, _, rfl, rfl, rfl⟩⟩⟩ := h
 exact rfl
theorem k33_mk (w : World) (x : S33)  : k33.K w x [.bool x.f0, .bool x.f1, .int .i64 x.f2, .bool x.f3] := ⟨[.bool x.f0], [.bool x.f1, .int .i64 x.f2, .bool x.f3], rfl, rfl, ⟨[.bool x.f1], [.int .i64 x.f2, .bool x.f3], rfl, rfl, ⟨[.int .i64 x.f2], [.bool x.f3], rfl, rfl, rfl⟩⟩⟩
theorem k33_mkM (w : World) (base : Nat) (ok : Nat → Prop) (x : S33)  : k33.M w base ok x [.bool x.f0, .bool x.f1, .int .i64 x.f2, .bool x.f3] := ⟨[.bool x.f0], [.bool x.f1, .int .i64 x.f2, .bool x.f3], rfl, rfl, ⟨[.bool x.f1], [.int .i64 x.f2, .bool x.f3], rfl, rfl, ⟨[.int .i64 x.f2], [.bool x.f3], rfl, rfl, rfl⟩⟩⟩
theorem k33_mkF (W : World) (ok : Nat → Prop) (x : S33) : Kd.FK k33 W ok x [.bool x.f0, .bool x.f1, .int .i64 x.f2, .bool x.f3] := fun W2 _ => k33_mk W2 x
def rd_T33 (xs : List S33) (i : Int) : S33 := xs.getD i.toNat z33
theorem at_T33 {w : World} {A : Option Addr} {n : Nat} {xs : List S33} (h : Kd.C k33 w A n xs) (i : Int) (h0 : 0 ≤ i) (h1 : i < n) : ∃ ad , A = some ad ∧ w.cell? (ad.add (i.toNat * 4)) = some (.bool (rd_T33 xs i).f0) ∧ w.cell? ⟨(ad.add (i.toNat * 4)).block, (ad.add (i.toNat * 4)).off + 1, none⟩ = some (.bool (rd_T33 xs i).f1) ∧ w.cell? ⟨(ad.add (i.toNat * 4)).block, (ad.add (i.toNat * 4)).off + 2, none⟩ = some (.int .i64 (rd_T33 xs i).f2) ∧ w.cell? ⟨(ad.add (i.toNat * 4)).block, (ad.add (i.toNat * 4)).off + 3, none⟩ = some (.bool (rd_T33 xs i).f3) := by
 obtain ⟨ad, c, e, _, hK, hc0⟩ := Kd.C_get h z33 i h0 h1
 have hc : ∀ j u, c[j]? = some u → w.cell? (ad.add (i.toNat * 4 + j)) = some u := hc0
 obtain rfl := k33_open hK
 exact ⟨ad, e, hc 0 _ rfl, by rw [← add_field _ _ 1 (by omega)]; exact hc 1 _ rfl, by rw [← add_field _ _ 2 (by omega)]; exact hc 2 _ rfl, by rw [← add_field _ _ 3 (by omega)]; exact hc 3 _ rfl⟩
structure S35 where
 f0 : Bool
 f1 : S33
 f2 : Int
def z35 : S35 := ⟨false, z33, (0 : Int)⟩
def k35 : Kd S35 := Kd.iso (Kd.pair Kd.bool (Kd.pair k33 (Kd.int .u8))) (fun x : S35 => (x.f0, x.f1, x.f2))
theorem k35_heap : Kd.Heap k35 := Kd.heap_iso _ (Kd.heap_pair Kd.heap_bool (Kd.heap_pair k33_heap (Kd.heap_int .u8)))
theorem k35_open {w : World} {x : S35} {cs : List Value} (h : k35.K w x cs) : cs = [.bool x.f0, .bool x.f1.f0, .bool x.f1.f1, .int .i64 x.f1.f2, .bool x.f1.f3, .int .u8 x.f2] := by
 obtain ⟨_, _, rfl, rfl, ⟨_, _, rfl, s1, rfl⟩⟩ := h
 obtain rfl := k33_open s1
 exact rfl
theorem k35_openM {w : World} {base : Nat} {ok : Nat → Prop} {x : S35} {cs : List Value} (h : k35.M w base ok x cs) : cs = [.bool x.f0, .bool x.f1.f0, .bool x.f1.f1, .int .i64 x.f1.f2, .bool x.f1.f3, .int .u8 x.f2] := by
 obtain ⟨_, _, rfl, rfl, ⟨_, _, rfl, s1, rfl⟩⟩ := h
 obtain rfl := k33_openM s1
 exact rfl
theorem k35_mk (w : World) (x : S35)  : k35.K w x [.bool x.f0, .bool x.f1.f0, .bool x.f1.f1, .int .i64 x.f1.f2, .bool x.f1.f3, .int .u8 x.f2] := ⟨[.bool x.f0], [.bool x.f1.f0, .bool x.f1.f1, .int .i64 x.f1.f2, .bool x.f1.f3, .int .u8 x.f2], rfl, rfl, ⟨[.bool x.f1.f0, .bool x.f1.f1, .int .i64 x.f1.f2, .bool x.f1.f3], [.int .u8 x.f2], rfl, (k33_mk w x.f1 ), rfl⟩⟩
theorem k35_mkM (w : World) (base : Nat) (ok : Nat → Prop) (x : S35)  : k35.M w base ok x [.bool x.f0, .bool x.f1.f0, .bool x.f1.f1, .int .i64 x.f1.f2, .bool x.f1.f3, .int .u8 x.f2] := ⟨[.bool x.f0], [.bool x.f1.f0, .bool x.f1.f1, .int .i64 x.f1.f2, .bool x.f1.f3, .int .u8 x.f2], rfl, rfl, ⟨[.bool x.f1.f0, .bool x.f1.f1, .int .i64 x.f1.f2, .bool x.f1.f3], [.int .u8 x.f2], rfl, (k33_mkM w base ok x.f1 ), rfl⟩⟩
theorem k35_mkF (W : World) (ok : Nat → Prop) (x : S35) : Kd.FK k35 W ok x [.bool x.f0, .bool x.f1.f0, .bool x.f1.f1, .int .i64 x.f1.f2, .bool x.f1.f3, .int .u8 x.f2] := fun W2 _ => k35_mk W2 x
def rd_T35 (xs : List S35) (i : Int) : S35 := xs.getD i.toNat z35
theorem at_T35 {w : World} {A : Option Addr} {n : Nat} {xs : List S35} (h : Kd.C k35 w A n xs) (i : Int) (h0 : 0 ≤ i) (h1 : i < n) : ∃ ad , A = some ad ∧ w.cell? (ad.add (i.toNat * 6)) = some (.bool (rd_T35 xs i).f0) ∧ w.cell? ⟨(ad.add (i.toNat * 6)).block, (ad.add (i.toNat * 6)).off + 1, none⟩ = some (.bool (rd_T35 xs i).f1.f0) ∧ w.cell? ⟨(ad.add (i.toNat * 6)).block, (ad.add (i.toNat * 6)).off + 2, none⟩ = some (.bool (rd_T35 xs i).f1.f1) ∧ w.cell? ⟨(ad.add (i.toNat * 6)).block, (ad.add (i.toNat * 6)).off + 3, none⟩ = some (.int .i64 (rd_T35 xs i).f1.f2) ∧ w.cell? ⟨(ad.add (i.toNat * 6)).block, (ad.add (i.toNat * 6)).off + 4, none⟩ = some (.bool (rd_T35 xs i).f1.f3) ∧ w.cell? ⟨(ad.add (i.toNat * 6)).block, (ad.add (i.toNat * 6)).off + 5, none⟩ = some (.int .u8 (rd_T35 xs i).f2) := by
 obtain ⟨ad, c, e, _, hK, hc0⟩ := Kd.C_get h z35 i h0 h1
 have hc : ∀ j u, c[j]? = some u → w.cell? (ad.add (i.toNat * 6 + j)) = some u := hc0
 obtain rfl := k35_open hK
 exact ⟨ad, e, hc 0 _ rfl, by rw [← add_field _ _ 1 (by omega)]; exact hc 1 _ rfl, by rw [← add_field _ _ 2 (by omega)]; exact hc 2 _ rfl, by rw [← add_field _ _ 3 (by omega)]; exact hc 3 _ rfl, by rw [← add_field _ _ 4 (by omega)]; exact hc 4 _ rfl, by rw [← add_field _ _ 5 (by omega)]; exact hc 5 _ rfl⟩
structure S164 where
 f0 : Int
 f1 : Int
def z164 : S164 := ⟨(0 : Int), (0 : Int)⟩
def k164 : Kd S164 := Kd.iso (Kd.pair (Kd.int .i64) kern) (fun x : S164 => (x.f0, x.f1))
theorem k164_heap : Kd.Heap k164 := Kd.heap_iso _ (Kd.heap_pair (Kd.heap_int .i64) kern_heap)
theorem k164_open {w : World} {x : S164} {cs : List Value} (h : k164.K w x cs) : cs = [.int .i64 x.f0, .iface ERNT (.int .i64 x.f1)] := by
 obtain ⟨_, _, rfl, rfl, rfl⟩ := h
 exact rfl
theorem k164_openM {w : World} {base : Nat} {ok : Nat → Prop} {x : S164} {cs : List Value} (h : k164.M w base ok x cs) : cs = [.int .i64 x.f0, .iface ERNT (.int .i64 x.f1)] := by
 obtain ⟨_, _, rfl, rfl, rfl⟩ := h
 exact rfl
theorem k164_mk (w : World) (x : S164)  : k164.K w x [.int .i64 x.f0, .iface ERNT (.int .i64 x.f1)] := ⟨[.int .i64 x.f0], [.iface ERNT (.int .i64 x.f1)], rfl, rfl, rfl⟩
theorem k164_mkM (w : World) (base : Nat) (ok : Nat → Prop) (x : S164)  : k164.M w base ok x [.int .i64 x.f0, .iface ERNT (.int .i64 x.f1)] := ⟨[.int .i64 x.f0], [.iface ERNT (.int .i64 x.f1)], rfl, rfl, rfl⟩
theorem k164_mkF (W : World) (ok : Nat → Prop) (x : S164) : Kd.FK k164 W ok x [.int .i64 x.f0, .iface ERNT (.int .i64 x.f1)] := fun W2 _ => k164_mk W2 x
def rd_T164 (xs : List S164) (i : Int) : S164 := xs.getD i.toNat z164
theorem at_T164 {w : World} {A : Option Addr} {n : Nat} {xs : List S164} (h : Kd.C k164 w A n xs) (i : Int) (h0 : 0 ≤ i) (h1 : i < n) : ∃ ad , A = some ad ∧ w.cell? (ad.add (i.toNat * 2)) = some (.int .i64 (rd_T164 xs i).f0) ∧ w.cell? ⟨(ad.add (i.toNat * 2)).block, (ad.add (i.toNat * 2)).off + 1, none⟩ = some (.iface ERNT (.int .i64 (rd_T164 xs i).f1)) := by
 obtain ⟨ad, c, e, _, hK, hc0⟩ := Kd.C_get h z164 i h0 h1
 have hc : ∀ j u, c[j]? = some u → w.cell? (ad.add (i.toNat * 2 + j)) = some u := hc0
 obtain rfl := k164_open hK
 exact ⟨ad, e, hc 0 _ rfl, by rw [← add_field _ _ 1 (by omega)]; exact hc 1 _ rfl⟩
class PeelW (W1 : World) (W : outParam World) : Prop where
 bel : Below W.heap.size W W1
instance (W : World) (o : Obj) : PeelW (W.alloc o) W := ⟨below_alloc (Below.refl _ _) o⟩
instance (W : World) (n : Nat) : PeelW (W.drewN n) W := ⟨pw_below_drewN (Below.refl _ _) n⟩
instance (W : World) : PeelW W.drew W := ⟨below_drew (Below.refl _ _)⟩
theorem pK {W W1 : World} {g : Nat} {o : Obj} [p : PeelW W1 W] (h : W.heap[g]? = some o) : W1.heap[g]? = some o := blk_below h p.bel
theorem pL {w W W1 : World} [p : PeelW W1 W] (h : Below w.heap.size w W) : Below w.heap.size w W1 := below_step h p.bel
theorem pV {α : Type} {d : Kd α} {e base : Nat} {ok : Nat → Prop} {v : Value} {xs : List α} {W W1 : World} [p : PeelW W1 W] (h : Kd.V d e W base ok v xs) : Kd.V d e W1 base ok v xs := Kd.V_below h p.bel
theorem pR {α : Type} {d : Kd α} {e base : Nat} {ok : Nat → Prop} {v : Value} {xs : List α} {W W1 : World} [p : PeelW W1 W] (h : Kd.R d e W base ok v xs) : Kd.R d e W1 base ok v xs := Kd.R_below h p.bel
theorem pN {α : Type} {d : Kd α} {e base : Nat} {ok : Nat → Prop} {v : Value} {xs : List α} {W W1 : World} [p : PeelW W1 W] (h : Kd.N d e W base ok v xs) : Kd.N d e W1 base ok v xs := Kd.N_below h p.bel
theorem pS {α : Type} {d : Kd α} {e base : Nat} {ok : Nat → Prop} {v : Value} {xs : List α} {W W1 : World} [p : PeelW W1 W] (h : Kd.S d e W base ok v xs) : Kd.S d e W1 base ok v xs := Kd.S_below h p.bel
theorem pC {α : Type} {d : Kd α} {A : Option Addr} {n : Nat} {xs : List α} {W W1 : World} [p : PeelW W1 W] (h : Kd.C d W A n xs) : Kd.C d W1 A n xs := Kd.C_below h p.bel
theorem bl_ {P : Prop} (h : P := by repeat (first | (with_reducible first | exact Aside0.out (by with_reducible assumption) | apply pL | refine below_set ?_ (Aside0.out (by assumption))) | exact Aside0.out (by assumption))) : P := h
theorem le_new {g n b : Nat} (h : g = n) (hb : b ≤ n) : b ≤ g := h ▸ hb
theorem argsR {A B : Prop} (h : A → B) (a : A) : B := h a
theorem off_ {P : Prop} (h : P := by intro k hk; repeat (first | rfl | refine (Below.heap_setCell _ _ _ k hk).trans ?_)) : P := h
theorem R_off {α : Type} {d : Kd α} {e base : Nat} {ok : Nat → Prop} {v : Value} {xs : List α} {w w1 : World} {g t : Nat} {cells : Array Value} (h : Kd.R d e w base ok v xs) (hb : w.heap[g]? = some (.cells cells t (0, 0))) (ht : ∀ q, q ∈ e :: d.E → q ≠ t) (hm : ∀ k, k ≠ g → w1.heap[k]? = w.heap[k]?) : Kd.R d e w1 base ok v xs :=
 Kd.R_mono (Kd.R_step (Kd.R_types h hb ht) (fun k hk _ => hm k hk.2)) (fun _ hk => hk.1)
theorem blk_off {w w1 : World} {g g2 : Nat} {o : Obj} (h : w.heap[g2]? = some o) (ne : g2 ≠ g) (hm : ∀ k, k ≠ g → w1.heap[k]? = w.heap[k]?) : w1.heap[g2]? = some o := (hm g2 ne).trans h
theorem cells1 {W : World} {g : Nat} {t : TypeId} {a0 : Value} (h : W.heap[g]? = some (.cells #[a0] t (0, 0))) : W.cell? ⟨g, 0, none⟩ = some a0 ∧ W.frozen? ⟨g, 0, none⟩ = false := ⟨(blk_cell h 0).trans rfl, blk_frozen h 0⟩
theorem cells2 {W : World} {g : Nat} {t : TypeId} {a0 a1 : Value} (h : W.heap[g]? = some (.cells #[a0, a1] t (0, 0))) : W.cell? ⟨g, 0, none⟩ = some a0 ∧ W.cell? ⟨g, 1, none⟩ = some a1 ∧ W.frozen? ⟨g, 0, none⟩ = false ∧ W.frozen? ⟨g, 1, none⟩ = false := ⟨(blk_cell h 0).trans rfl, (blk_cell h 1).trans rfl, blk_frozen h 0, blk_frozen h 1⟩
theorem cells3 {W : World} {g : Nat} {t : TypeId} {a0 a1 a2 : Value} (h : W.heap[g]? = some (.cells #[a0, a1, a2] t (0, 0))) : W.cell? ⟨g, 0, none⟩ = some a0 ∧ W.cell? ⟨g, 1, none⟩ = some a1 ∧ W.cell? ⟨g, 2, none⟩ = some a2 ∧ W.frozen? ⟨g, 0, none⟩ = false ∧ W.frozen? ⟨g, 1, none⟩ = false ∧ W.frozen? ⟨g, 2, none⟩ = false := ⟨(blk_cell h 0).trans rfl, (blk_cell h 1).trans rfl, (blk_cell h 2).trans rfl, blk_frozen h 0, blk_frozen h 1, blk_frozen h 2⟩
theorem cells4 {W : World} {g : Nat} {t : TypeId} {a0 a1 a2 a3 : Value} (h : W.heap[g]? = some (.cells #[a0, a1, a2, a3] t (0, 0))) : W.cell? ⟨g, 0, none⟩ = some a0 ∧ W.cell? ⟨g, 1, none⟩ = some a1 ∧ W.cell? ⟨g, 2, none⟩ = some a2 ∧ W.cell? ⟨g, 3, none⟩ = some a3 ∧ W.frozen? ⟨g, 0, none⟩ = false ∧ W.frozen? ⟨g, 1, none⟩ = false ∧ W.frozen? ⟨g, 2, none⟩ = false ∧ W.frozen? ⟨g, 3, none⟩ = false := ⟨(blk_cell h 0).trans rfl, (blk_cell h 1).trans rfl, (blk_cell h 2).trans rfl, (blk_cell h 3).trans rfl, blk_frozen h 0, blk_frozen h 1, blk_frozen h 2, blk_frozen h 3⟩
theorem cells5 {W : World} {g : Nat} {t : TypeId} {a0 a1 a2 a3 a4 : Value} (h : W.heap[g]? = some (.cells #[a0, a1, a2, a3, a4] t (0, 0))) : W.cell? ⟨g, 0, none⟩ = some a0 ∧ W.cell? ⟨g, 1, none⟩ = some a1 ∧ W.cell? ⟨g, 2, none⟩ = some a2 ∧ W.cell? ⟨g, 3, none⟩ = some a3 ∧ W.cell? ⟨g, 4, none⟩ = some a4 ∧ W.frozen? ⟨g, 0, none⟩ = false ∧ W.frozen? ⟨g, 1, none⟩ = false ∧ W.frozen? ⟨g, 2, none⟩ = false ∧ W.frozen? ⟨g, 3, none⟩ = false ∧ W.frozen? ⟨g, 4, none⟩ = false := ⟨(blk_cell h 0).trans rfl, (blk_cell h 1).trans rfl, (blk_cell h 2).trans rfl, (blk_cell h 3).trans rfl, (blk_cell h 4).trans rfl, blk_frozen h 0, blk_frozen h 1, blk_frozen h 2, blk_frozen h 3, blk_frozen h 4⟩
theorem cells6 {W : World} {g : Nat} {t : TypeId} {a0 a1 a2 a3 a4 a5 : Value} (h : W.heap[g]? = some (.cells #[a0, a1, a2, a3, a4, a5] t (0, 0))) : W.cell? ⟨g, 0, none⟩ = some a0 ∧ W.cell? ⟨g, 1, none⟩ = some a1 ∧ W.cell? ⟨g, 2, none⟩ = some a2 ∧ W.cell? ⟨g, 3, none⟩ = some a3 ∧ W.cell? ⟨g, 4, none⟩ = some a4 ∧ W.cell? ⟨g, 5, none⟩ = some a5 ∧ W.frozen? ⟨g, 0, none⟩ = false ∧ W.frozen? ⟨g, 1, none⟩ = false ∧ W.frozen? ⟨g, 2, none⟩ = false ∧ W.frozen? ⟨g, 3, none⟩ = false ∧ W.frozen? ⟨g, 4, none⟩ = false ∧ W.frozen? ⟨g, 5, none⟩ = false := ⟨(blk_cell h 0).trans rfl, (blk_cell h 1).trans rfl, (blk_cell h 2).trans rfl, (blk_cell h 3).trans rfl, (blk_cell h 4).trans rfl, (blk_cell h 5).trans rfl, blk_frozen h 0, blk_frozen h 1, blk_frozen h 2, blk_frozen h 3, blk_frozen h 4, blk_frozen h 5⟩
theorem cells7 {W : World} {g : Nat} {t : TypeId} {a0 a1 a2 a3 a4 a5 a6 : Value} (h : W.heap[g]? = some (.cells #[a0, a1, a2, a3, a4, a5, a6] t (0, 0))) : W.cell? ⟨g, 0, none⟩ = some a0 ∧ W.cell? ⟨g, 1, none⟩ = some a1 ∧ W.cell? ⟨g, 2, none⟩ = some a2 ∧ W.cell? ⟨g, 3, none⟩ = some a3 ∧ W.cell? ⟨g, 4, none⟩ = some a4 ∧ W.cell? ⟨g, 5, none⟩ = some a5 ∧ W.cell? ⟨g, 6, none⟩ = some a6 ∧ W.frozen? ⟨g, 0, none⟩ = false ∧ W.frozen? ⟨g, 1, none⟩ = false ∧ W.frozen? ⟨g, 2, none⟩ = false ∧ W.frozen? ⟨g, 3, none⟩ = false ∧ W.frozen? ⟨g, 4, none⟩ = false ∧ W.frozen? ⟨g, 5, none⟩ = false ∧ W.frozen? ⟨g, 6, none⟩ = false := ⟨(blk_cell h 0).trans rfl, (blk_cell h 1).trans rfl, (blk_cell h 2).trans rfl, (blk_cell h 3).trans rfl, (blk_cell h 4).trans rfl, (blk_cell h 5).trans rfl, (blk_cell h 6).trans rfl, blk_frozen h 0, blk_frozen h 1, blk_frozen h 2, blk_frozen h 3, blk_frozen h 4, blk_frozen h 5, blk_frozen h 6⟩
theorem cells8 {W : World} {g : Nat} {t : TypeId} {a0 a1 a2 a3 a4 a5 a6 a7 : Value} (h : W.heap[g]? = some (.cells #[a0, a1, a2, a3, a4, a5, a6, a7] t (0, 0))) : W.cell? ⟨g, 0, none⟩ = some a0 ∧ W.cell? ⟨g, 1, none⟩ = some a1 ∧ W.cell? ⟨g, 2, none⟩ = some a2 ∧ W.cell? ⟨g, 3, none⟩ = some a3 ∧ W.cell? ⟨g, 4, none⟩ = some a4 ∧ W.cell? ⟨g, 5, none⟩ = some a5 ∧ W.cell? ⟨g, 6, none⟩ = some a6 ∧ W.cell? ⟨g, 7, none⟩ = some a7 ∧ W.frozen? ⟨g, 0, none⟩ = false ∧ W.frozen? ⟨g, 1, none⟩ = false ∧ W.frozen? ⟨g, 2, none⟩ = false ∧ W.frozen? ⟨g, 3, none⟩ = false ∧ W.frozen? ⟨g, 4, none⟩ = false ∧ W.frozen? ⟨g, 5, none⟩ = false ∧ W.frozen? ⟨g, 6, none⟩ = false ∧ W.frozen? ⟨g, 7, none⟩ = false := ⟨(blk_cell h 0).trans rfl, (blk_cell h 1).trans rfl, (blk_cell h 2).trans rfl, (blk_cell h 3).trans rfl, (blk_cell h 4).trans rfl, (blk_cell h 5).trans rfl, (blk_cell h 6).trans rfl, (blk_cell h 7).trans rfl, blk_frozen h 0, blk_frozen h 1, blk_frozen h 2, blk_frozen h 3, blk_frozen h 4, blk_frozen h 5, blk_frozen h 6, blk_frozen h 7⟩
theorem ag_ {P : Prop} (h : P := by (try simp only [List.map_toArray, List.map_cons, List.map_nil]); first | done | rfl | (simp only [List.length_drop, List.length_take]; rfl)) : P := h
theorem Z {p : Prop} (h : p) : Aside0 p := ⟨h⟩
theorem set_far_ {w w0 : World} {g i k : Nat} {u : Value} (hk : k ≠ g) (h : w.heap[k]? = w0.heap[k]?) : (w.setCell ⟨g, i, none⟩ u).heap[k]? = w0.heap[k]? := (Below.heap_setCell _ _ _ k hk).trans h
theorem off2_ {P : Prop} (h : P := by intro k hk; (with_reducible repeat refine set_far_ hk ?_); with_reducible rfl) : P := h
theorem V_off {α : Type} {d : Kd α} {e base : Nat} {ok ok' : Nat → Prop} {v : Value} {xs : List α} {w w1 : World} {g : Nat} (h : Kd.V d e w base ok v xs) (hne : ∀ k, ok k → k ≠ g) (hm : ∀ k, k ≠ g → w1.heap[k]? = w.heap[k]?) (ho : ∀ k, ok k → ok' k) : Kd.V d e w1 base ok' v xs := Kd.V_mono (Kd.V_step h (fun k hk _ => hm k (hne k hk))) ho
theorem put6 {w : World} {g : Nat} {t : TypeId} {a0 a1 a2 a3 a4 a5 b0 b1 b2 b3 b4 b5 : Value} (h : w.heap[g]? = some (.cells #[b0, b1, b2, b3, b4, b5] t (0, 0))) : ((((((w.setCell ⟨g, 0, none⟩ a0).setCell ⟨g, 1, none⟩ a1).setCell ⟨g, 2, none⟩ a2).setCell ⟨g, 3, none⟩ a3).setCell ⟨g, 4, none⟩ a4).setCell ⟨g, 5, none⟩ a5).heap[g]? = some (.cells #[a0, a1, a2, a3, a4, a5] t (0, 0)) := by
 refine blk_put (cs := #[a0, a1, a2, a3, a4, b5]) ?_ 5 _ rfl
 refine blk_put (cs := #[a0, a1, a2, a3, b4, b5]) ?_ 4 _ rfl
 refine blk_put (cs := #[a0, a1, a2, b3, b4, b5]) ?_ 3 _ rfl
 refine blk_put (cs := #[a0, a1, b2, b3, b4, b5]) ?_ 2 _ rfl
 refine blk_put (cs := #[a0, b1, b2, b3, b4, b5]) ?_ 1 _ rfl
 exact blk_put (cs := #[b0, b1, b2, b3, b4, b5]) h 0 _ rfl
class Peels (W1 W : World) : Prop where
 bel : Below W.heap.size W W1
instance (W : World) : Peels W W := ⟨Below.refl _ _⟩
instance {W1 W : World} [p : Peels W1 W] (o : Obj) : Peels (W1.alloc o) W := ⟨below_alloc p.bel o⟩
instance {W1 W : World} [p : Peels W1 W] (n : Nat) : Peels (W1.drewN n) W := ⟨pw_below_drewN p.bel n⟩
instance {W1 W : World} [p : Peels W1 W] : Peels W1.drew W := ⟨below_drew p.bel⟩
theorem rb {α : Type} {d : Kd α} {e base : Nat} {ok : Nat → Prop} {v : Value} {xs : List α} {W W1 W2 : World} [p : Peels W1 W] (h : Kd.R d e W base ok v xs) (hb : Below W1.heap.size W1 W2) : Kd.R d e W2 base ok v xs := Kd.R_below (Kd.R_below h p.bel) hb
theorem vb {α : Type} {d : Kd α} {e base : Nat} {ok : Nat → Prop} {v : Value} {xs : List α} {W W1 W2 : World} [p : Peels W1 W] (h : Kd.V d e W base ok v xs) (hb : Below W1.heap.size W1 W2) : Kd.V d e W2 base ok v xs := Kd.V_below (Kd.V_below h p.bel) hb
theorem ve {α : Type} {d : Kd α} {e base g : Nat} {ok : Nat → Prop} {v : Value} {xs : List α} {W W1 W2 : World} [p : Peels W1 W] (h : Kd.V d e W base ok v xs) (hg : g = W1.heap.size) (hb : Below W1.heap.size W1 W2) : Kd.V d e W2 base (fun k => ok k ∧ k ≠ g) v xs := Kd.V_below (Kd.V_elderB (Kd.V_below h p.bel) g (Nat.le_of_eq hg.symm)) hb
theorem kb {W W1 W2 : World} {g : Nat} {o : Obj} [p : Peels W1 W] (h : W.heap[g]? = some o) (hb : Below W1.heap.size W1 W2) : W2.heap[g]? = some o := blk_below (blk_below h p.bel) hb
theorem nl {W W1 : World} {g g2 : Nat} {o : Obj} [p : Peels W1 W] (h : W.heap[g]? = some o) (hg : g2 = W1.heap.size) : g ≠ g2 := by rw [hg]; exact Nat.ne_of_lt (blk_lt (blk_below h p.bel))
theorem ng {W W1 : World} {g g2 : Nat} {o : Obj} [p : Peels W1 W] (h : W.heap[g]? = some o) (hg : g2 = W1.heap.size) : g2 ≠ g := (nl h hg).symm
theorem fb {W W1 : World} {g : Nat} {o : Obj} [p : Peels W1 W] (h : W.heap[g]? = some o) : ∀ k, W1.heap.size ≤ k → k ≠ g := Kd.freshB (blk_below h p.bel)
def bv (n m : Nat) : Array Bool := ((List.range n).map (fun i => m.testBit i)).toArray
theorem sA {α : Type _} (l : List α) (i : Nat) (x : α) : l.toArray.setIfInBounds i x = (l.set i x).toArray := List.setIfInBounds_toArray l i x
theorem sB {α : Type _} (b a : α) (l : List α) : (b :: l).set 0 a = a :: l := List.set_cons_zero
theorem sC {α : Type _} (b : α) (l : List α) (n : Nat) (a : α) : (b :: l).set (n + 1) a = b :: l.set n a := List.set_cons_succ
theorem bk_ (w : World) (a : Addr) {v : Value} (h : w.cell? a = some v) : a.block < w.heap.size := World.block_lt_of_cell? w a h
theorem od_ {p : Prop} [Decidable p] (h : decide p = true := by first | (with_reducible assumption) | assumption) : p := of_decide_eq_true h
section
variable {P : Program} {md : Region.Mode} {ops : Array Oper} {Q : Exit → Act → World → Prop} {S : World → Prop} {ds : List Nat} {T : Bool × List (List Nat × List Nat)} {oi : Oper} {v : Value} {fuel : Nat} {l : Array Bool} {a a' : Act} {w : World}
theorem pA_ (i n m : Nat) (N : Option Tmp) (h : wpAnyLast P md ops Q S ds fuel (bv n m) a' w) (hi : ops[i]? = some oi := by exact rfl) (hN : oi.dst = N := by exact rfl) (hc : anyB md ops l (bv n m) i = true := by kernel_rfl)
    (hQ : ∀ c a w, Q (.panic c) (a.put oi.dst v) w → Q (.panic c) a w := by exact fun _ _ _ h => h) (hw : Region.wanted oi (yielded ops a.tmps) = true := by rfl) (hy : ∀ w, (execOp a.eval oi).run P w = .ok (.value v) w := by intro w'; go_simp; with_reducible rfl)
    (ha : a.put N v = a' := by simp only [Act.put, sA, sB, sC, i64_w, i32_w]; rfl) : wpAnyLast P md ops Q S ds (fuel + 1) l a w := pure_ (bv n m) hi hN hc hQ (Or.inl ⟨hw, hy⟩) ha h
theorem pT_ (HT : Aside0 (rtab md ops = T)) (i n m : Nat) (N : Option Tmp) (h : wpAnyLast P md ops Q S ds fuel (bv n m) a' w) (hi : ops[i]? = some oi := by exact rfl) (hN : oi.dst = N := by exact rfl) (hc : anyT T l.toList (bv n m).toList i = true := by kernel_rfl)
    (hQ : ∀ c a w, Q (.panic c) (a.put oi.dst v) w → Q (.panic c) a w := by exact fun _ _ _ h => h) (hw : Region.wanted oi (yielded ops a.tmps) = true := by rfl) (hy : ∀ w, (execOp a.eval oi).run P w = .ok (.value v) w := by intro w'; go_simp; with_reducible rfl)
    (ha : a.put N v = a' := by simp only [Act.put, sA, sB, sC, i64_w, i32_w]; rfl) : wpAnyLast P md ops Q S ds (fuel + 1) l a w := pure_ (bv n m) hi hN (any_of HT.out hc) hQ (Or.inl ⟨hw, hy⟩) ha h
theorem pU_ (HT : Aside0 (rtab md ops = T)) (i n m : Nat) (N : Option Tmp) (h : wpAnyLast P md ops Q S ds fuel (bv n m) a' w) (hi : ops[i]? = some oi := by exact rfl) (hN : oi.dst = N := by exact rfl) (hc : anyT T l.toList (bv n m).toList i = true := by kernel_rfl)
    (hQ : ∀ c a w, Q (.panic c) (a.put oi.dst undef) w → Q (.panic c) a w := by exact fun _ _ _ h => h) (hw : Region.wanted oi (yielded ops a.tmps) = false := by rfl)
    (ha : a.put N undef = a' := by simp only [Act.put, sA, sB, sC, i64_w, i32_w]; rfl) : wpAnyLast P md ops Q S ds (fuel + 1) l a w := pure_ (bv n m) hi hN (any_of HT.out hc) hQ (Or.inr ⟨hw, rfl⟩) ha h
theorem tA_ (hS : S w) (i n m : Nat) (N : Option Tmp) (h : wpAnyLast P md ops Q S ds fuel (bv n m) a' w) (hi : ops[i]? = some oi := by exact rfl) (hN : oi.dst = N := by exact rfl) (hc : takeB md ops ds l (bv n m) i = true := by kernel_rfl)
    (hQ : ∀ c a w, Q (.panic c) (a.put oi.dst v) w → Q (.panic c) a w := by exact fun _ _ _ h => h) (hw : Region.wanted oi (yielded ops a.tmps) = true := by rfl) (hy : ∀ w, S w → (execOp a.eval oi).run P w = .ok (.value v) w := by intro w' hs_; (repeat (have hl_ := hs_.1; replace hs_ := hs_.2)); go_simp; with_reducible rfl)
    (ha : a.put N v = a' := by simp only [Act.put, sA, sB, sC, i64_w, i32_w]; rfl) : wpAnyLast P md ops Q S ds (fuel + 1) l a w := take_ (bv n m) hi hN hc hQ (Or.inl ⟨hw, hy⟩) hS ha h
theorem tT_ {B : List Nat} (HT : Aside0 (rtab md ops = T)) (HW : Aside0 (waitsOk T.2 B = true)) (hS : S w) (i n m : Nat) (N : Option Tmp) (h : wpAnyLast P md ops Q S ds fuel (bv n m) a' w) (hi : ops[i]? = some oi := by exact rfl) (hN : oi.dst = N := by exact rfl) (hc : takeW T B ds l.toList (bv n m).toList i = true := by kernel_rfl)
    (hQ : ∀ c a w, Q (.panic c) (a.put oi.dst v) w → Q (.panic c) a w := by exact fun _ _ _ h => h) (hw : Region.wanted oi (yielded ops a.tmps) = true := by rfl) (hy : ∀ w, S w → (execOp a.eval oi).run P w = .ok (.value v) w := by intro w' hs_; (repeat (have hl_ := hs_.1; replace hs_ := hs_.2)); go_simp; with_reducible rfl)
    (ha : a.put N v = a' := by simp only [Act.put, sA, sB, sC, i64_w, i32_w]; rfl) : wpAnyLast P md ops Q S ds (fuel + 1) l a w := take_ (bv n m) hi hN (take_ofW HT.out HW.out hc) hQ (Or.inl ⟨hw, hy⟩) hS ha h
theorem oT_ (HT : Aside0 (rtab md ops = T)) (i n m : Nat) (N : Option Tmp) (h : ∀ K : Act → World → Prop, Shut (∀ a' w', S w' → (S w' → wpAnyLast P md ops Q S ds fuel (bv n m) a' w') → K a' w') → if Region.wanted oi (yielded ops a.tmps) = true then Oper.wp P oi a w K Q else K (a.put N undef) w)
    (hi : ops[i]? = some oi := by exact rfl) (hN : oi.dst = N := by exact rfl) (hc : (readyT T.2 l.toList == [i] && l.toList.set i true == (bv n m).toList) = true := by kernel_rfl) (hd : i ∉ ds := by decide) : wpAnyLast P md ops Q S ds (fuel + 1) l a w := one_ (bv n m) hi hN (one_of HT.out hc) hd h
theorem nA_ (N : Option Tmp) (h : wpAnyLast P md ops Q S ds fuel l a' w) (ha : a.put N v = a' := by simp only [Act.put, sA, sB, sC, i64_w, i32_w]; rfl) : wpAnyLast P md ops Q S ds fuel l (a.put N v) w := norm_ ha h
end
theorem kb' {W W1 W2 : World} {g : Nat} {o : Obj} [p : Peels W1 W] (h : Aside0 (W.heap[g]? = some o)) (hb : Below W1.heap.size W1 W2) : Aside0 (W2.heap[g]? = some o) := ⟨kb h.out hb⟩
theorem rb' {α : Type} {d : Kd α} {e base : Nat} {ok : Nat → Prop} {v : Value} {xs : List α} {W W1 W2 : World} [p : Peels W1 W] (h : Aside0 (Kd.R d e W base ok v xs)) (hb : Below W1.heap.size W1 W2) : Aside0 (Kd.R d e W2 base ok v xs) := ⟨rb h.out hb⟩
theorem vb' {α : Type} {d : Kd α} {e base : Nat} {ok : Nat → Prop} {v : Value} {xs : List α} {W W1 W2 : World} [p : Peels W1 W] (h : Aside0 (Kd.V d e W base ok v xs)) (hb : Below W1.heap.size W1 W2) : Aside0 (Kd.V d e W2 base ok v xs) := ⟨vb h.out hb⟩
theorem nl' {W W1 : World} {g g2 : Nat} {o : Obj} [p : Peels W1 W] (h : Aside0 (W.heap[g]? = some o)) (hg : g2 = W1.heap.size) : Aside0 (g ≠ g2) := ⟨nl h.out hg⟩
theorem ng' {W W1 : World} {g g2 : Nat} {o : Obj} [p : Peels W1 W] (h : Aside0 (W.heap[g]? = some o)) (hg : g2 = W1.heap.size) : Aside0 (g2 ≠ g) := ⟨ng h.out hg⟩
theorem eT_ {α : Type} [BEq α] [LawfulBEq α] {a b : α} (h : a = b) : (a == b) = true ∧ (a != b) = false := ⟨beq_iff_eq.mpr h, bne_eq_false_iff_eq.mpr h⟩
theorem eF_ {α : Type} [BEq α] [LawfulBEq α] {a b : α} (h : ¬a = b) : (a == b) = false ∧ (a != b) = true := ⟨beq_eq_false_iff_ne.mpr h, bne_iff_ne.mpr h⟩
theorem nT_ {α : Type} [BEq α] [LawfulBEq α] {a b : α} (h : a = b) : (a != b) = false ∧ (a == b) = true := ⟨bne_eq_false_iff_eq.mpr h, beq_iff_eq.mpr h⟩
theorem nF_ {α : Type} [BEq α] [LawfulBEq α] {a b : α} (h : ¬a = b) : (a != b) = true ∧ (a == b) = false := ⟨bne_iff_ne.mpr h, beq_eq_false_iff_ne.mpr h⟩
theorem bs_ {w W W1 : World} (hb : Below W.heap.size W W1) (h : Below w.heap.size w W := by exact bl_) : Aside0 (Below w.heap.size w W1) := ⟨below_step h hb⟩
end Go.Proofs.YtggecanpjkpkiaaDoor.P
namespace Go.Proofs.YtggecanpjkpkiaaDoor.P
open Go.RowKit Go.Proofs.YtggecanpjkpkiaaDoorW.PrintWords Go.Proofs.YtggecanpjkpkiaaDoorW.PrintLast Go.Proofs.YtggecanpjkpkiaaDoorW.PrintMore
class PeelWs (W1 : World) (W : World) : Prop where
  bel : Below W.heap.size W W1
instance (W : World) : PeelWs W W := ⟨Below.refl _ _⟩
instance (W1 W2 W : World) [p : PeelW W1 W2] [q : PeelWs W2 W] : PeelWs W1 W := ⟨below_step q.bel p.bel⟩
theorem vK {W W1 : World} {g : Nat} {o : Obj} [p : PeelWs W1 W] (h : W.heap[g]? = some o) : W1.heap[g]? = some o := blk_below h p.bel
theorem vV {α : Type} {d : Kd α} {e base : Nat} {ok : Nat → Prop} {v : Value} {xs : List α} {W W1 : World} [p : PeelWs W1 W] (h : Kd.V d e W base ok v xs) : Kd.V d e W1 base ok v xs := Kd.V_below h p.bel
theorem qM {w w1 w' : World} {m : Nat} {o : Obj} (h : w1 = w') [p : PeelW w1 w] (x : w.heap[m]? = some o) : w'.heap[m]? = some o := h ▸ pK x
theorem qV {α : Type} {d : Kd α} {e base : Nat} {ok : Nat → Prop} {v : Value} {xs : List α} {w w1 w' : World} (h : w1 = w') [p : PeelW w1 w] (x : Kd.V d e w base ok v xs) : Kd.V d e w' base ok v xs := h ▸ pV x
theorem qB {v w w1 w' : World} (h : w1 = w') [p : PeelW w1 w] (x : Below v.heap.size v w) : Below v.heap.size v w' := h ▸ pL x
theorem sM {w w1 : World} {m : Nat} {o : Option Obj} (h : w = w1) (x : w1.heap[m]? = o) : w.heap[m]? = o := h ▸ x
theorem ln_ {w W : World} {m : Nat} (h : m = W.heap.size) (hb : Below w.heap.size w W := by exact bl_) : w.heap.size ≤ m := le_new h (below_size hb)
theorem ir_ {p : Prop} {w W : World} {k : Nat} (hn : W.heap.size ≤ k) (hb : Below w.heap.size w W := by exact bl_) : p ∨ w.heap.size ≤ k := .inr (Nat.le_trans (below_size hb) hn)
theorem er_ {P : Prop} (h : P := by first | rfl | (simp [errW_none, errW_some] <;> rfl) | (simp [*, errW_none, errW_some] <;> rfl)) : P := h
theorem dn_ {P : Prop} (h : P := by first | rfl | (simp; done) | (simp [*]; done)) : P := h
theorem dr_ {P : Prop} (h : P := by repeat (first | exact Drawn0.refl _ | apply Drawn0.step)) : P := h
theorem f6V {α : Type} {d : Kd α} {e base : Nat} {ok : Nat → Prop} {v : Value} {xs : List α} {W : World} (x : Nat) (h : Kd.V d e W base ok v xs) (ne : ∀ k, ok k → k ≠ x) {v0 v1 v2 v3 v4 v5 : Value} : Kd.V d e ((((((W.setCell ⟨x, 0, none⟩ v0).setCell ⟨x, 1, none⟩ v1).setCell ⟨x, 2, none⟩ v2).setCell ⟨x, 3, none⟩ v3).setCell ⟨x, 4, none⟩ v4).setCell ⟨x, 5, none⟩ v5) base ok v xs :=
  Kd.V_far (p := ⟨x, 5, none⟩) (Kd.V_far (p := ⟨x, 4, none⟩) (Kd.V_far (p := ⟨x, 3, none⟩) (Kd.V_far (p := ⟨x, 2, none⟩) (Kd.V_far (p := ⟨x, 1, none⟩) (Kd.V_far (p := ⟨x, 0, none⟩) h ne v0) ne v1) ne v2) ne v3) ne v4) ne v5
theorem f6R {α : Type} {d : Kd α} {e base : Nat} {ok : Nat → Prop} {v : Value} {xs : List α} {W : World} (x : Nat) (h : Kd.R d e W base ok v xs) (ne : ∀ k, ok k → k ≠ x) {v0 v1 v2 v3 v4 v5 : Value} : Kd.R d e ((((((W.setCell ⟨x, 0, none⟩ v0).setCell ⟨x, 1, none⟩ v1).setCell ⟨x, 2, none⟩ v2).setCell ⟨x, 3, none⟩ v3).setCell ⟨x, 4, none⟩ v4).setCell ⟨x, 5, none⟩ v5) base ok v xs :=
  Kd.R_far (p := ⟨x, 5, none⟩) (Kd.R_far (p := ⟨x, 4, none⟩) (Kd.R_far (p := ⟨x, 3, none⟩) (Kd.R_far (p := ⟨x, 2, none⟩) (Kd.R_far (p := ⟨x, 1, none⟩) (Kd.R_far (p := ⟨x, 0, none⟩) h ne v0) ne v1) ne v2) ne v3) ne v4) ne v5
section
variable {P : Program} {ops : Array Oper} {rest : List Oper} {o : Oper} {a : Act} {Q : Exit → Act → World → Prop}
theorem bx_ {W : World} (N : Tmp) (t : TypeId) (cs : Array Value)
    (h : ∀ g, g = W.heap.size → ∀ w1, w1.heap[g]? = some (.cells cs t (0, 0)) → Below W.heap.size W w1 → wpList P ops Q rest (a.put o.dst (.pointer (some ⟨g, 0, none⟩))) w1)
    (hgd : o.guard = none := by rfl) (hd : o.dst = some N := by rfl)
    (hrun : (execOp a.eval o).run P W = .ok (.value (.pointer (some ⟨W.heap.size, 0, none⟩))) (W.alloc (.cells cs t (0, 0))) := by first | (go_simp; done) | (go_simp; rfl)) : wpList P ops Q (o :: rest) a W := box_event hgd hd hrun h
theorem sx_ {W : World} (t : TypeId) (p : Tmp) (w1 : World) {v : Operand} (h : ∀ w', w' = w1 → wpList P ops Q rest a w')
    (ho : o.op = .store t (.tmp p) v := by rfl) (hgd : o.guard = none := by rfl) (hN : o.dst = none := by rfl)
    (hrun : (execOp a.eval o).run P W = .ok .skip w1 := by first | (go_simp; done) | (go_simp; rfl)) : wpList P ops Q (o :: rest) a W := store_event hgd ho hN hrun h
end
end Go.Proofs.YtggecanpjkpkiaaDoor.P
namespace Go.Proofs.YtggecanpjkpkiaaDoor.P
open Go.RowKit Go.Proofs.YtggecanpjkpkiaaDoorW.PrintWords Go.Proofs.YtggecanpjkpkiaaDoorW.PrintLast Go.Proofs.YtggecanpjkpkiaaDoorW.PrintMore
attribute [local go_sem] max2_int min2_int max_two min_two max_three min_three max_four min_four
attribute [local go_sem] Instr.field asAgg
set_option linter.unusedVariables false
set_option linter.unusedSimpArgs false
theorem eqA33 (d : Nat) (w : World) (a f : Bool) (b g : Bool) (c h : Int) (e i : Bool) :
  (Op.equalIn (d + 2) 33 (.agg #[.bool a, .bool b, .int .i64 c, .bool e]) (.agg #[.bool f, .bool g, .int .i64 h, .bool i])).run Tryd.prog w = .ok (a == f && (b == g && (c == h && (e == i)))) w := by
 refine eqA_of Tryd.underlying33 (by kernel_rfl) ?_
 refine eqf_cons (by rfl) (by go_simp; rfl) (by go_simp; rfl) (by go_simp) ?_
 refine eqf_cons (by rfl) (by go_simp; rfl) (by go_simp; rfl) (by go_simp) ?_
 refine eqf_cons (by rfl) (by go_simp; rfl) (by go_simp; rfl) (by go_simp) ?_
 exact eqf_last (by rfl) (by go_simp; rfl) (by go_simp; rfl) (by go_simp)
theorem eqA35 (d : Nat) (w : World) (a h : Bool) (b i : Bool) (c j : Bool) (e k : Int) (f l : Bool) (g m : Int) :
  (Op.equalIn (d + 3) 35 (.agg #[.bool a, .bool b, .bool c, .int .i64 e, .bool f, .int .u8 g]) (.agg #[.bool h, .bool i, .bool j, .int .i64 k, .bool l, .int .u8 m])).run Tryd.prog w = .ok (a == h && ((b == i && (c == j && (e == k && (f == l)))) && (g == m))) w := by
 refine eqA_of Tryd.underlying35 (by kernel_rfl) ?_
 refine eqf_cons (by rfl) (by go_simp; rfl) (by go_simp; rfl) (by go_simp) ?_
 refine eqf_cons (by rfl) (by go_simp) (by go_simp) (eqA33 (d + 0) w _ _ _ _ _ _ _ _) ?_
 exact eqf_last (by rfl) (by go_simp; rfl) (by go_simp; rfl) (by go_simp)
end Go.Proofs.YtggecanpjkpkiaaDoor.P
namespace Go.Proofs.YtggecanpjkpkiaaDoor.P
open Go.RowKit Go.Proofs.YtggecanpjkpkiaaDoorW.PrintWords Go.Proofs.YtggecanpjkpkiaaDoorW.PrintLast Go.Proofs.YtggecanpjkpkiaaDoorW.PrintMore
attribute [local go_sem] max2_int min2_int max_two min_two max_three min_three max_four min_four
attribute [local go_sem] Instr.field asAgg
set_option linter.unusedVariables false
set_option linter.unusedSimpArgs false
set_option maxHeartbeats 8000000
set_option maxRecDepth 100000
def shutterref10_Ints.l0 : Nat → List Int → List Int → Int → Option (Bool)
 | 0, _, _, _ => none
 | k + 1, b, c, a => if a < (b.length : Int) then (if 0 ≤ a then (if a < (c.length : Int) then (if (rd b a) = (rd c a) then (shutterref10_Ints.l0 k b c (wrap64 (a + 1))) else (some false)) else (none)) else (none)) else (some true)
def shutterref10_Ints.f (k : Nat) (l0 : List Int) (l1 : List Int) : Option (Bool) := if (l0.length : Int) = (l1.length : Int) then (shutterref10_Ints.l0 k l0 l1 0) else (some false)
theorem shutterref10_Ints.mono_l : ∀ k, (∀ b c d, LeO (shutterref10_Ints.l0 k b c d) (shutterref10_Ints.l0 (k + 1) b c d))
 | 0 => fun _ _ _ r h => by simp [shutterref10_Ints.l0] at h
 | k + 1 => by
  have a := shutterref10_Ints.mono_l k
  ·intro b c d
   unfold shutterref10_Ints.l0
   repeat' first
   | (with_reducible exact a _ _ _)
   | (with_reducible exact LeO.refl _)
   | (with_reducible exact LeO.none _)
   | (with_reducible refine LeO.ite ?_ ?_)
   | (with_reducible refine LeO.bind ?_ (fun _ => ?_))
   | exact a _ _ _
   | exact LeO.none _
   | refine LeO.ite ?_ ?_
   | refine LeO.bind ?_ (fun _ => ?_)
theorem shutterref10_Ints.mono : ∀ a0 a1 k, LeO (shutterref10_Ints.f k a0 a1) (shutterref10_Ints.f (k + 1) a0 a1) := by
 intro a0 a1 k
 have a := shutterref10_Ints.mono_l k
 unfold shutterref10_Ints.f
 repeat' first
   | (with_reducible exact a _ _ _)
   | (with_reducible exact LeO.refl _)
   | (with_reducible exact LeO.none _)
   | (with_reducible refine LeO.ite ?_ ?_)
   | (with_reducible refine LeO.bind ?_ (fun _ => ?_))
   | exact a _ _ _
   | exact LeO.none _
   | refine LeO.ite ?_ ?_
   | refine LeO.bind ?_ (fun _ => ?_)
theorem shutterref10_Ints.calls (k : Nat) (E : Option Addr) (c0 : Nat) (l0 : List Int) (F : Option Addr) (c1 : Nat) (l1 : List Int) (r : Bool) (w : World) (hr0 : Kd.C (Kd.int .i64) w E l0.length l0) (x : l0.length ≤ c0) (z : Kd.C (Kd.int .i64) w F l1.length l1) (y : l1.length ≤ c1) (h : shutterref10_Ints.f k l0 l1 = some r) :
  Calls Tryd.prog 35 #[.slice E l0.length c0, .slice F l1.length c1] w fun e w' => e = .returned (.bool r) ∧ Drawn0 w w' := by
 have u := Z hr0
 have K := Z x
 clear hr0 x
 have v := Z z
 have L := Z y
 clear z y
 have H : (if (l0.length : Int) = (l1.length : Int) then (shutterref10_Ints.l0 k l0 l1 0) else (some false)) = some r := h
 clear h
 by_cases c3 : (l0.length : Int) = (l1.length : Int)
 ·rw [if_pos c3] at H
  obtain ⟨n, o⟩ := eT_ c3
  have p : (l0.length == l1.length) = true := by first | simpa using c3 | (simp at c3 ⊢; omega)
  clear c3
  have H' := Z H
  clear H
  go_enter Tryd.func35, Tryd.ntmps35
  go_wp2
  repeat (go_quiet (fail); try go_wp2)
  go_loopg [5] k (fun kq J w' => ∃ (a : Int), J = .int .i64 a ∧ Aside0 (shutterref10_Ints.l0 kq l0 l1 a = some r) ∧ Aside0 (kq ≤ k) ∧ Drawn0 w w')
  case atStart => exact ⟨(0), (dn_), H', ⟨Nat.le_refl _⟩, dr_⟩
  case round =>
   clear H'
   try clear c1
   try clear p2
   try clear c3
   try clear n
   try clear o
   try clear p
   obtain ⟨a, rfl, HA, t, ⟨M, rfl⟩⟩ := hrel
   cases gk with
   | zero => exact absurd HA.out (by simp [shutterref10_Ints.l0])
   | succ k1 =>
    have H := HA.out
    clear HA
    simp only [shutterref10_Ints.l0] at H
    by_cases c4 : a < (l0.length : Int)
    ·rw [if_pos c4] at H
     have A : decide (a < (l0.length : Int)) = true := decide_eq_true c4
     clear c4
     by_cases c5 : 0 ≤ a
     ·rw [if_pos c5] at H
      have G : decide (0 ≤ a) = true := decide_eq_true c5
      clear c5
      by_cases c6 : a < (l1.length : Int)
      ·rw [if_pos c6] at H
       have I : decide (a < (l1.length : Int)) = true := decide_eq_true c6
       clear c6
       by_cases c7 : (rd l0 a) = (rd l1 a)
       ·rw [if_pos c7] at H
        obtain ⟨B, D⟩ := eT_ c7
        clear c7
        have H' := Z H
        clear H
        have b : 0 ≤ (a : Int) := od_
        have d : a < (l0.length : Int) := od_
        obtain ⟨q, i, l⟩ := Kd.at_int u.out a b d
        cases i
        replace b := eq_true b
        replace d := eq_true d
        have c : 0 ≤ (a : Int) := od_
        have g : a < (l1.length : Int) := od_
        obtain ⟨s, j, m⟩ := Kd.at_int v.out a c g
        cases j
        replace c := eq_true c
        replace g := eq_true g
        go_wp2
        repeat (go_quiet (fail); try go_wp2)
        go_roundg k1
        case measure => have := t.out; omega
        case rel => exact ⟨(wrap64 (a + 1)), (dn_), H', ⟨by have := t.out; omega⟩, dr_⟩
       ·rw [if_neg c7] at H
        obtain ⟨B, D⟩ := eF_ c7
        obtain rfl := Option.some.inj H
        have b : 0 ≤ (a : Int) := od_
        have d : a < (l0.length : Int) := od_
        obtain ⟨q, i, l⟩ := Kd.at_int u.out a b d
        cases i
        replace b := eq_true b
        replace d := eq_true d
        have c : 0 ≤ (a : Int) := od_
        have g : a < (l1.length : Int) := od_
        obtain ⟨s, j, m⟩ := Kd.at_int v.out a c g
        cases j
        replace c := eq_true c
        replace g := eq_true g
        go_wp2
        repeat (go_quiet (fail); try go_wp2)
        go_ret
        exact ⟨dn_, dr_⟩
      ·rw [if_neg c6] at H
       exact absurd H (by simp)
     ·rw [if_neg c5] at H
      exact absurd H (by simp)
    ·rw [if_neg c4] at H
     have A : decide (a < (l0.length : Int)) = false := decide_eq_false c4
     clear c4
     obtain rfl := Option.some.inj H
     go_wp2
     repeat (go_quiet (fail); try go_wp2)
     go_ret
     exact ⟨dn_, dr_⟩
 ·rw [if_neg c3] at H
  obtain ⟨n, o⟩ := eF_ c3
  have p : (l0.length == l1.length) = false := by first | simpa using c3 | (simp at c3 ⊢; omega)
  obtain rfl := Option.some.inj H
  go_enter Tryd.func35, Tryd.ntmps35
  go_wp2
  repeat (go_quiet (fail); try go_wp2)
  go_ret
  exact ⟨dn_, dr_⟩
end Go.Proofs.YtggecanpjkpkiaaDoor.P
