/- The functions of the seat's laws as plain Lean functions, and that Go's code comes to just their answers. Written by pp.py (wip/tools), a program of this session, on the kit's print. -/
import Derived.Test.YtgboplhcjhlabaaDoorProg
import Derived.Below
import Derived.Deep.Draws
import Derived.Deep.AppendLies
import Derived.Maps.AppendAt
import Derived.OwnWalk
import Derived.Laws.BytesArg
import Derived.Laws.MakeOwn
import Derived.Laws.OwnMore
import Derived.Deep.OwnRows
import Derived.Tactics
import Derived.Lib.ConvBytes
import Derived.Laws.Slices
import Derived.WalkKit
import Derived.KernelRfl
import Derived.RowKit3
import Derived.Deep.LoopGhost
import Derived.Deep.QuietTactic
import Derived.BigQuiet
import Derived.WideLaws
import Derived.Deep.DeepCutAuto
import Derived.Deep.CutBlock
import Derived.Deep.RegionHeld3
import Derived.Laws.Rows
import Derived.Lib.AppendStr
import Derived.ArgAppend
import Derived.Laws.IdiomCopy
import Derived.OrdersHeld
import Derived.Laws.BitsLemmas
import Derived.RowKit
import Derived.RangeFuncNested
import Derived.RangeFuncBound
import Derived.RangeFuncCalls
import Derived.RangeFuncLeaves
import Derived.RangeFuncBox
import Derived.Shelf.Abstract
import Derived.Shelf.RegionOpen
import Derived.OwnWalkIn
import Derived.TacticsInMore
import Derived.LoopNIn
import Derived.LoopIn
import Derived.Deep.RegionWith
import Derived.LaidEql
import Derived.Stop.Asserts
import Derived.RowKitTokens
import Derived.Lib.SliceRun
import Derived.Test.YtgboplhcjhlabaaDoorUWords
import Derived.Test.YtgboplhcjhlabaaDoorULast
import Derived.Test.YtgboplhcjhlabaaDoorUTab
import Derived.Test.YtgboplhcjhlabaaDoorUFour
import Derived.Test.YtgboplhcjhlabaaDoorUQPut
import Derived.Test.YtgboplhcjhlabaaDoorUApart
import Derived.Test.YtgboplhcjhlabaaDoorUArr
import Derived.Test.YtgboplhcjhlabaaDoorUZeros
import Derived.Test.YtgboplhcjhlabaaDoorUFoot
import Derived.Test.YtgboplhcjhlabaaDoorUKept
import Derived.Test.YtgboplhcjhlabaaDoorUShare
import Derived.Test.YtgboplhcjhlabaaDoorUN
import Derived.Test.YtgboplhcjhlabaaDoorUFootNe
import Derived.Test.YtgboplhcjhlabaaDoorUAt
import Derived.Test.YtgboplhcjhlabaaDoorUEqStruct
import Derived.Test.YtgboplhcjhlabaaDoorURepsOne
import Derived.Test.YtgboplhcjhlabaaDoorUInv
import Derived.Test.YtgboplhcjhlabaaDoorUInvWords
import Derived.Test.YtgboplhcjhlabaaDoorUGuard
import Derived.Test.YtgboplhcjhlabaaDoorUNEv
import Derived.Test.YtgboplhcjhlabaaDoorUMore
namespace Go.Proofs.YtgboplhcjhlabaaDoor.P
open Go.RowKit Go.Proofs.YtgboplhcjhlabaaDoorW.PrintWords Go.Proofs.YtgboplhcjhlabaaDoorW.PrintLast Go.Proofs.YtgboplhcjhlabaaDoorW.PrintMore
attribute [local go_sem] max2_int min2_int max_two min_two max_three min_three max_four min_four   -- for this text's walks alone
attribute [local go_sem] Instr.field asAgg
set_option linter.unusedVariables false
set_option linter.unusedSimpArgs false



/-- What an error is: a number, or a spot (what it says stands in a row beside it). -/
inductive Er where
 | num : Int → Er
 | spot : Er
def ez : Er := .num 0
abbrev ERNT : TypeId := 75
def Er.ty : Er → TypeId
 | .num _ => 75
 | .spot => 83
def adrOf : Value → Option Addr
 | .slice a _ _ => a
 | _ => none
def Er.pay (v : Value) : Er → Value
 | .num n => .int .i64 n
 | .spot => .pointer (adrOf v)
def errW (v : Value) : Option Er → Value
 | none => .nilIface
 | some c => .iface c.ty (c.pay v)
theorem errW_none {v : Value} : errW v none = .nilIface := rfl
theorem errW_some {v : Value} {c : Er} : errW v (some c) = .iface c.ty (c.pay v) := rfl
def kern : Kd Int := Kd.scalar (fun x : Int => .iface ERNT (.int .i64 x)) (fun _ => rfl)
theorem kern_heap : Kd.Heap kern := Kd.heap_scalar

theorem info3 : (Tryd.prog.info? 3).map (fun i => (i.zero, i.size, i.bytes)) = some (some (.int .i64 0), 1, 8) := by kernel_rfl
theorem info5 : (Tryd.prog.info? 5).map (fun i => (i.zero, i.size, i.bytes)) = some (some (.int .u8 0), 1, 1) := by kernel_rfl
theorem info44 : (Tryd.prog.info? 44).map (fun i => (i.zero, i.size, i.bytes)) = some (some (.agg #[(.bool false), (.bool false), (.bool false), (.int .i64 0), (.bool false), (.int .u8 0)]), 6, 40) := by kernel_rfl
theorem info119 : (Tryd.prog.info? 119).map (fun i => (i.zero, i.size, i.bytes)) = some (some (.agg #[(.bool false), (.int .i64 0)]), 2, 16) := by kernel_rfl
-- the values' own types
/-! #### struct type 28 -/
structure S28 where
 f0 : Bool
 f1 : Bool
 f2 : Int
 f3 : Bool
def z28 : S28 := ⟨false, false, (0 : Int), false⟩
def k28 : Kd S28 := Kd.iso (Kd.pair Kd.bool (Kd.pair Kd.bool (Kd.pair (Kd.int .i64) Kd.bool))) (fun x : S28 => (x.f0, x.f1, x.f2, x.f3))
theorem k28_heap : Kd.Heap k28 := Kd.heap_iso _ (Kd.heap_pair Kd.heap_bool (Kd.heap_pair Kd.heap_bool (Kd.heap_pair (Kd.heap_int .i64) Kd.heap_bool)))
theorem k28_open {w : World} {x : S28} {cs : List Value} (h : k28.K w x cs) : cs = [.bool x.f0, .bool x.f1, .int .i64 x.f2, .bool x.f3] := by
 obtain ⟨_, _, rfl, rfl, ⟨_, _, rfl, rfl, ⟨_, _, rfl, rfl, rfl⟩⟩⟩ := h
 exact rfl
theorem k28_openM {w : World} {base : Nat} {ok : Nat → Prop} {x : S28} {cs : List Value} (h : k28.M w base ok x cs) : cs = [.bool x.f0, .bool x.f1, .int .i64 x.f2, .bool x.f3] := by
 obtain ⟨_, _, rfl, rfl, ⟨_, _, rfl, rfl, ⟨_, _, rfl, rfl, rfl⟩⟩⟩ := h
 exact rfl
theorem k28_mk (w : World) (x : S28)  : k28.K w x [.bool x.f0, .bool x.f1, .int .i64 x.f2, .bool x.f3] := ⟨[.bool x.f0], [.bool x.f1, .int .i64 x.f2, .bool x.f3], rfl, rfl, ⟨[.bool x.f1], [.int .i64 x.f2, .bool x.f3], rfl, rfl, ⟨[.int .i64 x.f2], [.bool x.f3], rfl, rfl, rfl⟩⟩⟩
theorem k28_mkM (w : World) (base : Nat) (ok : Nat → Prop) (x : S28)  : k28.M w base ok x [.bool x.f0, .bool x.f1, .int .i64 x.f2, .bool x.f3] := ⟨[.bool x.f0], [.bool x.f1, .int .i64 x.f2, .bool x.f3], rfl, rfl, ⟨[.bool x.f1], [.int .i64 x.f2, .bool x.f3], rfl, rfl, ⟨[.int .i64 x.f2], [.bool x.f3], rfl, rfl, rfl⟩⟩⟩
theorem k28_mkF (W : World) (ok : Nat → Prop) (x : S28) : Kd.FK k28 W ok x [.bool x.f0, .bool x.f1, .int .i64 x.f2, .bool x.f3] := fun W2 _ => k28_mk W2 x
def rd_T28 (xs : List S28) (i : Int) : S28 := xs.getD i.toNat z28
theorem at_T28 {w : World} {A : Option Addr} {n : Nat} {xs : List S28} (h : Kd.C k28 w A n xs) (i : Int) (h0 : 0 ≤ i) (h1 : i < n) : ∃ ad , A = some ad ∧ w.cell? (ad.add (i.toNat * 4)) = some (.bool (rd_T28 xs i).f0) ∧ w.cell? ⟨(ad.add (i.toNat * 4)).block, (ad.add (i.toNat * 4)).off + 1, none⟩ = some (.bool (rd_T28 xs i).f1) ∧ w.cell? ⟨(ad.add (i.toNat * 4)).block, (ad.add (i.toNat * 4)).off + 2, none⟩ = some (.int .i64 (rd_T28 xs i).f2) ∧ w.cell? ⟨(ad.add (i.toNat * 4)).block, (ad.add (i.toNat * 4)).off + 3, none⟩ = some (.bool (rd_T28 xs i).f3) := by
 obtain ⟨ad, c, e, _, hK, hc0⟩ := Kd.C_get h z28 i h0 h1
 have hc : ∀ j u, c[j]? = some u → w.cell? (ad.add (i.toNat * 4 + j)) = some u := hc0
 obtain rfl := k28_open hK
 exact ⟨ad, e, hc 0 _ rfl, by rw [← add_field _ _ 1 (by omega)]; exact hc 1 _ rfl, by rw [← add_field _ _ 2 (by omega)]; exact hc 2 _ rfl, by rw [← add_field _ _ 3 (by omega)]; exact hc 3 _ rfl⟩

/-! #### struct type 44 -/
structure S44 where
 f0 : Bool
 f1 : S28
 f2 : Int
def z44 : S44 := ⟨false, z28, (0 : Int)⟩
def k44 : Kd S44 := Kd.iso (Kd.pair Kd.bool (Kd.pair k28 (Kd.int .u8))) (fun x : S44 => (x.f0, x.f1, x.f2))
theorem k44_heap : Kd.Heap k44 := Kd.heap_iso _ (Kd.heap_pair Kd.heap_bool (Kd.heap_pair k28_heap (Kd.heap_int .u8)))
theorem k44_open {w : World} {x : S44} {cs : List Value} (h : k44.K w x cs) : cs = [.bool x.f0, .bool x.f1.f0, .bool x.f1.f1, .int .i64 x.f1.f2, .bool x.f1.f3, .int .u8 x.f2] := by
 obtain ⟨_, _, rfl, rfl, ⟨_, _, rfl, s1, rfl⟩⟩ := h
 obtain rfl := k28_open s1
 exact rfl
theorem k44_openM {w : World} {base : Nat} {ok : Nat → Prop} {x : S44} {cs : List Value} (h : k44.M w base ok x cs) : cs = [.bool x.f0, .bool x.f1.f0, .bool x.f1.f1, .int .i64 x.f1.f2, .bool x.f1.f3, .int .u8 x.f2] := by
 obtain ⟨_, _, rfl, rfl, ⟨_, _, rfl, s1, rfl⟩⟩ := h
 obtain rfl := k28_openM s1
 exact rfl
theorem k44_mk (w : World) (x : S44)  : k44.K w x [.bool x.f0, .bool x.f1.f0, .bool x.f1.f1, .int .i64 x.f1.f2, .bool x.f1.f3, .int .u8 x.f2] := ⟨[.bool x.f0], [.bool x.f1.f0, .bool x.f1.f1, .int .i64 x.f1.f2, .bool x.f1.f3, .int .u8 x.f2], rfl, rfl, ⟨[.bool x.f1.f0, .bool x.f1.f1, .int .i64 x.f1.f2, .bool x.f1.f3], [.int .u8 x.f2], rfl, (k28_mk w x.f1 ), rfl⟩⟩
theorem k44_mkM (w : World) (base : Nat) (ok : Nat → Prop) (x : S44)  : k44.M w base ok x [.bool x.f0, .bool x.f1.f0, .bool x.f1.f1, .int .i64 x.f1.f2, .bool x.f1.f3, .int .u8 x.f2] := ⟨[.bool x.f0], [.bool x.f1.f0, .bool x.f1.f1, .int .i64 x.f1.f2, .bool x.f1.f3, .int .u8 x.f2], rfl, rfl, ⟨[.bool x.f1.f0, .bool x.f1.f1, .int .i64 x.f1.f2, .bool x.f1.f3], [.int .u8 x.f2], rfl, (k28_mkM w base ok x.f1 ), rfl⟩⟩
theorem k44_mkF (W : World) (ok : Nat → Prop) (x : S44) : Kd.FK k44 W ok x [.bool x.f0, .bool x.f1.f0, .bool x.f1.f1, .int .i64 x.f1.f2, .bool x.f1.f3, .int .u8 x.f2] := fun W2 _ => k44_mk W2 x
def rd_T44 (xs : List S44) (i : Int) : S44 := xs.getD i.toNat z44
theorem at_T44 {w : World} {A : Option Addr} {n : Nat} {xs : List S44} (h : Kd.C k44 w A n xs) (i : Int) (h0 : 0 ≤ i) (h1 : i < n) : ∃ ad , A = some ad ∧ w.cell? (ad.add (i.toNat * 6)) = some (.bool (rd_T44 xs i).f0) ∧ w.cell? ⟨(ad.add (i.toNat * 6)).block, (ad.add (i.toNat * 6)).off + 1, none⟩ = some (.bool (rd_T44 xs i).f1.f0) ∧ w.cell? ⟨(ad.add (i.toNat * 6)).block, (ad.add (i.toNat * 6)).off + 2, none⟩ = some (.bool (rd_T44 xs i).f1.f1) ∧ w.cell? ⟨(ad.add (i.toNat * 6)).block, (ad.add (i.toNat * 6)).off + 3, none⟩ = some (.int .i64 (rd_T44 xs i).f1.f2) ∧ w.cell? ⟨(ad.add (i.toNat * 6)).block, (ad.add (i.toNat * 6)).off + 4, none⟩ = some (.bool (rd_T44 xs i).f1.f3) ∧ w.cell? ⟨(ad.add (i.toNat * 6)).block, (ad.add (i.toNat * 6)).off + 5, none⟩ = some (.int .u8 (rd_T44 xs i).f2) := by
 obtain ⟨ad, c, e, _, hK, hc0⟩ := Kd.C_get h z44 i h0 h1
 have hc : ∀ j u, c[j]? = some u → w.cell? (ad.add (i.toNat * 6 + j)) = some u := hc0
 obtain rfl := k44_open hK
 exact ⟨ad, e, hc 0 _ rfl, by rw [← add_field _ _ 1 (by omega)]; exact hc 1 _ rfl, by rw [← add_field _ _ 2 (by omega)]; exact hc 2 _ rfl, by rw [← add_field _ _ 3 (by omega)]; exact hc 3 _ rfl, by rw [← add_field _ _ 4 (by omega)]; exact hc 4 _ rfl, by rw [← add_field _ _ 5 (by omega)]; exact hc 5 _ rfl⟩

/-! #### struct type 184 -/
structure S184 where
 f0 : Int
 f1 : Int
def z184 : S184 := ⟨(0 : Int), (0 : Int)⟩
def k184 : Kd S184 := Kd.iso (Kd.pair (Kd.int .i64) kern) (fun x : S184 => (x.f0, x.f1))
theorem k184_heap : Kd.Heap k184 := Kd.heap_iso _ (Kd.heap_pair (Kd.heap_int .i64) kern_heap)
theorem k184_open {w : World} {x : S184} {cs : List Value} (h : k184.K w x cs) : cs = [.int .i64 x.f0, .iface ERNT (.int .i64 x.f1)] := by
 obtain ⟨_, _, rfl, rfl, rfl⟩ := h
 exact rfl
theorem k184_openM {w : World} {base : Nat} {ok : Nat → Prop} {x : S184} {cs : List Value} (h : k184.M w base ok x cs) : cs = [.int .i64 x.f0, .iface ERNT (.int .i64 x.f1)] := by
 obtain ⟨_, _, rfl, rfl, rfl⟩ := h
 exact rfl
theorem k184_mk (w : World) (x : S184)  : k184.K w x [.int .i64 x.f0, .iface ERNT (.int .i64 x.f1)] := ⟨[.int .i64 x.f0], [.iface ERNT (.int .i64 x.f1)], rfl, rfl, rfl⟩
theorem k184_mkM (w : World) (base : Nat) (ok : Nat → Prop) (x : S184)  : k184.M w base ok x [.int .i64 x.f0, .iface ERNT (.int .i64 x.f1)] := ⟨[.int .i64 x.f0], [.iface ERNT (.int .i64 x.f1)], rfl, rfl, rfl⟩
theorem k184_mkF (W : World) (ok : Nat → Prop) (x : S184) : Kd.FK k184 W ok x [.int .i64 x.f0, .iface ERNT (.int .i64 x.f1)] := fun W2 _ => k184_mk W2 x
def rd_T184 (xs : List S184) (i : Int) : S184 := xs.getD i.toNat z184
theorem at_T184 {w : World} {A : Option Addr} {n : Nat} {xs : List S184} (h : Kd.C k184 w A n xs) (i : Int) (h0 : 0 ≤ i) (h1 : i < n) : ∃ ad , A = some ad ∧ w.cell? (ad.add (i.toNat * 2)) = some (.int .i64 (rd_T184 xs i).f0) ∧ w.cell? ⟨(ad.add (i.toNat * 2)).block, (ad.add (i.toNat * 2)).off + 1, none⟩ = some (.iface ERNT (.int .i64 (rd_T184 xs i).f1)) := by
 obtain ⟨ad, c, e, _, hK, hc0⟩ := Kd.C_get h z184 i h0 h1
 have hc : ∀ j u, c[j]? = some u → w.cell? (ad.add (i.toNat * 2 + j)) = some u := hc0
 obtain rfl := k184_open hK
 exact ⟨ad, e, hc 0 _ rfl, by rw [← add_field _ _ 1 (by omega)]; exact hc 1 _ rfl⟩

/-! #### struct type 119 -/
structure S119 where
 f0 : Bool
 f1 : Int
def z119 : S119 := ⟨false, (0 : Int)⟩
def k119 : Kd S119 := Kd.iso (Kd.pair Kd.bool (Kd.int .i64)) (fun x : S119 => (x.f0, x.f1))
theorem k119_heap : Kd.Heap k119 := Kd.heap_iso _ (Kd.heap_pair Kd.heap_bool (Kd.heap_int .i64))
theorem k119_open {w : World} {x : S119} {cs : List Value} (h : k119.K w x cs) : cs = [.bool x.f0, .int .i64 x.f1] := by
 obtain ⟨_, _, rfl, rfl, rfl⟩ := h
 exact rfl
theorem k119_openM {w : World} {base : Nat} {ok : Nat → Prop} {x : S119} {cs : List Value} (h : k119.M w base ok x cs) : cs = [.bool x.f0, .int .i64 x.f1] := by
 obtain ⟨_, _, rfl, rfl, rfl⟩ := h
 exact rfl
theorem k119_mk (w : World) (x : S119)  : k119.K w x [.bool x.f0, .int .i64 x.f1] := ⟨[.bool x.f0], [.int .i64 x.f1], rfl, rfl, rfl⟩
theorem k119_mkM (w : World) (base : Nat) (ok : Nat → Prop) (x : S119)  : k119.M w base ok x [.bool x.f0, .int .i64 x.f1] := ⟨[.bool x.f0], [.int .i64 x.f1], rfl, rfl, rfl⟩
theorem k119_mkF (W : World) (ok : Nat → Prop) (x : S119) : Kd.FK k119 W ok x [.bool x.f0, .int .i64 x.f1] := fun W2 _ => k119_mk W2 x
def rd_T119 (xs : List S119) (i : Int) : S119 := xs.getD i.toNat z119
theorem at_T119 {w : World} {A : Option Addr} {n : Nat} {xs : List S119} (h : Kd.C k119 w A n xs) (i : Int) (h0 : 0 ≤ i) (h1 : i < n) : ∃ ad , A = some ad ∧ w.cell? (ad.add (i.toNat * 2)) = some (.bool (rd_T119 xs i).f0) ∧ w.cell? ⟨(ad.add (i.toNat * 2)).block, (ad.add (i.toNat * 2)).off + 1, none⟩ = some (.int .i64 (rd_T119 xs i).f1) := by
 obtain ⟨ad, c, e, _, hK, hc0⟩ := Kd.C_get h z119 i h0 h1
 have hc : ∀ j u, c[j]? = some u → w.cell? (ad.add (i.toNat * 2 + j)) = some u := hc0
 obtain rfl := k119_open hK
 exact ⟨ad, e, hc 0 _ rfl, by rw [← add_field _ _ 1 (by omega)]; exact hc 1 _ rfl⟩

/-! ### short words for what the print says at length -/
class PeelW (W1 : World) (W : outParam World) : Prop where
 bel : Below W.heap.size W W1
instance (W : World) (o : Obj) : PeelW (W.alloc o) W := ⟨below_alloc (Below.refl _ _) o⟩
instance (W : World) (n : Nat) : PeelW (W.drewN n) W := ⟨pw_below_drewN (Below.refl _ _) n⟩
instance (W : World) : PeelW W.drew W := ⟨below_drew (Below.refl _ _)⟩
theorem pK {W W1 : World} {g : Nat} {o : Obj} [p : PeelW W1 W] (h : W.heap[g]? = some o) : W1.heap[g]? = some o := blk_below h p.bel
theorem pL {w W W1 : World} [p : PeelW W1 W] (h : Below w.heap.size w W) : Below w.heap.size w W1 := below_step h p.bel
theorem pV {α : Type} {d : Kd α} {e base : Nat} {ok : Nat → Prop} {v : Value} {xs : List α} {W W1 : World} [p : PeelW W1 W] (h : Kd.V d e W base ok v xs) : Kd.V d e W1 base ok v xs := Kd.V_below h p.bel
theorem pR {α : Type} {d : Kd α} {e base : Nat} {ok : Nat → Prop} {v : Value} {xs : List α} {W W1 : World} [p : PeelW W1 W] (h : Kd.R d e W base ok v xs) : Kd.R d e W1 base ok v xs := Kd.R_below h p.bel
theorem pN {α : Type} {d : Kd α} {e base : Nat} {ok : Nat → Prop} {v : Value} {xs : List α} {W W1 : World} [p : PeelW W1 W] (h : Kd.N d e W base ok v xs) : Kd.N d e W1 base ok v xs := Kd.N_below h p.bel
theorem pS {α : Type} {d : Kd α} {e base : Nat} {ok : Nat → Prop} {v : Value} {xs : List α} {W W1 : World} [p : PeelW W1 W] (h : Kd.S d e W base ok v xs) : Kd.S d e W1 base ok v xs := Kd.S_below h p.bel
theorem pC {α : Type} {d : Kd α} {A : Option Addr} {n : Nat} {xs : List α} {W W1 : World} [p : PeelW W1 W] (h : Kd.C d W A n xs) : Kd.C d W1 A n xs := Kd.C_below h p.bel
/-- The world has only grown since the call's begin (from the facts at hand). -/
theorem bl_ {P : Prop} (h : P := by repeat (first | (with_reducible first | exact Aside0.out (by with_reducible assumption) | apply pL | refine below_set ?_ (Aside0.out (by assumption))) | exact Aside0.out (by assumption))) : P := h
theorem le_new {g n b : Nat} (h : g = n) (hb : b ≤ n) : b ≤ g := h ▸ hb
theorem argsR {A B : Prop} (h : A → B) (a : A) : B := h a
/-- Blocks other than one: unchanged by stores into that one. -/
theorem off_ {P : Prop} (h : P := by intro k hk; repeat (first | rfl | refine (Below.heap_setCell _ _ _ k hk).trans ?_)) : P := h
theorem R_off {α : Type} {d : Kd α} {e base : Nat} {ok : Nat → Prop} {v : Value} {xs : List α} {w w1 : World} {g t : Nat} {cells : Array Value} (h : Kd.R d e w base ok v xs) (hb : w.heap[g]? = some (.cells cells t (0, 0))) (ht : ∀ q, q ∈ e :: d.E → q ≠ t) (hm : ∀ k, k ≠ g → w1.heap[k]? = w.heap[k]?) : Kd.R d e w1 base ok v xs :=
 Kd.R_mono (Kd.R_step (Kd.R_types h hb ht) (fun k hk _ => hm k hk.2)) (fun _ hk => hk.1)
theorem blk_off {w w1 : World} {g g2 : Nat} {o : Obj} (h : w.heap[g2]? = some o) (ne : g2 ≠ g) (hm : ∀ k, k ≠ g → w1.heap[k]? = w.heap[k]?) : w1.heap[g2]? = some o := (hm g2 ne).trans h
theorem cells1 {W : World} {g : Nat} {t : TypeId} {a0 : Value} (h : W.heap[g]? = some (.cells #[a0] t (0, 0))) : W.cell? ⟨g, 0, none⟩ = some a0 ∧ W.frozen? ⟨g, 0, none⟩ = false := ⟨(blk_cell h 0).trans rfl, blk_frozen h 0⟩
theorem cells2 {W : World} {g : Nat} {t : TypeId} {a0 a1 : Value} (h : W.heap[g]? = some (.cells #[a0, a1] t (0, 0))) : W.cell? ⟨g, 0, none⟩ = some a0 ∧ W.cell? ⟨g, 1, none⟩ = some a1 ∧ W.frozen? ⟨g, 0, none⟩ = false ∧ W.frozen? ⟨g, 1, none⟩ = false := ⟨(blk_cell h 0).trans rfl, (blk_cell h 1).trans rfl, blk_frozen h 0, blk_frozen h 1⟩
theorem cells3 {W : World} {g : Nat} {t : TypeId} {a0 a1 a2 : Value} (h : W.heap[g]? = some (.cells #[a0, a1, a2] t (0, 0))) : W.cell? ⟨g, 0, none⟩ = some a0 ∧ W.cell? ⟨g, 1, none⟩ = some a1 ∧ W.cell? ⟨g, 2, none⟩ = some a2 ∧ W.frozen? ⟨g, 0, none⟩ = false ∧ W.frozen? ⟨g, 1, none⟩ = false ∧ W.frozen? ⟨g, 2, none⟩ = false := ⟨(blk_cell h 0).trans rfl, (blk_cell h 1).trans rfl, (blk_cell h 2).trans rfl, blk_frozen h 0, blk_frozen h 1, blk_frozen h 2⟩
theorem cells4 {W : World} {g : Nat} {t : TypeId} {a0 a1 a2 a3 : Value} (h : W.heap[g]? = some (.cells #[a0, a1, a2, a3] t (0, 0))) : W.cell? ⟨g, 0, none⟩ = some a0 ∧ W.cell? ⟨g, 1, none⟩ = some a1 ∧ W.cell? ⟨g, 2, none⟩ = some a2 ∧ W.cell? ⟨g, 3, none⟩ = some a3 ∧ W.frozen? ⟨g, 0, none⟩ = false ∧ W.frozen? ⟨g, 1, none⟩ = false ∧ W.frozen? ⟨g, 2, none⟩ = false ∧ W.frozen? ⟨g, 3, none⟩ = false := ⟨(blk_cell h 0).trans rfl, (blk_cell h 1).trans rfl, (blk_cell h 2).trans rfl, (blk_cell h 3).trans rfl, blk_frozen h 0, blk_frozen h 1, blk_frozen h 2, blk_frozen h 3⟩
theorem cells5 {W : World} {g : Nat} {t : TypeId} {a0 a1 a2 a3 a4 : Value} (h : W.heap[g]? = some (.cells #[a0, a1, a2, a3, a4] t (0, 0))) : W.cell? ⟨g, 0, none⟩ = some a0 ∧ W.cell? ⟨g, 1, none⟩ = some a1 ∧ W.cell? ⟨g, 2, none⟩ = some a2 ∧ W.cell? ⟨g, 3, none⟩ = some a3 ∧ W.cell? ⟨g, 4, none⟩ = some a4 ∧ W.frozen? ⟨g, 0, none⟩ = false ∧ W.frozen? ⟨g, 1, none⟩ = false ∧ W.frozen? ⟨g, 2, none⟩ = false ∧ W.frozen? ⟨g, 3, none⟩ = false ∧ W.frozen? ⟨g, 4, none⟩ = false := ⟨(blk_cell h 0).trans rfl, (blk_cell h 1).trans rfl, (blk_cell h 2).trans rfl, (blk_cell h 3).trans rfl, (blk_cell h 4).trans rfl, blk_frozen h 0, blk_frozen h 1, blk_frozen h 2, blk_frozen h 3, blk_frozen h 4⟩
theorem cells6 {W : World} {g : Nat} {t : TypeId} {a0 a1 a2 a3 a4 a5 : Value} (h : W.heap[g]? = some (.cells #[a0, a1, a2, a3, a4, a5] t (0, 0))) : W.cell? ⟨g, 0, none⟩ = some a0 ∧ W.cell? ⟨g, 1, none⟩ = some a1 ∧ W.cell? ⟨g, 2, none⟩ = some a2 ∧ W.cell? ⟨g, 3, none⟩ = some a3 ∧ W.cell? ⟨g, 4, none⟩ = some a4 ∧ W.cell? ⟨g, 5, none⟩ = some a5 ∧ W.frozen? ⟨g, 0, none⟩ = false ∧ W.frozen? ⟨g, 1, none⟩ = false ∧ W.frozen? ⟨g, 2, none⟩ = false ∧ W.frozen? ⟨g, 3, none⟩ = false ∧ W.frozen? ⟨g, 4, none⟩ = false ∧ W.frozen? ⟨g, 5, none⟩ = false := ⟨(blk_cell h 0).trans rfl, (blk_cell h 1).trans rfl, (blk_cell h 2).trans rfl, (blk_cell h 3).trans rfl, (blk_cell h 4).trans rfl, (blk_cell h 5).trans rfl, blk_frozen h 0, blk_frozen h 1, blk_frozen h 2, blk_frozen h 3, blk_frozen h 4, blk_frozen h 5⟩
theorem cells7 {W : World} {g : Nat} {t : TypeId} {a0 a1 a2 a3 a4 a5 a6 : Value} (h : W.heap[g]? = some (.cells #[a0, a1, a2, a3, a4, a5, a6] t (0, 0))) : W.cell? ⟨g, 0, none⟩ = some a0 ∧ W.cell? ⟨g, 1, none⟩ = some a1 ∧ W.cell? ⟨g, 2, none⟩ = some a2 ∧ W.cell? ⟨g, 3, none⟩ = some a3 ∧ W.cell? ⟨g, 4, none⟩ = some a4 ∧ W.cell? ⟨g, 5, none⟩ = some a5 ∧ W.cell? ⟨g, 6, none⟩ = some a6 ∧ W.frozen? ⟨g, 0, none⟩ = false ∧ W.frozen? ⟨g, 1, none⟩ = false ∧ W.frozen? ⟨g, 2, none⟩ = false ∧ W.frozen? ⟨g, 3, none⟩ = false ∧ W.frozen? ⟨g, 4, none⟩ = false ∧ W.frozen? ⟨g, 5, none⟩ = false ∧ W.frozen? ⟨g, 6, none⟩ = false := ⟨(blk_cell h 0).trans rfl, (blk_cell h 1).trans rfl, (blk_cell h 2).trans rfl, (blk_cell h 3).trans rfl, (blk_cell h 4).trans rfl, (blk_cell h 5).trans rfl, (blk_cell h 6).trans rfl, blk_frozen h 0, blk_frozen h 1, blk_frozen h 2, blk_frozen h 3, blk_frozen h 4, blk_frozen h 5, blk_frozen h 6⟩
theorem cells8 {W : World} {g : Nat} {t : TypeId} {a0 a1 a2 a3 a4 a5 a6 a7 : Value} (h : W.heap[g]? = some (.cells #[a0, a1, a2, a3, a4, a5, a6, a7] t (0, 0))) : W.cell? ⟨g, 0, none⟩ = some a0 ∧ W.cell? ⟨g, 1, none⟩ = some a1 ∧ W.cell? ⟨g, 2, none⟩ = some a2 ∧ W.cell? ⟨g, 3, none⟩ = some a3 ∧ W.cell? ⟨g, 4, none⟩ = some a4 ∧ W.cell? ⟨g, 5, none⟩ = some a5 ∧ W.cell? ⟨g, 6, none⟩ = some a6 ∧ W.cell? ⟨g, 7, none⟩ = some a7 ∧ W.frozen? ⟨g, 0, none⟩ = false ∧ W.frozen? ⟨g, 1, none⟩ = false ∧ W.frozen? ⟨g, 2, none⟩ = false ∧ W.frozen? ⟨g, 3, none⟩ = false ∧ W.frozen? ⟨g, 4, none⟩ = false ∧ W.frozen? ⟨g, 5, none⟩ = false ∧ W.frozen? ⟨g, 6, none⟩ = false ∧ W.frozen? ⟨g, 7, none⟩ = false := ⟨(blk_cell h 0).trans rfl, (blk_cell h 1).trans rfl, (blk_cell h 2).trans rfl, (blk_cell h 3).trans rfl, (blk_cell h 4).trans rfl, (blk_cell h 5).trans rfl, (blk_cell h 6).trans rfl, (blk_cell h 7).trans rfl, blk_frozen h 0, blk_frozen h 1, blk_frozen h 2, blk_frozen h 3, blk_frozen h 4, blk_frozen h 5, blk_frozen h 6, blk_frozen h 7⟩
/-- A call's arguments, as the slots hold them. -/
theorem ag_ {P : Prop} (h : P := by (try simp only [List.map_toArray, List.map_cons, List.map_nil]); first | done | rfl | (simp only [List.length_drop, List.length_take]; rfl)) : P := h

/-! ### words that squeeze.py says the texts in -/
theorem Z {p : Prop} (h : p) : Aside0 p := ⟨h⟩
theorem set_far_ {w w0 : World} {g i k : Nat} {u : Value} (hk : k ≠ g) (h : w.heap[k]? = w0.heap[k]?) : (w.setCell ⟨g, i, none⟩ u).heap[k]? = w0.heap[k]? := (Below.heap_setCell _ _ _ k hk).trans h
theorem off2_ {P : Prop} (h : P := by intro k hk; (with_reducible repeat refine set_far_ hk ?_); with_reducible rfl) : P := h
theorem V_off {α : Type} {d : Kd α} {e base : Nat} {ok ok' : Nat → Prop} {v : Value} {xs : List α} {w w1 : World} {g : Nat} (h : Kd.V d e w base ok v xs) (hne : ∀ k, ok k → k ≠ g) (hm : ∀ k, k ≠ g → w1.heap[k]? = w.heap[k]?) (ho : ∀ k, ok k → ok' k) : Kd.V d e w1 base ok' v xs := Kd.V_mono (Kd.V_step h (fun k hk _ => hm k (hne k hk))) ho
theorem put6 {w : World} {g : Nat} {t : TypeId} {a0 a1 a2 a3 a4 a5 b0 b1 b2 b3 b4 b5 : Value} (h : w.heap[g]? = some (.cells #[b0, b1, b2, b3, b4, b5] t (0, 0))) : ((((((w.setCell ⟨g, 0, none⟩ a0).setCell ⟨g, 1, none⟩ a1).setCell ⟨g, 2, none⟩ a2).setCell ⟨g, 3, none⟩ a3).setCell ⟨g, 4, none⟩ a4).setCell ⟨g, 5, none⟩ a5).heap[g]? = some (.cells #[a0, a1, a2, a3, a4, a5] t (0, 0)) := by
 refine blk_put (cs := #[a0, a1, a2, a3, a4, b5]) ?_ 5 _ rfl
 refine blk_put (cs := #[a0, a1, a2, a3, b4, b5]) ?_ 4 _ rfl
 refine blk_put (cs := #[a0, a1, a2, b3, b4, b5]) ?_ 3 _ rfl
 refine blk_put (cs := #[a0, a1, b2, b3, b4, b5]) ?_ 2 _ rfl
 refine blk_put (cs := #[a0, b1, b2, b3, b4, b5]) ?_ 1 _ rfl
 exact blk_put (cs := #[b0, b1, b2, b3, b4, b5]) h 0 _ rfl
class Peels (W1 W : World) : Prop where
 bel : Below W.heap.size W W1
instance (W : World) : Peels W W := ⟨Below.refl _ _⟩
instance {W1 W : World} [p : Peels W1 W] (o : Obj) : Peels (W1.alloc o) W := ⟨below_alloc p.bel o⟩
instance {W1 W : World} [p : Peels W1 W] (n : Nat) : Peels (W1.drewN n) W := ⟨pw_below_drewN p.bel n⟩
instance {W1 W : World} [p : Peels W1 W] : Peels W1.drew W := ⟨below_drew p.bel⟩
theorem rb {α : Type} {d : Kd α} {e base : Nat} {ok : Nat → Prop} {v : Value} {xs : List α} {W W1 W2 : World} [p : Peels W1 W] (h : Kd.R d e W base ok v xs) (hb : Below W1.heap.size W1 W2) : Kd.R d e W2 base ok v xs := Kd.R_below (Kd.R_below h p.bel) hb
theorem vb {α : Type} {d : Kd α} {e base : Nat} {ok : Nat → Prop} {v : Value} {xs : List α} {W W1 W2 : World} [p : Peels W1 W] (h : Kd.V d e W base ok v xs) (hb : Below W1.heap.size W1 W2) : Kd.V d e W2 base ok v xs := Kd.V_below (Kd.V_below h p.bel) hb
theorem ve {α : Type} {d : Kd α} {e base g : Nat} {ok : Nat → Prop} {v : Value} {xs : List α} {W W1 W2 : World} [p : Peels W1 W] (h : Kd.V d e W base ok v xs) (hg : g = W1.heap.size) (hb : Below W1.heap.size W1 W2) : Kd.V d e W2 base (fun k => ok k ∧ k ≠ g) v xs := Kd.V_below (Kd.V_elderB (Kd.V_below h p.bel) g (Nat.le_of_eq hg.symm)) hb
theorem kb {W W1 W2 : World} {g : Nat} {o : Obj} [p : Peels W1 W] (h : W.heap[g]? = some o) (hb : Below W1.heap.size W1 W2) : W2.heap[g]? = some o := blk_below (blk_below h p.bel) hb
theorem nl {W W1 : World} {g g2 : Nat} {o : Obj} [p : Peels W1 W] (h : W.heap[g]? = some o) (hg : g2 = W1.heap.size) : g ≠ g2 := by rw [hg]; exact Nat.ne_of_lt (blk_lt (blk_below h p.bel))
theorem ng {W W1 : World} {g g2 : Nat} {o : Obj} [p : Peels W1 W] (h : W.heap[g]? = some o) (hg : g2 = W1.heap.size) : g2 ≠ g := (nl h hg).symm
theorem fb {W W1 : World} {g : Nat} {o : Obj} [p : Peels W1 W] (h : W.heap[g]? = some o) : ∀ k, W1.heap.size ≤ k → k ≠ g := Kd.freshB (blk_below h p.bel)
/-- Which operations are done: the bits of a number. -/
def bv (n m : Nat) : Array Bool := ((List.range n).map (fun i => m.testBit i)).toArray
theorem sA {α : Type _} (l : List α) (i : Nat) (x : α) : l.toArray.setIfInBounds i x = (l.set i x).toArray := List.setIfInBounds_toArray l i x
theorem sB {α : Type _} (b a : α) (l : List α) : (b :: l).set 0 a = a :: l := List.set_cons_zero
theorem sC {α : Type _} (b : α) (l : List α) (n : Nat) (a : α) : (b :: l).set (n + 1) a = b :: l.set n a := List.set_cons_succ
theorem bk_ (w : World) (a : Addr) {v : Value} (h : w.cell? a = some v) : a.block < w.heap.size := World.block_lt_of_cell? w a h
theorem od_ {p : Prop} [Decidable p] (h : decide p = true := by first | (with_reducible assumption) | assumption) : p := of_decide_eq_true h

end Go.Proofs.YtgboplhcjhlabaaDoor.P
