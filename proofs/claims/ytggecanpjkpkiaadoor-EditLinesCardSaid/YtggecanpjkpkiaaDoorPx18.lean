
/- The functions of the seat's laws as plain Lean functions, and that Go's code comes to just their answers. Written by pp.py (wip/tools), a program of this session, on the kit's print. -/
import Derived.Test.YtggecanpjkpkiaaDoorPx0
import Derived.Test.YtggecanpjkpkiaaDoorPx3
import Derived.Test.YtggecanpjkpkiaaDoorPx4
import Derived.Test.YtggecanpjkpkiaaDoorPx5
import Derived.Test.YtggecanpjkpkiaaDoorPx10
import Derived.Test.YtggecanpjkpkiaaDoorPx11
import Derived.Test.YtggecanpjkpkiaaDoorPx13
import Derived.Test.YtggecanpjkpkiaaDoorPx14
import Derived.Test.YtggecanpjkpkiaaDoorPx17
namespace Go.Proofs.YtggecanpjkpkiaaDoor.P
open Go.RowKit Go.Proofs.YtggecanpjkpkiaaDoorW.PrintWords Go.Proofs.YtggecanpjkpkiaaDoorW.PrintLast Go.Proofs.YtggecanpjkpkiaaDoorW.PrintMore
attribute [local go_sem] max2_int min2_int max_two min_two max_three min_three max_four min_four   -- for this text's walks alone
attribute [local go_sem] Instr.field asAgg
set_option linter.unusedVariables false
set_option linter.unusedSimpArgs false

/-! ### shutterlaw14_EditLines: function 10 -/
def shutterlaw14_EditLines.f (k : Nat) (h : Int) (i : Int) (b : List (S35)) (c : Int) (j : Bool) (l : Bool) (a1 : Int) (y : Int) : Option (Bool) := (shutterlaw14_awake.f k).bind fun m => (if m = true then ((shutterref10_Few.f k h i b c j l).bind fun n => (if n = true then (if (b.length : Int) = 0 then (none) else ((edit_Deny.f h i b c j l (some (Er.num 10)) ([] : List (S164))).bind fun a => ((edit_Line.f k h i b c j l (Int.tmod (wrap64 (a1)) (b.length : Int))).bind fun p => ((shutterref14_Line.f k h i b c j l (Int.tmod (wrap64 (a1)) (b.length : Int))).bind fun q => ((shutterref10_Ints.f k p q).bind fun r => (if r = true then ((edit_Modify.f h i b c j l (Int.tmod (wrap64 (a1)) (b.length : Int))).bind fun d => ((shutterref14_Modify.f k h i b c j l (Int.tmod (wrap64 (a1)) (b.length : Int))).bind fun e => ((shutterref10_Same.f k d.1 d.2.1 d.2.2.1 d.2.2.2.1 d.2.2.2.2.1 d.2.2.2.2.2 e.1 e.2.1 e.2.2.1 e.2.2.2.1 e.2.2.2.2.1 e.2.2.2.2.2).bind fun s => (if s = true then ((edit_Digit.f y).bind fun t => ((shutterref14_Digit.f y).bind fun u => (if (t == u) = true then ((shutterref14_Deny.f h i b c j l).bind fun g => ((shutterref10_Same.f k a.1 a.2.1 a.2.2.1 a.2.2.2.1 a.2.2.2.2.1 a.2.2.2.2.2.1 g.1 g.2.1 g.2.2.1 g.2.2.2.1 g.2.2.2.2.1 g.2.2.2.2.2).bind fun v => (if v = true then ((api_Code.f a.2.2.2.2.2.2.1 a.2.2.2.2.2.2.2).bind fun w => (if w = 10 then ((api_Where.f a.2.2.2.2.2.2.1 a.2.2.2.2.2.2.2).bind fun x => (some (x == c))) else (none))) else (none)))) else (none)))) else (none))))) else (none))))))) else ((shutterlaw14_awake.f k).bind fun o => (some o)))) else (none))
theorem shutterlaw14_EditLines.mono : ∀ a0 a1 a b a4 c d e k, LeO (shutterlaw14_EditLines.f k a0 a1 a b a4 c d e) (shutterlaw14_EditLines.f (k + 1) a0 a1 a b a4 c d e) := by
 intro a0 a1 a b a4 c d e k
 unfold shutterlaw14_EditLines.f
 repeat' first
   | (with_reducible exact edit_Line.mono _ _ _ _ _ _ _ _)
   | (with_reducible exact shutterlaw14_awake.mono _)
   | (with_reducible exact shutterref10_Few.mono _ _ _ _ _ _ _)
   | (with_reducible exact shutterref10_Ints.mono _ _ _)
   | (with_reducible exact shutterref10_Same.mono _ _ _ _ _ _ _ _ _ _ _ _ _)
   | (with_reducible exact shutterref14_Line.mono _ _ _ _ _ _ _ _)
   | (with_reducible exact shutterref14_Modify.mono _ _ _ _ _ _ _ _)
   | (with_reducible exact LeO.refl _)
   | (with_reducible exact LeO.none _)
   | (with_reducible refine LeO.ite ?_ ?_)
   | (with_reducible refine LeO.bind ?_ (fun _ => ?_))
   | exact edit_Line.mono _ _ _ _ _ _ _ _
   | exact shutterlaw14_awake.mono _
   | exact shutterref10_Few.mono _ _ _ _ _ _ _
   | exact shutterref10_Ints.mono _ _ _
   | exact shutterref10_Same.mono _ _ _ _ _ _ _ _ _ _ _ _ _
   | exact shutterref14_Line.mono _ _ _ _ _ _ _ _
   | exact shutterref14_Modify.mono _ _ _ _ _ _ _ _
   | exact LeO.none _
   | refine LeO.ite ?_ ?_
   | refine LeO.bind ?_ (fun _ => ?_)
def shutterlaw14_EditLines.T5 : Bool × List (List Nat × List Nat) := (true, [([], []), ([], []), ([0, 1], [0, 1]), ([], []), ([], []), ([3, 4, 2], [3, 4]), ([2, 5, 5], [2, 5]), ([6, 6], [6]), ([7], [7]), ([7], [7]), ([8, 9, 7, 7], [7, 8, 9]), ([7], [7]), ([7], [7]), ([11, 12, 10, 7], [7, 11, 12]), ([10, 13, 13, 7], [7, 10, 13]), ([7, 14], [7, 14]), ([15, 14], [15]), ([16], [16]), ([17, 16, 16], [16, 17]), ([16], [16]), ([19, 18, 16], [16, 19]), ([18, 20, 16], [16, 18, 20]), ([16, 21], [16, 21]), ([22, 20], [22]), ([23], [23]), ([23], [23]), ([25, 23, 23], [23, 25]), ([24, 26, 26, 23], [23, 24, 26]), ([23, 27], [23, 27]), ([28, 27], [28]), ([29], [29]), ([30, 29, 29], [29, 30]), ([31, 29], [29, 31]), ([29, 32], [29, 32]), ([33, 31], [33]), ([34], [34]), ([35, 34, 34], [34, 35]), ([34], [34]), ([37, 34], [34, 37]), ([36, 38, 34], [34, 36, 38]), ([34, 39], [34, 39]), ([40, 36, 0, 1, 2, 3, 4, 5, 6, 7, 8, 9, 10, 11, 12, 13, 14, 15, 16, 17, 18, 19, 20, 21, 22, 23, 24, 25, 26, 27, 28, 29, 30, 31, 32, 33, 34, 35, 36, 37, 38, 39, 40], [40])])
def shutterlaw14_EditLines.B5 : List Nat := [0, 0, 3, 0, 0, 31, 63, 127, 255, 255, 1023, 255, 255, 8191, 16383, 32767, 65535, 131071, 262143, 131071, 1048575, 2097151, 4194303, 8388607, 16777215, 16777215, 50331647, 134217727, 268435455, 536870911, 1073741823, 2147483647, 4294967295, 8589934591, 17179869183, 34359738367, 68719476735, 34359738367, 171798691839, 549755813887, 1099511627775, 2199023255551]
theorem shutterlaw14_EditLines.tab5 : rtab .any (opsOf Tryd.f10 5) = shutterlaw14_EditLines.T5 := by kernel_rfl
theorem shutterlaw14_EditLines.bits5 : waitsOk shutterlaw14_EditLines.T5.2 shutterlaw14_EditLines.B5 = true := by kernel_rfl
set_option maxHeartbeats 8000000 in
set_option maxRecDepth 100000 in
theorem shutterlaw14_EditLines.calls (k : Nat) (q : Int) (s : Int) (au : Option Addr) (aw : Nat) (d : List (S35)) (j : Int) (u : Bool) (x : Bool) (a1 : Int) (a2 : Int) (r : Bool) (w : World) (bf : Kd.C k35 w au d.length d) (be : d.length ≤ aw) (hG : LaidG w) (h : shutterlaw14_EditLines.f k q s d j u x a1 a2 = some r) :
  Calls Tryd.prog 10 #[.agg #[.int .i64 q, .int .i64 s, .slice au d.length aw, .int .i64 j, .bool u, .bool x], .int .u16 a1, .int .u8 a2] w fun e w' => e = .returned (.bool r) ∧ Below w.heap.size w w' := by
 have HG := Z hG
 clear hG
 have dr := Tryd.underlying24
 have dt := Tryd.underlying28
 have du := Tryd.underlying52
 have aC := Z bf
 have aB := Z be
 clear bf be
 have HB := Z (Below.refl w.heap.size w)
 have H : ((shutterlaw14_awake.f k).bind fun aV => (if aV = true then ((shutterref10_Few.f k q s d j u x).bind fun aJ => (if aJ = true then (if (d.length : Int) = 0 then (none) else ((edit_Deny.f q s d j u x (some (Er.num 10)) ([] : List (S164))).bind fun z => ((edit_Line.f k q s d j u x (Int.tmod (wrap64 (a1)) (d.length : Int))).bind fun ap => ((shutterref14_Line.f k q s d j u x (Int.tmod (wrap64 (a1)) (d.length : Int))).bind fun al => ((shutterref10_Ints.f k ap al).bind fun am => (if am = true then ((edit_Modify.f q s d j u x (Int.tmod (wrap64 (a1)) (d.length : Int))).bind fun m => ((shutterref14_Modify.f k q s d j u x (Int.tmod (wrap64 (a1)) (d.length : Int))).bind fun l => ((shutterref10_Same.f k m.1 m.2.1 m.2.2.1 m.2.2.2.1 m.2.2.2.2.1 m.2.2.2.2.2 l.1 l.2.1 l.2.2.1 l.2.2.2.1 l.2.2.2.2.1 l.2.2.2.2.2).bind fun aa => (if aa = true then ((edit_Digit.f a2).bind fun J => ((shutterref14_Digit.f a2).bind fun I => (if (J == I) = true then ((shutterref14_Deny.f q s d j u x).bind fun c => ((shutterref10_Same.f k z.1 z.2.1 z.2.2.1 z.2.2.2.1 z.2.2.2.2.1 z.2.2.2.2.2.1 c.1 c.2.1 c.2.2.1 c.2.2.2.1 c.2.2.2.2.1 c.2.2.2.2.2).bind fun L => (if L = true then ((api_Code.f z.2.2.2.2.2.2.1 z.2.2.2.2.2.2.2).bind fun D => (if D = 10 then ((api_Where.f z.2.2.2.2.2.2.1 z.2.2.2.2.2.2.2).bind fun G => (some (G == j))) else (none))) else (none)))) else (none)))) else (none))))) else (none))))))) else ((shutterlaw14_awake.f k).bind fun ay => (some ay)))) else (none))) = some r := h
 clear h
 replace H := Option.bind_eq_some_iff.mp H
 obtain ⟨aV, bU, H⟩ := H
 replace H : (if aV = true then ((shutterref10_Few.f k q s d j u x).bind fun aJ => (if aJ = true then (if (d.length : Int) = 0 then (none) else ((edit_Deny.f q s d j u x (some (Er.num 10)) ([] : List (S164))).bind fun z => ((edit_Line.f k q s d j u x (Int.tmod (wrap64 (a1)) (d.length : Int))).bind fun ap => ((shutterref14_Line.f k q s d j u x (Int.tmod (wrap64 (a1)) (d.length : Int))).bind fun al => ((shutterref10_Ints.f k ap al).bind fun am => (if am = true then ((edit_Modify.f q s d j u x (Int.tmod (wrap64 (a1)) (d.length : Int))).bind fun m => ((shutterref14_Modify.f k q s d j u x (Int.tmod (wrap64 (a1)) (d.length : Int))).bind fun l => ((shutterref10_Same.f k m.1 m.2.1 m.2.2.1 m.2.2.2.1 m.2.2.2.2.1 m.2.2.2.2.2 l.1 l.2.1 l.2.2.1 l.2.2.2.1 l.2.2.2.2.1 l.2.2.2.2.2).bind fun aa => (if aa = true then ((edit_Digit.f a2).bind fun J => ((shutterref14_Digit.f a2).bind fun I => (if (J == I) = true then ((shutterref14_Deny.f q s d j u x).bind fun c => ((shutterref10_Same.f k z.1 z.2.1 z.2.2.1 z.2.2.2.1 z.2.2.2.2.1 z.2.2.2.2.2.1 c.1 c.2.1 c.2.2.1 c.2.2.2.1 c.2.2.2.2.1 c.2.2.2.2.2).bind fun L => (if L = true then ((api_Code.f z.2.2.2.2.2.2.1 z.2.2.2.2.2.2.2).bind fun D => (if D = 10 then ((api_Where.f z.2.2.2.2.2.2.1 z.2.2.2.2.2.2.2).bind fun G => (some (G == j))) else (none))) else (none)))) else (none)))) else (none))))) else (none))))))) else ((shutterlaw14_awake.f k).bind fun ay => (some ay)))) else (none)) = some r := H
 have A4 := Z bU
 clear bU
 by_cases c5 : aV = true
 ·subst c5
  have H1 : ((shutterref10_Few.f k q s d j u x).bind fun aJ => (if aJ = true then (if (d.length : Int) = 0 then (none) else ((edit_Deny.f q s d j u x (some (Er.num 10)) ([] : List (S164))).bind fun z => ((edit_Line.f k q s d j u x (Int.tmod (wrap64 (a1)) (d.length : Int))).bind fun ap => ((shutterref14_Line.f k q s d j u x (Int.tmod (wrap64 (a1)) (d.length : Int))).bind fun al => ((shutterref10_Ints.f k ap al).bind fun am => (if am = true then ((edit_Modify.f q s d j u x (Int.tmod (wrap64 (a1)) (d.length : Int))).bind fun m => ((shutterref14_Modify.f k q s d j u x (Int.tmod (wrap64 (a1)) (d.length : Int))).bind fun l => ((shutterref10_Same.f k m.1 m.2.1 m.2.2.1 m.2.2.2.1 m.2.2.2.2.1 m.2.2.2.2.2 l.1 l.2.1 l.2.2.1 l.2.2.2.1 l.2.2.2.2.1 l.2.2.2.2.2).bind fun aa => (if aa = true then ((edit_Digit.f a2).bind fun J => ((shutterref14_Digit.f a2).bind fun I => (if (J == I) = true then ((shutterref14_Deny.f q s d j u x).bind fun c => ((shutterref10_Same.f k z.1 z.2.1 z.2.2.1 z.2.2.2.1 z.2.2.2.2.1 z.2.2.2.2.2.1 c.1 c.2.1 c.2.2.1 c.2.2.2.1 c.2.2.2.2.1 c.2.2.2.2.2).bind fun L => (if L = true then ((api_Code.f z.2.2.2.2.2.2.1 z.2.2.2.2.2.2.2).bind fun D => (if D = 10 then ((api_Where.f z.2.2.2.2.2.2.1 z.2.2.2.2.2.2.2).bind fun G => (some (G == j))) else (none))) else (none)))) else (none)))) else (none))))) else (none))))))) else ((shutterlaw14_awake.f k).bind fun ay => (some ay)))) = some r := by rw [if_pos rfl] at H; exact H
  clear H
  have H := H1
  clear H1
  replace H := Option.bind_eq_some_iff.mp H
  obtain ⟨aJ, bW, H⟩ := H
  replace H : (if aJ = true then (if (d.length : Int) = 0 then (none) else ((edit_Deny.f q s d j u x (some (Er.num 10)) ([] : List (S164))).bind fun z => ((edit_Line.f k q s d j u x (Int.tmod (wrap64 (a1)) (d.length : Int))).bind fun ap => ((shutterref14_Line.f k q s d j u x (Int.tmod (wrap64 (a1)) (d.length : Int))).bind fun al => ((shutterref10_Ints.f k ap al).bind fun am => (if am = true then ((edit_Modify.f q s d j u x (Int.tmod (wrap64 (a1)) (d.length : Int))).bind fun m => ((shutterref14_Modify.f k q s d j u x (Int.tmod (wrap64 (a1)) (d.length : Int))).bind fun l => ((shutterref10_Same.f k m.1 m.2.1 m.2.2.1 m.2.2.2.1 m.2.2.2.2.1 m.2.2.2.2.2 l.1 l.2.1 l.2.2.1 l.2.2.2.1 l.2.2.2.2.1 l.2.2.2.2.2).bind fun aa => (if aa = true then ((edit_Digit.f a2).bind fun J => ((shutterref14_Digit.f a2).bind fun I => (if (J == I) = true then ((shutterref14_Deny.f q s d j u x).bind fun c => ((shutterref10_Same.f k z.1 z.2.1 z.2.2.1 z.2.2.2.1 z.2.2.2.2.1 z.2.2.2.2.2.1 c.1 c.2.1 c.2.2.1 c.2.2.2.1 c.2.2.2.2.1 c.2.2.2.2.2).bind fun L => (if L = true then ((api_Code.f z.2.2.2.2.2.2.1 z.2.2.2.2.2.2.2).bind fun D => (if D = 10 then ((api_Where.f z.2.2.2.2.2.2.1 z.2.2.2.2.2.2.2).bind fun G => (some (G == j))) else (none))) else (none)))) else (none)))) else (none))))) else (none))))))) else ((shutterlaw14_awake.f k).bind fun ay => (some ay))) = some r := H
  have A6 := Z bW
  clear bW
  by_cases c7 : aJ = true
  ·subst c7
   have H1 : (if (d.length : Int) = 0 then (none) else ((edit_Deny.f q s d j u x (some (Er.num 10)) ([] : List (S164))).bind fun z => ((edit_Line.f k q s d j u x (Int.tmod (wrap64 (a1)) (d.length : Int))).bind fun ap => ((shutterref14_Line.f k q s d j u x (Int.tmod (wrap64 (a1)) (d.length : Int))).bind fun al => ((shutterref10_Ints.f k ap al).bind fun am => (if am = true then ((edit_Modify.f q s d j u x (Int.tmod (wrap64 (a1)) (d.length : Int))).bind fun m => ((shutterref14_Modify.f k q s d j u x (Int.tmod (wrap64 (a1)) (d.length : Int))).bind fun l => ((shutterref10_Same.f k m.1 m.2.1 m.2.2.1 m.2.2.2.1 m.2.2.2.2.1 m.2.2.2.2.2 l.1 l.2.1 l.2.2.1 l.2.2.2.1 l.2.2.2.2.1 l.2.2.2.2.2).bind fun aa => (if aa = true then ((edit_Digit.f a2).bind fun J => ((shutterref14_Digit.f a2).bind fun I => (if (J == I) = true then ((shutterref14_Deny.f q s d j u x).bind fun c => ((shutterref10_Same.f k z.1 z.2.1 z.2.2.1 z.2.2.2.1 z.2.2.2.2.1 z.2.2.2.2.2.1 c.1 c.2.1 c.2.2.1 c.2.2.2.1 c.2.2.2.2.1 c.2.2.2.2.2).bind fun L => (if L = true then ((api_Code.f z.2.2.2.2.2.2.1 z.2.2.2.2.2.2.2).bind fun D => (if D = 10 then ((api_Where.f z.2.2.2.2.2.2.1 z.2.2.2.2.2.2.2).bind fun G => (some (G == j))) else (none))) else (none)))) else (none)))) else (none))))) else (none))))))) = some r := by rw [if_pos rfl] at H; exact H
   clear H
   have H := H1
   clear H1
   by_cases c8 : (d.length : Int) = 0
   ·rw [if_pos c8] at H
    exact absurd H (by simp)
   ·rw [if_neg c8] at H
    have dn : ((d.length : Int) == 0) = false := beq_eq_false_iff_ne.mpr c8
    have dp : ((d.length : Int) != 0) = true := bne_iff_ne.mpr c8
    have dq : ¬ (d = []) := fun h_ => c8 (by rw [h_]; rfl)
    replace H := Option.bind_eq_some_iff.mp H
    obtain ⟨⟨ab, ac, X, ad, ae, af, P, O⟩, bX, H⟩ := H
    replace H : ((edit_Line.f k q s d j u x (Int.tmod (wrap64 (a1)) (d.length : Int))).bind fun ap => ((shutterref14_Line.f k q s d j u x (Int.tmod (wrap64 (a1)) (d.length : Int))).bind fun al => ((shutterref10_Ints.f k ap al).bind fun am => (if am = true then ((edit_Modify.f q s d j u x (Int.tmod (wrap64 (a1)) (d.length : Int))).bind fun m => ((shutterref14_Modify.f k q s d j u x (Int.tmod (wrap64 (a1)) (d.length : Int))).bind fun l => ((shutterref10_Same.f k m.1 m.2.1 m.2.2.1 m.2.2.2.1 m.2.2.2.2.1 m.2.2.2.2.2 l.1 l.2.1 l.2.2.1 l.2.2.2.1 l.2.2.2.2.1 l.2.2.2.2.2).bind fun aa => (if aa = true then ((edit_Digit.f a2).bind fun J => ((shutterref14_Digit.f a2).bind fun I => (if (J == I) = true then ((shutterref14_Deny.f q s d j u x).bind fun c => ((shutterref10_Same.f k ab ac X ad ae af c.1 c.2.1 c.2.2.1 c.2.2.2.1 c.2.2.2.2.1 c.2.2.2.2.2).bind fun L => (if L = true then ((api_Code.f P O).bind fun D => (if D = 10 then ((api_Where.f P O).bind fun G => (some (G == j))) else (none))) else (none)))) else (none)))) else (none))))) else (none))))) = some r := H
    have A9 := Z bX
    clear bX
    replace H := Option.bind_eq_some_iff.mp H
    obtain ⟨ap, bq, H⟩ := H
    replace H : ((shutterref14_Line.f k q s d j u x (Int.tmod (wrap64 (a1)) (d.length : Int))).bind fun al => ((shutterref10_Ints.f k ap al).bind fun am => (if am = true then ((edit_Modify.f q s d j u x (Int.tmod (wrap64 (a1)) (d.length : Int))).bind fun m => ((shutterref14_Modify.f k q s d j u x (Int.tmod (wrap64 (a1)) (d.length : Int))).bind fun l => ((shutterref10_Same.f k m.1 m.2.1 m.2.2.1 m.2.2.2.1 m.2.2.2.2.1 m.2.2.2.2.2 l.1 l.2.1 l.2.2.1 l.2.2.2.1 l.2.2.2.2.1 l.2.2.2.2.2).bind fun aa => (if aa = true then ((edit_Digit.f a2).bind fun J => ((shutterref14_Digit.f a2).bind fun I => (if (J == I) = true then ((shutterref14_Deny.f q s d j u x).bind fun c => ((shutterref10_Same.f k ab ac X ad ae af c.1 c.2.1 c.2.2.1 c.2.2.2.1 c.2.2.2.2.1 c.2.2.2.2.2).bind fun L => (if L = true then ((api_Code.f P O).bind fun D => (if D = 10 then ((api_Where.f P O).bind fun G => (some (G == j))) else (none))) else (none)))) else (none)))) else (none))))) else (none)))) = some r := H
    have c0 := Z bq
    clear bq
    replace H := Option.bind_eq_some_iff.mp H
    obtain ⟨al, br, H⟩ := H
    replace H : ((shutterref10_Ints.f k ap al).bind fun am => (if am = true then ((edit_Modify.f q s d j u x (Int.tmod (wrap64 (a1)) (d.length : Int))).bind fun m => ((shutterref14_Modify.f k q s d j u x (Int.tmod (wrap64 (a1)) (d.length : Int))).bind fun l => ((shutterref10_Same.f k m.1 m.2.1 m.2.2.1 m.2.2.2.1 m.2.2.2.2.1 m.2.2.2.2.2 l.1 l.2.1 l.2.2.1 l.2.2.2.1 l.2.2.2.2.1 l.2.2.2.2.2).bind fun aa => (if aa = true then ((edit_Digit.f a2).bind fun J => ((shutterref14_Digit.f a2).bind fun I => (if (J == I) = true then ((shutterref14_Deny.f q s d j u x).bind fun c => ((shutterref10_Same.f k ab ac X ad ae af c.1 c.2.1 c.2.2.1 c.2.2.2.1 c.2.2.2.2.1 c.2.2.2.2.2).bind fun L => (if L = true then ((api_Code.f P O).bind fun D => (if D = 10 then ((api_Where.f P O).bind fun G => (some (G == j))) else (none))) else (none)))) else (none)))) else (none))))) else (none))) = some r := H
    have c1 := Z br
    clear br
    replace H := Option.bind_eq_some_iff.mp H
    obtain ⟨am, bs, H⟩ := H
    replace H : (if am = true then ((edit_Modify.f q s d j u x (Int.tmod (wrap64 (a1)) (d.length : Int))).bind fun m => ((shutterref14_Modify.f k q s d j u x (Int.tmod (wrap64 (a1)) (d.length : Int))).bind fun l => ((shutterref10_Same.f k m.1 m.2.1 m.2.2.1 m.2.2.2.1 m.2.2.2.2.1 m.2.2.2.2.2 l.1 l.2.1 l.2.2.1 l.2.2.2.1 l.2.2.2.2.1 l.2.2.2.2.2).bind fun aa => (if aa = true then ((edit_Digit.f a2).bind fun J => ((shutterref14_Digit.f a2).bind fun I => (if (J == I) = true then ((shutterref14_Deny.f q s d j u x).bind fun c => ((shutterref10_Same.f k ab ac X ad ae af c.1 c.2.1 c.2.2.1 c.2.2.2.1 c.2.2.2.2.1 c.2.2.2.2.2).bind fun L => (if L = true then ((api_Code.f P O).bind fun D => (if D = 10 then ((api_Where.f P O).bind fun G => (some (G == j))) else (none))) else (none)))) else (none)))) else (none))))) else (none)) = some r := H
    have c2 := Z bs
    clear bs
    by_cases bb : am = true
    ·subst bb
     have H1 : ((edit_Modify.f q s d j u x (Int.tmod (wrap64 (a1)) (d.length : Int))).bind fun m => ((shutterref14_Modify.f k q s d j u x (Int.tmod (wrap64 (a1)) (d.length : Int))).bind fun l => ((shutterref10_Same.f k m.1 m.2.1 m.2.2.1 m.2.2.2.1 m.2.2.2.2.1 m.2.2.2.2.2 l.1 l.2.1 l.2.2.1 l.2.2.2.1 l.2.2.2.2.1 l.2.2.2.2.2).bind fun aa => (if aa = true then ((edit_Digit.f a2).bind fun J => ((shutterref14_Digit.f a2).bind fun I => (if (J == I) = true then ((shutterref14_Deny.f q s d j u x).bind fun c => ((shutterref10_Same.f k ab ac X ad ae af c.1 c.2.1 c.2.2.1 c.2.2.2.1 c.2.2.2.2.1 c.2.2.2.2.2).bind fun L => (if L = true then ((api_Code.f P O).bind fun D => (if D = 10 then ((api_Where.f P O).bind fun G => (some (G == j))) else (none))) else (none)))) else (none)))) else (none))))) = some r := by rw [if_pos rfl] at H; exact H
     clear H
     have H := H1
     clear H1
     replace H := Option.bind_eq_some_iff.mp H
     obtain ⟨⟨aM, aN, aO, aP, aQ, aR⟩, bt, H⟩ := H
     replace H : ((shutterref14_Modify.f k q s d j u x (Int.tmod (wrap64 (a1)) (d.length : Int))).bind fun l => ((shutterref10_Same.f k aM aN aO aP aQ aR l.1 l.2.1 l.2.2.1 l.2.2.2.1 l.2.2.2.2.1 l.2.2.2.2.2).bind fun aa => (if aa = true then ((edit_Digit.f a2).bind fun J => ((shutterref14_Digit.f a2).bind fun I => (if (J == I) = true then ((shutterref14_Deny.f q s d j u x).bind fun c => ((shutterref10_Same.f k ab ac X ad ae af c.1 c.2.1 c.2.2.1 c.2.2.2.1 c.2.2.2.2.1 c.2.2.2.2.2).bind fun L => (if L = true then ((api_Code.f P O).bind fun D => (if D = 10 then ((api_Where.f P O).bind fun G => (some (G == j))) else (none))) else (none)))) else (none)))) else (none)))) = some r := H
     have c3 := Z bt
     clear bt
     replace H := Option.bind_eq_some_iff.mp H
     obtain ⟨⟨aW, aX, aY, aZ, a0, a3⟩, bu, H⟩ := H
     replace H : ((shutterref10_Same.f k aM aN aO aP aQ aR aW aX aY aZ a0 a3).bind fun aa => (if aa = true then ((edit_Digit.f a2).bind fun J => ((shutterref14_Digit.f a2).bind fun I => (if (J == I) = true then ((shutterref14_Deny.f q s d j u x).bind fun c => ((shutterref10_Same.f k ab ac X ad ae af c.1 c.2.1 c.2.2.1 c.2.2.2.1 c.2.2.2.2.1 c.2.2.2.2.2).bind fun L => (if L = true then ((api_Code.f P O).bind fun D => (if D = 10 then ((api_Where.f P O).bind fun G => (some (G == j))) else (none))) else (none)))) else (none)))) else (none))) = some r := H
     have c4 := Z bu
     clear bu
     replace H := Option.bind_eq_some_iff.mp H
     obtain ⟨aa, bw, H⟩ := H
     replace H : (if aa = true then ((edit_Digit.f a2).bind fun J => ((shutterref14_Digit.f a2).bind fun I => (if (J == I) = true then ((shutterref14_Deny.f q s d j u x).bind fun c => ((shutterref10_Same.f k ab ac X ad ae af c.1 c.2.1 c.2.2.1 c.2.2.2.1 c.2.2.2.2.1 c.2.2.2.2.2).bind fun L => (if L = true then ((api_Code.f P O).bind fun D => (if D = 10 then ((api_Where.f P O).bind fun G => (some (G == j))) else (none))) else (none)))) else (none)))) else (none)) = some r := H
     have c6 := Z bw
     clear bw
     by_cases bc : aa = true
     ·subst bc
      have H1 : ((edit_Digit.f a2).bind fun J => ((shutterref14_Digit.f a2).bind fun I => (if (J == I) = true then ((shutterref14_Deny.f q s d j u x).bind fun c => ((shutterref10_Same.f k ab ac X ad ae af c.1 c.2.1 c.2.2.1 c.2.2.2.1 c.2.2.2.2.1 c.2.2.2.2.2).bind fun L => (if L = true then ((api_Code.f P O).bind fun D => (if D = 10 then ((api_Where.f P O).bind fun G => (some (G == j))) else (none))) else (none)))) else (none)))) = some r := by rw [if_pos rfl] at H; exact H
      clear H
      have H := H1
      clear H1
      replace H := Option.bind_eq_some_iff.mp H
      obtain ⟨J, bx, H⟩ := H
      replace H : ((shutterref14_Digit.f a2).bind fun I => (if (J == I) = true then ((shutterref14_Deny.f q s d j u x).bind fun c => ((shutterref10_Same.f k ab ac X ad ae af c.1 c.2.1 c.2.2.1 c.2.2.2.1 c.2.2.2.2.1 c.2.2.2.2.2).bind fun L => (if L = true then ((api_Code.f P O).bind fun D => (if D = 10 then ((api_Where.f P O).bind fun G => (some (G == j))) else (none))) else (none)))) else (none))) = some r := H
      have c9 := Z bx
      clear bx
      replace H := Option.bind_eq_some_iff.mp H
      obtain ⟨I, bz, H⟩ := H
      replace H : (if (J == I) = true then ((shutterref14_Deny.f q s d j u x).bind fun c => ((shutterref10_Same.f k ab ac X ad ae af c.1 c.2.1 c.2.2.1 c.2.2.2.1 c.2.2.2.2.1 c.2.2.2.2.2).bind fun L => (if L = true then ((api_Code.f P O).bind fun D => (if D = 10 then ((api_Where.f P O).bind fun G => (some (G == j))) else (none))) else (none)))) else (none)) = some r := H
      have da := Z bz
      clear bz
      by_cases aE : (J == I) = true
      ·rw [if_pos aE] at H
       have bP : (J == I) = true := aE
       (try (have bQ : decide (J = I) = true := by simpa using aE))
       (try (have bR : (J == I) = true := by simpa using aE))
       clear aE
       replace H := Option.bind_eq_some_iff.mp H
       obtain ⟨⟨a4, a5, a6, a7, a8, a9⟩, bA, H⟩ := H
       replace H : ((shutterref10_Same.f k ab ac X ad ae af a4 a5 a6 a7 a8 a9).bind fun L => (if L = true then ((api_Code.f P O).bind fun D => (if D = 10 then ((api_Where.f P O).bind fun G => (some (G == j))) else (none))) else (none))) = some r := H
       have db := Z bA
       clear bA
       replace H := Option.bind_eq_some_iff.mp H
       obtain ⟨L, bB, H⟩ := H
       replace H : (if L = true then ((api_Code.f P O).bind fun D => (if D = 10 then ((api_Where.f P O).bind fun G => (some (G == j))) else (none))) else (none)) = some r := H
       have dc := Z bB
       clear bB
       by_cases bd : L = true
       ·subst bd
        have H1 : ((api_Code.f P O).bind fun D => (if D = 10 then ((api_Where.f P O).bind fun G => (some (G == j))) else (none))) = some r := by rw [if_pos rfl] at H; exact H
        clear H
        have H := H1
        clear H1
        replace H := Option.bind_eq_some_iff.mp H
        obtain ⟨D, bC, H⟩ := H
        replace H : (if D = 10 then ((api_Where.f P O).bind fun G => (some (G == j))) else (none)) = some r := H
        have dd := Z bC
        clear bC
        by_cases aL : D = 10
        ·rw [if_pos aL] at H
         have bS : (D == 10) = true := beq_iff_eq.mpr aL
         have bT : (D != 10) = false := bne_eq_false_iff_eq.mpr aL
         clear aL
         replace H := Option.bind_eq_some_iff.mp H
         obtain ⟨G, bD, H⟩ := H
         replace H : (some (G == j)) = some r := H
         have de := Z bD
         clear bD
         obtain rfl := Option.some.inj H
         go_enter Tryd.func10, Tryd.ntmps10
         try go_wp2_with (first | ((with_reducible refine gate_dst (N := 3) rfl ?_); refine box_event ?hg (N := 3) ?hd (cs := #[.int .i64 q, .int .i64 s, .slice au d.length aw, .int .i64 j, .bool u, .bool x]) (t := 24) ?hr ?_; (case hd => rfl); (case hg => rfl); (case hr => first | (go_simp; done) | (go_simp; rfl)); intro ak hg dA hbox hb; have E := Z (below_step bl_ hb); have F := Z (hbox); have Q := Z ((le_new hg (below_size bl_) : w.heap.size ≤ ak)); have T := Z ((le_new hg (below_size bl_) : w.heap.size ≤ ak)); clear HB; have HB := E; have a := F; have bO := Q; have bN := T; clear E F Q T; clear hb hbox hg) | ((with_reducible refine gate_callee (f := 30) rfl ?_); refine goesL_ (some 10) rfl rfl Tryd.func30 (by kernel_rfl) rfl #[] rfl ag_ ?_; (with_reducible refine (shutterlaw14_awake.calls k  true _ ?sideG A4.out).mono ?_); (case sideG => exact laidG_below HG.out bl_ rfl); rintro e dB ⟨rfl, hb⟩; refine ⟨_, rfl, ?_⟩; have E := Z (kb a.out hb); have F := Z (below_step bl_ hb); clear a HB; have a := E; have HB := F; clear E F; (try clear hb); (try clear aD); (try clear hk); (try clear hi); obtain ⟨cd, ce, cf, cg, ch, ci, cC, cD, cE, cF, cG, cH⟩ := cells6 a.out) | (go_at_call 18; (with_reducible refine (shutterref10_Few.calls k q s _ _ d j u x true _ ?side1 ?side2 A6.out).mono ?_); (case side1 => repeat (first | exact (Kd.C_below aC.out HB.out) | (with_reducible apply pC))); (case side2 => exact aB.out); rintro e dC ⟨rfl, hb⟩; have E := Z (kb a.out hb); have F := Z (below_step bl_ hb); clear a HB; have a := E; have HB := F; clear E F; (try clear hb); (try clear aD); (try clear hk); (try clear hi); obtain ⟨cj, ck, cl, cm, cn, co, cI, cJ, cK, cL, cM, cN⟩ := cells6 a.out) | ((with_reducible refine gate_callee (f := 34) rfl ?_); refine goesL_ (some 27) rfl rfl Tryd.func34 (by kernel_rfl) rfl #[.agg #[.int .i64 q, .int .i64 s, .slice au d.length aw, .int .i64 j, .bool u, .bool x], errW (.slice none 0 0) (some (Er.num 10))] rfl ag_ ?_; (refine (edit_Deny.calls q s _ _ d j u x (some (Er.num 10)) _ _ ([] : List (S164)) ab ac X ad ae af P O _ ?side1 ?side2 ?side3 ?side4 A9.out).mono ?_); (case side1 => repeat (first | exact (Kd.C_below aC.out HB.out) | (with_reducible apply pC))); (case side2 => exact aB.out); (case side3 => exact Kd.C_nil _ _); (case side4 => exact Nat.le_refl _); rintro e dD ⟨cb, cc, rfl, ah, bY, hb⟩; refine ⟨_, rfl, ?_⟩; have E := Z (Kd.R_lower (Kd.R_mono (ok' := fun k_ => True) ah (fun _ hk_ => trivial)) (below_size bl_)); have F := Z (Kd.V_lower (Kd.V_mono (ok' := fun k_ => some k_ ≠ (cb : Value).ownBlock ∧ k_ ≠ ak) bY (fun k_ hk_ => ⟨hk_.2, (Kd.freshB (g := ak) (o := .cells #[.int .i64 q, .int .i64 s, .slice au d.length aw, .int .i64 j, .bool u, .bool x] 24 (0, 0)) (by (with_reducible repeat apply pK); exact a.out) k_ hk_.1)⟩)) (below_size bl_)); have Q := Z (kb a.out hb); have T := Z (below_step bl_ hb); clear a HB; have A := E; have B := F; have a := Q; have HB := T; clear E F Q T; (try clear hb); (try clear aD); (try clear hk); (try clear hi); (try clear ah); (try clear bY); (try simp only [errW_none, errW_some])) | ((with_reducible refine gate_dst (N := 8) rfl ?_); refine box_event ?hg (N := 8) ?hd (cs := #[.int .i64 0, .int .i64 0, .slice none 0 0, .int .i64 0, .bool false, .bool false]) (t := 24) ?hr ?_; (case hd => rfl); (case hg => rfl); (case hr => first | (go_simp; done) | (go_simp; rfl)); intro y hg aU hbox hb; have E := Z (rb A.out hb); have F := Z (ve B.out hg hb); have Q := Z (kb a.out hb); have T := Z (below_step bl_ hb); have Y := Z (hbox); have ai := Z ((le_new hg (below_size bl_) : w.heap.size ≤ y)); have aj := Z ((le_new hg (below_size bl_) : w.heap.size ≤ y)); have ao := Z (nl a.out hg); have ar := Z (ng a.out hg); clear A B a HB; have A := E; have B := F; have a := Q; have HB := T; have b := Y; have di := ai; have dh := aj; have aK := ao; have ba := ar; clear E F Q T Y ai aj ao ar; clear hb hbox hg; have dk := ba.out; have dl := aK.out; obtain ⟨cp, cq, cr, ct, cu, cv, cO, cP, cQ, cR, cS, cT⟩ := cells6 b.out; obtain ⟨av, ax, ca⟩ := Kd.R_slice A.out; subst ca))
         have E : Aside0 (Kd.R k35 35 ((((((aU.setCell ⟨y, 0, none⟩ (.int .i64 ab)).setCell ⟨y, 1, none⟩ (.int .i64 ac)).setCell ⟨y, 2, none⟩ (.slice av X.length ax)).setCell ⟨y, 3, none⟩ (.int .i64 ad)).setCell ⟨y, 4, none⟩ (.bool ae)).setCell ⟨y, 5, none⟩ (.bool af)) w.heap.size (fun _ => True) (.slice av X.length ax) X) := ⟨by (with_reducible repeat apply pR); exact Kd.R_mono (Kd.R_far (p := ⟨y, 5, none⟩) (Kd.R_far (p := ⟨y, 4, none⟩) (Kd.R_far (p := ⟨y, 3, none⟩) (Kd.R_far (p := ⟨y, 2, none⟩) (Kd.R_far (p := ⟨y, 1, none⟩) (Kd.R_far (p := ⟨y, 0, none⟩) (Kd.R_types A.out b.out (by decide)) (fun _ hk => hk.2) (.int .i64 ab)) (fun _ hk => hk.2) (.int .i64 ac)) (fun _ hk => hk.2) (.slice av X.length ax)) (fun _ hk => hk.2) (.int .i64 ad)) (fun _ hk => hk.2) (.bool ae)) (fun _ hk => hk.2) (.bool af)) (fun _ hk => trivial)⟩
         have F : Aside0 (Kd.V k164 164 ((((((aU.setCell ⟨y, 0, none⟩ (.int .i64 ab)).setCell ⟨y, 1, none⟩ (.int .i64 ac)).setCell ⟨y, 2, none⟩ (.slice av X.length ax)).setCell ⟨y, 3, none⟩ (.int .i64 ad)).setCell ⟨y, 4, none⟩ (.bool ae)).setCell ⟨y, 5, none⟩ (.bool af)) w.heap.size (fun k_ => some k_ ≠ (.slice av X.length ax : Value).ownBlock ∧ k_ ≠ ak ∧ k_ ≠ y) cc O) := ⟨by (with_reducible repeat apply pV); exact Kd.V_mono (Kd.V_far (p := ⟨y, 5, none⟩) (Kd.V_far (p := ⟨y, 4, none⟩) (Kd.V_far (p := ⟨y, 3, none⟩) (Kd.V_far (p := ⟨y, 2, none⟩) (Kd.V_far (p := ⟨y, 1, none⟩) (Kd.V_far (p := ⟨y, 0, none⟩) (Kd.V_mono B.out (fun k_ hk => (⟨hk, hk.2⟩ : _ ∧ k_ ≠ y))) (fun _ hk => hk.2) (.int .i64 ab)) (fun _ hk => hk.2) (.int .i64 ac)) (fun _ hk => hk.2) (.slice av X.length ax)) (fun _ hk => hk.2) (.int .i64 ad)) (fun _ hk => hk.2) (.bool ae)) (fun _ hk => hk.2) (.bool af)) (fun _ hk => ⟨hk.1.1.1, ⟨hk.1.1.2, hk.1.2⟩⟩)⟩
         have Q : Aside0 (((((((aU.setCell ⟨y, 0, none⟩ (.int .i64 ab)).setCell ⟨y, 1, none⟩ (.int .i64 ac)).setCell ⟨y, 2, none⟩ (.slice av X.length ax)).setCell ⟨y, 3, none⟩ (.int .i64 ad)).setCell ⟨y, 4, none⟩ (.bool ae)).setCell ⟨y, 5, none⟩ (.bool af)).heap[ak]? = some (.cells #[.int .i64 q, .int .i64 s, .slice au d.length aw, .int .i64 j, .bool u, .bool x] 24 (0, 0))) := ⟨blk_off a.out aK.out off2_⟩
         have T : Aside0 (((((((aU.setCell ⟨y, 0, none⟩ (.int .i64 ab)).setCell ⟨y, 1, none⟩ (.int .i64 ac)).setCell ⟨y, 2, none⟩ (.slice av X.length ax)).setCell ⟨y, 3, none⟩ (.int .i64 ad)).setCell ⟨y, 4, none⟩ (.bool ae)).setCell ⟨y, 5, none⟩ (.bool af)).heap[y]? = some (.cells #[.int .i64 ab, .int .i64 ac, .slice av X.length ax, .int .i64 ad, .bool ae, .bool af] 24 (0, 0))) := ⟨put6 b.out⟩
         have Y : Aside0 (Below w.heap.size w ((((((aU.setCell ⟨y, 0, none⟩ (.int .i64 ab)).setCell ⟨y, 1, none⟩ (.int .i64 ac)).setCell ⟨y, 2, none⟩ (.slice av X.length ax)).setCell ⟨y, 3, none⟩ (.int .i64 ad)).setCell ⟨y, 4, none⟩ (.bool ae)).setCell ⟨y, 5, none⟩ (.bool af))) := ⟨bl_⟩
         (try clear A)
         (try clear B)
         (try clear a)
         (try clear b)
         (try clear HB)
         generalize ((((((aU.setCell ⟨y, 0, none⟩ (.int .i64 ab)).setCell ⟨y, 1, none⟩ (.int .i64 ac)).setCell ⟨y, 2, none⟩ (.slice av X.length ax)).setCell ⟨y, 3, none⟩ (.int .i64 ad)).setCell ⟨y, 4, none⟩ (.bool ae)).setCell ⟨y, 5, none⟩ (.bool af)) = dg at E F Q T Y ⊢
         have A := E
         have B := F
         have a := Q
         have b := T
         have HB := Y
         clear E F Q T Y
         have E := Z (Kd.R_drew A.out)
         have F := Z (Kd.V_drew B.out)
         have Q := Z (blk_drew a.out)
         have T := Z (blk_drew b.out)
         have Y := Z (below_drew1 HB.out)
         clear A
         clear B
         clear a
         clear b
         clear HB
         have A := E
         have B := F
         have a := Q
         have b := T
         have HB := Y
         clear E F Q T Y
         refine start_ (n := 42) (S := fun w' => w'.cell? ⟨ak, 0, none⟩ = some (.int .i64 q) ∧ w'.cell? ⟨ak, 1, none⟩ = some (.int .i64 s) ∧ w'.cell? ⟨ak, 2, none⟩ = some (.slice au d.length aw) ∧ w'.cell? ⟨ak, 3, none⟩ = some (.int .i64 j) ∧ w'.cell? ⟨ak, 4, none⟩ = some (.bool u) ∧ w'.cell? ⟨ak, 5, none⟩ = some (.bool x) ∧ w'.cell? ⟨y, 0, none⟩ = some (.int .i64 ab) ∧ w'.cell? ⟨y, 1, none⟩ = some (.int .i64 ac) ∧ w'.cell? ⟨y, 2, none⟩ = some (.slice av X.length ax) ∧ w'.cell? ⟨y, 3, none⟩ = some (.int .i64 ad) ∧ w'.cell? ⟨y, 4, none⟩ = some (.bool ae) ∧ w'.cell? ⟨y, 5, none⟩ = some (.bool af)) (ds := []) (bv 42 0) (by kernel_rfl) rfl rfl ⟨(blk_cell a.out 0).trans rfl, (blk_cell a.out 1).trans rfl, (blk_cell a.out 2).trans rfl, (blk_cell a.out 3).trans rfl, (blk_cell a.out 4).trans rfl, (blk_cell a.out 5).trans rfl, (blk_cell b.out 0).trans rfl, (blk_cell b.out 1).trans rfl, (blk_cell b.out 2).trans rfl, (blk_cell b.out 3).trans rfl, (blk_cell b.out 4).trans rfl, (blk_cell b.out 5).trans rfl⟩ (fun hHeld => ?_); refine with_tabW shutterlaw14_EditLines.tab5 shutterlaw14_EditLines.bits5 (fun HT_ HW_ => ?_)
         generalize dg.drew = dE at A B a b HB hHeld ⊢
         refine pure_ (i := 1) (N := some 31) (v := ?_) (a' := ?_) (bv 42 2) rfl rfl (any_of HT_.out (by kernel_rfl)) (fun _ _ _ h => h) (Or.inl ⟨by rfl, ?_⟩) ?_ ?_
         rotate_left
         ·intro w'
          go_simp
          with_reducible rfl
         rotate_left
         ·simp only [Act.put, sA, sB, sC, i64_w, i32_w]
          rfl
         refine pure_ (i := 4) (N := some 34) (v := ?_) (a' := ?_) (bv 42 18) rfl rfl (any_of HT_.out (by kernel_rfl)) (fun _ _ _ h => h) (Or.inl ⟨by rfl, ?_⟩) ?_ ?_
         rotate_left
         ·intro w'
          go_simp
          with_reducible rfl
         rotate_left
         ·simp only [Act.put, sA, sB, sC, i64_w, i32_w]
          rfl
         refine take_ (i := 0) (N := some 30) (v := ?_) (a' := ?_) (bv 42 19) rfl rfl (take_ofW HT_.out HW_.out (by kernel_rfl)) (fun _ _ _ h => h) (Or.inl ⟨by rfl, ?_⟩) hHeld ?_ ?_
         rotate_left
         ·rintro w' ⟨s0, s1, s2, s3, s4, s5, s6, s7, s8, s9, aS, aT⟩
          go_simp
          with_reducible rfl
         rotate_left
         ·simp only [Act.put, sA, sB, sC, i64_w, i32_w]
          rfl
         refine take_ (i := 3) (N := some 33) (v := ?_) (a' := ?_) (bv 42 27) rfl rfl (take_ofW HT_.out HW_.out (by kernel_rfl)) (fun _ _ _ h => h) (Or.inl ⟨by rfl, ?_⟩) hHeld ?_ ?_
         rotate_left
         ·rintro w' ⟨s0, s1, s2, s3, s4, s5, s6, s7, s8, s9, aS, aT⟩
          go_simp
          with_reducible rfl
         rotate_left
         ·simp only [Act.put, sA, sB, sC, i64_w, i32_w]
          rfl
         refine one_ (i := 2) (N := some 32) (bv 42 31) rfl rfl (one_of HT_.out (by kernel_rfl)) (by decide) (fun K hK => ?_)
         refine goes_ Tryd.func26 (by kernel_rfl) rfl #[.agg #[.int .i64 q, .int .i64 s, .slice au d.length aw, .int .i64 j, .bool u, .bool x], .int .i64 (Int.tmod (wrap64 (a1)) (d.length : Int))] (by rfl) rfl rfl ag_ ?_
         with_reducible refine (edit_Line.calls k q s _ _ d j u x (Int.tmod (wrap64 (a1)) (d.length : Int)) ap _ ?side1 ?side2 c0.out).mono ?_
         (case side1 => repeat (first | exact (Kd.C_below aC.out HB.out) | (with_reducible apply pC)))
         (case side2 => exact aB.out)
         rintro e dF ⟨dv, rfl, ah, hb⟩
         refine ⟨_, rfl, ?_⟩
         have E := Z (rb A.out hb)
         have F := Z (Kd.V_elder' (by (with_reducible repeat apply pV); exact B.out) (Kd.Q_base ah) hb)
         have Q := Z (Kd.Q_lower ah (below_size bl_))
         have T := Z (kb a.out hb)
         have Y := Z (kb b.out hb)
         have ai := Z (below_step bl_ hb)
         clear A
         clear B
         clear a
         clear b
         clear HB
         have A := E
         have B := F
         have M := Q
         have a := T
         have b := Y
         have HB := ai
         clear E F Q T Y ai
         (try clear hb)
         (try clear aD)
         (try clear hk)
         (try clear hi)
         (try clear ah)
         refine hK.out _ _ ⟨(blk_cell a.out 0).trans rfl, (blk_cell a.out 1).trans rfl, (blk_cell a.out 2).trans rfl, (blk_cell a.out 3).trans rfl, (blk_cell a.out 4).trans rfl, (blk_cell a.out 5).trans rfl, (blk_cell b.out 0).trans rfl, (blk_cell b.out 1).trans rfl, (blk_cell b.out 2).trans rfl, (blk_cell b.out 3).trans rfl, (blk_cell b.out 4).trans rfl, (blk_cell b.out 5).trans rfl⟩ (fun hHeld => ?_)
         clear hK K
         refine norm_ (a' := ?_) ?_ ?_
         rotate_left
         ·show Act.put _ (some 32) _ = _
          simp only [Act.put, sA, sB, sC, i64_w, i32_w]
          rfl
         refine one_ (i := 5) (N := some 35) (bv 42 63) rfl rfl (one_of HT_.out (by kernel_rfl)) (by decide) (fun K hK => ?_)
         refine goes_ Tryd.func32 (by kernel_rfl) rfl #[.agg #[.int .i64 q, .int .i64 s, .slice au d.length aw, .int .i64 j, .bool u, .bool x], .int .i64 (Int.tmod (wrap64 (a1)) (d.length : Int))] (by rfl) rfl rfl ag_ ?_
         with_reducible refine (shutterref14_Line.calls k q s _ _ d j u x (Int.tmod (wrap64 (a1)) (d.length : Int)) al _ ?side1 ?side2 c1.out).mono ?_
         (case side1 => repeat (first | exact (Kd.C_below aC.out HB.out) | (with_reducible apply pC)))
         (case side2 => exact aB.out)
         rintro e dG ⟨dw, rfl, ah, hb⟩
         refine ⟨_, rfl, ?_⟩
         have E := Z (rb A.out hb)
         have F := Z (Kd.V_elder' (by (with_reducible repeat apply pV); exact B.out) (Kd.R_base ah) hb)
         have Q := Z (Kd.Q_elder' (by (with_reducible repeat (first | apply Kd.Q_alloc | apply Kd.Q_drewN | apply Kd.Q_drew)); exact M.out) (Kd.R_base ah) hb)
         have T := Z (Kd.R_lower (Kd.R_new' ah (Kd.Q_lt (by (with_reducible repeat (first | apply Kd.Q_alloc | apply Kd.Q_drewN | apply Kd.Q_drew)); exact M.out))) (below_size bl_))
         have Y := Z (kb a.out hb)
         have ai := Z (kb b.out hb)
         have aj := Z (below_step bl_ hb)
         clear A
         clear B
         clear M
         clear a
         clear b
         clear HB
         have A := E
         have B := F
         have M := Q
         have U := T
         have a := Y
         have b := ai
         have HB := aj
         clear E F Q T Y ai aj
         (try clear hb)
         (try clear aD)
         (try clear hk)
         (try clear hi)
         (try clear ah)
         obtain ⟨b0, b5, bH, _⟩ := Kd.Q_slice M.out
         (first | subst bH | (injection bH with az aF aA; have aG := az.symm; have aH := aA.symm; clear az aF aA; subst aG; subst aH))
         obtain ⟨b1, b6, bI⟩ := Kd.R_slice U.out
         (first | subst bI | (injection bI with az aF aA; have aG := az.symm; have aH := aA.symm; clear az aF aA; subst aG; subst aH))
         refine hK.out _ _ ⟨(blk_cell a.out 0).trans rfl, (blk_cell a.out 1).trans rfl, (blk_cell a.out 2).trans rfl, (blk_cell a.out 3).trans rfl, (blk_cell a.out 4).trans rfl, (blk_cell a.out 5).trans rfl, (blk_cell b.out 0).trans rfl, (blk_cell b.out 1).trans rfl, (blk_cell b.out 2).trans rfl, (blk_cell b.out 3).trans rfl, (blk_cell b.out 4).trans rfl, (blk_cell b.out 5).trans rfl⟩ (fun hHeld => ?_)
         clear hK K
         refine norm_ (a' := ?_) ?_ ?_
         rotate_left
         ·show Act.put _ (some 35) _ = _
          simp only [Act.put, sA, sB, sC, i64_w, i32_w]
          rfl
         refine one_ (i := 6) (N := some 36) (bv 42 127) rfl rfl (one_of HT_.out (by kernel_rfl)) (by decide) (fun K hK => ?_)
         refine goes_ Tryd.func35 (by kernel_rfl) rfl #[.slice b0 ap.length b5, .slice b1 al.length b6] (by rfl) rfl rfl ag_ ?_
         with_reducible refine (shutterref10_Ints.calls k _ _ ap _ _ al true _ ?side1 ?side2 ?side3 ?side4 c2.out).mono ?_
         (case side1 => repeat (first | exact (Kd.Q_reads' M.out).2.2 | (with_reducible apply pC)))
         (case side2 => exact (Kd.Q_reads' M.out).2.1)
         (case side3 => repeat (first | exact (Kd.R_reads' U.out).2.2 | (with_reducible apply pC)))
         (case side4 => exact (Kd.R_reads' U.out).2.1)
         rintro e w' ⟨rfl, ⟨nd, rfl⟩⟩
         refine ⟨_, rfl, ?_⟩
         refine hK.out _ _ ⟨(blk_cell a.out 0).trans rfl, (blk_cell a.out 1).trans rfl, (blk_cell a.out 2).trans rfl, (blk_cell a.out 3).trans rfl, (blk_cell a.out 4).trans rfl, (blk_cell a.out 5).trans rfl, (blk_cell b.out 0).trans rfl, (blk_cell b.out 1).trans rfl, (blk_cell b.out 2).trans rfl, (blk_cell b.out 3).trans rfl, (blk_cell b.out 4).trans rfl, (blk_cell b.out 5).trans rfl⟩ (fun hHeld => ?_)
         clear hK K
         refine norm_ (a' := ?_) ?_ ?_
         rotate_left
         ·show Act.put _ (some 36) _ = _
          simp only [Act.put, sA, sB, sC, i64_w, i32_w]
          rfl
         refine pure_ (i := 7) (N := some 37) (v := ?_) (a' := ?_) (bv 42 255) rfl rfl (any_of HT_.out (by kernel_rfl)) (fun _ _ _ h => h) (Or.inl ⟨by rfl, ?_⟩) ?_ ?_
         rotate_left
         ·intro w'
          go_simp
          with_reducible rfl
         rotate_left
         ·simp only [Act.put, sA, sB, sC, i64_w, i32_w]
          rfl
         refine pure_ (i := 9) (N := some 39) (v := ?_) (a' := ?_) (bv 42 767) rfl rfl (any_of HT_.out (by kernel_rfl)) (fun _ _ _ h => h) (Or.inl ⟨by rfl, ?_⟩) ?_ ?_
         rotate_left
         ·intro w'
          go_simp
          with_reducible rfl
         rotate_left
         ·simp only [Act.put, sA, sB, sC, i64_w, i32_w]
          rfl
         refine pure_ (i := 12) (N := some 42) (v := ?_) (a' := ?_) (bv 42 4863) rfl rfl (any_of HT_.out (by kernel_rfl)) (fun _ _ _ h => h) (Or.inl ⟨by rfl, ?_⟩) ?_ ?_
         rotate_left
         ·intro w'
          go_simp
          with_reducible rfl
         rotate_left
         ·simp only [Act.put, sA, sB, sC, i64_w, i32_w]
          rfl
         refine take_ (i := 8) (N := some 38) (v := ?_) (a' := ?_) (bv 42 5119) rfl rfl (take_ofW HT_.out HW_.out (by kernel_rfl)) (fun _ _ _ h => h) (Or.inl ⟨by rfl, ?_⟩) hHeld ?_ ?_
         rotate_left
         ·rintro w' ⟨s0, s1, s2, s3, s4, s5, s6, s7, s8, s9, aS, aT⟩
          go_simp
          with_reducible rfl
         rotate_left
         ·simp only [Act.put, sA, sB, sC, i64_w, i32_w]
          rfl
         refine take_ (i := 11) (N := some 41) (v := ?_) (a' := ?_) (bv 42 7167) rfl rfl (take_ofW HT_.out HW_.out (by kernel_rfl)) (fun _ _ _ h => h) (Or.inl ⟨by rfl, ?_⟩) hHeld ?_ ?_
         rotate_left
         ·rintro w' ⟨s0, s1, s2, s3, s4, s5, s6, s7, s8, s9, aS, aT⟩
          go_simp
          with_reducible rfl
         rotate_left
         ·simp only [Act.put, sA, sB, sC, i64_w, i32_w]
          rfl
         refine one_ (i := 10) (N := some 40) (bv 42 8191) rfl rfl (one_of HT_.out (by kernel_rfl)) (by decide) (fun K hK => ?_)
         refine goes_ Tryd.func36 (by kernel_rfl) rfl #[.agg #[.int .i64 q, .int .i64 s, .slice au d.length aw, .int .i64 j, .bool u, .bool x], .int .i64 (Int.tmod (wrap64 (a1)) (d.length : Int))] (by rfl) rfl rfl ag_ ?_
         with_reducible refine (edit_Modify.calls q s _ _ d j u x (Int.tmod (wrap64 (a1)) (d.length : Int)) aM aN aO aP aQ aR _ ?side1 ?side2 c3.out).mono ?_
         (case side1 => repeat (first | exact (Kd.C_below aC.out bl_) | (with_reducible apply pC)))
         (case side2 => exact aB.out)
         rintro e dH ⟨dx, rfl, ah, hb⟩
         refine ⟨_, rfl, ?_⟩
         have E := Z (Kd.R_elder' (by (with_reducible repeat apply pR); exact A.out) (Kd.R_base ah) hb)
         have F := Z (Kd.V_elder' (by (with_reducible repeat apply pV); exact B.out) (Kd.R_base ah) hb)
         have Q := Z (Kd.Q_below (by (with_reducible repeat (first | apply Kd.Q_alloc | apply Kd.Q_drewN | apply Kd.Q_drew)); exact M.out) hb)
         have T := Z (rb U.out hb)
         have Y := Z (Kd.R_lower (Kd.R_new' ah (Kd.R_lt (by (with_reducible repeat apply pR); exact A.out))) (below_size bl_))
         have ai := Z (kb a.out hb)
         have aj := Z (kb b.out hb)
         have ao := Z (below_step bl_ hb)
         clear A
         clear B
         clear M
         clear U
         clear a
         clear b
         clear HB
         have A := E
         have B := F
         have M := Q
         have U := T
         have W := Y
         have a := ai
         have b := aj
         have HB := ao
         clear E F Q T Y ai aj ao
         (try clear hb)
         (try clear aD)
         (try clear hk)
         (try clear hi)
         (try clear ah)
         refine hK.out _ _ ⟨(blk_cell a.out 0).trans rfl, (blk_cell a.out 1).trans rfl, (blk_cell a.out 2).trans rfl, (blk_cell a.out 3).trans rfl, (blk_cell a.out 4).trans rfl, (blk_cell a.out 5).trans rfl, (blk_cell b.out 0).trans rfl, (blk_cell b.out 1).trans rfl, (blk_cell b.out 2).trans rfl, (blk_cell b.out 3).trans rfl, (blk_cell b.out 4).trans rfl, (blk_cell b.out 5).trans rfl⟩ (fun hHeld => ?_)
         clear hK K
         refine norm_ (a' := ?_) ?_ ?_
         rotate_left
         ·show Act.put _ (some 40) _ = _
          simp only [Act.put, sA, sB, sC, i64_w, i32_w]
          rfl
         refine one_ (i := 13) (N := some 43) (bv 42 16383) rfl rfl (one_of HT_.out (by kernel_rfl)) (by decide) (fun K hK => ?_)
         refine goes_ Tryd.func37 (by kernel_rfl) rfl #[.agg #[.int .i64 q, .int .i64 s, .slice au d.length aw, .int .i64 j, .bool u, .bool x], .int .i64 (Int.tmod (wrap64 (a1)) (d.length : Int))] (by rfl) rfl rfl ag_ ?_
         with_reducible refine (shutterref14_Modify.calls k q s _ _ d j u x (Int.tmod (wrap64 (a1)) (d.length : Int)) aW aX aY aZ a0 a3 _ ?side1 ?side2 c4.out).mono ?_
         (case side1 => repeat (first | exact (Kd.C_below aC.out HB.out) | (with_reducible apply pC)))
         (case side2 => exact aB.out)
         rintro e dI ⟨dy, rfl, ah, hb⟩
         refine ⟨_, rfl, ?_⟩
         have E := Z (Kd.R_elder' (by (with_reducible repeat apply pR); exact A.out) (Kd.R_base ah) hb)
         have F := Z (Kd.V_elder' (by (with_reducible repeat apply pV); exact B.out) (Kd.R_base ah) hb)
         have Q := Z (Kd.Q_below (by (with_reducible repeat (first | apply Kd.Q_alloc | apply Kd.Q_drewN | apply Kd.Q_drew)); exact M.out) hb)
         have T := Z (rb U.out hb)
         have Y := Z (Kd.R_elder' (by (with_reducible repeat apply pR); exact W.out) (Kd.R_base ah) hb)
         have ai := Z (Kd.R_lower (Kd.R_new' (Kd.R_new' ah (Kd.R_lt (by (with_reducible repeat apply pR); exact A.out))) (Kd.R_lt (by (with_reducible repeat apply pR); exact W.out))) (below_size bl_))
         have aj := Z (kb a.out hb)
         have ao := Z (kb b.out hb)
         have ar := Z (below_step bl_ hb)
         clear A
         clear B
         clear M
         clear U
         clear W
         clear a
         clear b
         clear HB
         have A := E
         have B := F
         have M := Q
         have U := T
         have W := Y
         have ag := ai
         have a := aj
         have b := ao
         have HB := ar
         clear E F Q T Y ai aj ao ar
         (try clear hb)
         (try clear aD)
         (try clear hk)
         (try clear hi)
         (try clear ah)
         obtain ⟨b2, b7, bJ⟩ := Kd.R_slice W.out
         (first | subst bJ | (injection bJ with az aF aA; have aG := az.symm; have aH := aA.symm; clear az aF aA; subst aG; subst aH))
         obtain ⟨b3, b8, bK⟩ := Kd.R_slice ag.out
         (first | subst bK | (injection bK with az aF aA; have aG := az.symm; have aH := aA.symm; clear az aF aA; subst aG; subst aH))
         refine hK.out _ _ ⟨(blk_cell a.out 0).trans rfl, (blk_cell a.out 1).trans rfl, (blk_cell a.out 2).trans rfl, (blk_cell a.out 3).trans rfl, (blk_cell a.out 4).trans rfl, (blk_cell a.out 5).trans rfl, (blk_cell b.out 0).trans rfl, (blk_cell b.out 1).trans rfl, (blk_cell b.out 2).trans rfl, (blk_cell b.out 3).trans rfl, (blk_cell b.out 4).trans rfl, (blk_cell b.out 5).trans rfl⟩ (fun hHeld => ?_)
         clear hK K
         refine norm_ (a' := ?_) ?_ ?_
         rotate_left
         ·show Act.put _ (some 43) _ = _
          simp only [Act.put, sA, sB, sC, i64_w, i32_w]
          rfl
         refine one_ (i := 14) (N := some 44) (bv 42 32767) rfl rfl (one_of HT_.out (by kernel_rfl)) (by decide) (fun K hK => ?_)
         refine goes_ Tryd.func24 (by kernel_rfl) rfl #[.agg #[.int .i64 aM, .int .i64 aN, .slice b2 aO.length b7, .int .i64 aP, .bool aQ, .bool aR], .agg #[.int .i64 aW, .int .i64 aX, .slice b3 aY.length b8, .int .i64 aZ, .bool a0, .bool a3]] (by rfl) rfl rfl ag_ ?_
         with_reducible refine (shutterref10_Same.calls k aM aN _ _ aO aP aQ aR aW aX _ _ aY aZ a0 a3 true _ ?side1 ?side2 ?side3 ?side4 c6.out).mono ?_
         (case side1 => repeat (first | exact (Kd.R_reads' W.out).2.2 | (with_reducible apply pC)))
         (case side2 => exact (Kd.R_reads' W.out).2.1)
         (case side3 => repeat (first | exact (Kd.R_reads' ag.out).2.2 | (with_reducible apply pC)))
         (case side4 => exact (Kd.R_reads' ag.out).2.1)
         rintro e dJ ⟨rfl, hb⟩
         refine ⟨_, rfl, ?_⟩
         have E := Z (rb A.out hb)
         have F := Z (vb B.out hb)
         have Q := Z (Kd.Q_below (by (with_reducible repeat (first | apply Kd.Q_alloc | apply Kd.Q_drewN | apply Kd.Q_drew)); exact M.out) hb)
         have T := Z (rb U.out hb)
         have Y := Z (rb W.out hb)
         have ai := Z (rb ag.out hb)
         have aj := Z (kb a.out hb)
         have ao := Z (kb b.out hb)
         have ar := Z (below_step bl_ hb)
         clear A
         clear B
         clear M
         clear U
         clear W
         clear ag
         clear a
         clear b
         clear HB
         have A := E
         have B := F
         have M := Q
         have U := T
         have W := Y
         have ag := ai
         have a := aj
         have b := ao
         have HB := ar
         clear E F Q T Y ai aj ao ar
         (try clear hb)
         (try clear aD)
         (try clear hk)
         (try clear hi)
         refine hK.out _ _ ⟨(blk_cell a.out 0).trans rfl, (blk_cell a.out 1).trans rfl, (blk_cell a.out 2).trans rfl, (blk_cell a.out 3).trans rfl, (blk_cell a.out 4).trans rfl, (blk_cell a.out 5).trans rfl, (blk_cell b.out 0).trans rfl, (blk_cell b.out 1).trans rfl, (blk_cell b.out 2).trans rfl, (blk_cell b.out 3).trans rfl, (blk_cell b.out 4).trans rfl, (blk_cell b.out 5).trans rfl⟩ (fun hHeld => ?_)
         clear hK K
         refine norm_ (a' := ?_) ?_ ?_
         rotate_left
         ·show Act.put _ (some 44) _ = _
          simp only [Act.put, sA, sB, sC, i64_w, i32_w]
          rfl
         refine pure_ (i := 15) (N := some 45) (v := ?_) (a' := ?_) (bv 42 65535) rfl rfl (any_of HT_.out (by kernel_rfl)) (fun _ _ _ h => h) (Or.inl ⟨by rfl, ?_⟩) ?_ ?_
         rotate_left
         ·intro w'
          go_simp
          with_reducible rfl
         rotate_left
         ·simp only [Act.put, sA, sB, sC, i64_w, i32_w]
          rfl
         refine pure_ (i := 16) (N := some 46) (v := ?_) (a' := ?_) (bv 42 131071) rfl rfl (any_of HT_.out (by kernel_rfl)) (fun _ _ _ h => h) (Or.inl ⟨by rfl, ?_⟩) ?_ ?_
         rotate_left
         ·intro w'
          go_simp
          with_reducible rfl
         rotate_left
         ·simp only [Act.put, sA, sB, sC, i64_w, i32_w]
          rfl
         refine pure_ (i := 17) (N := some 47) (v := ?_) (a' := ?_) (bv 42 262143) rfl rfl (any_of HT_.out (by kernel_rfl)) (fun _ _ _ h => h) (Or.inl ⟨by rfl, ?_⟩) ?_ ?_
         rotate_left
         ·intro w'
          go_simp
          with_reducible rfl
         rotate_left
         ·simp only [Act.put, sA, sB, sC, i64_w, i32_w]
          rfl
         refine pure_ (i := 19) (N := some 49) (v := ?_) (a' := ?_) (bv 42 786431) rfl rfl (any_of HT_.out (by kernel_rfl)) (fun _ _ _ h => h) (Or.inl ⟨by rfl, ?_⟩) ?_ ?_
         rotate_left
         ·intro w'
          go_simp
          with_reducible rfl
         rotate_left
         ·simp only [Act.put, sA, sB, sC, i64_w, i32_w]
          rfl
         refine one_ (i := 18) (N := some 48) (bv 42 1048575) rfl rfl (one_of HT_.out (by kernel_rfl)) (by decide) (fun K hK => ?_)
         refine goes_ Tryd.func38 (by kernel_rfl) rfl #[.int .u8 a2] (by rfl) rfl rfl ag_ ?_
         with_reducible refine (edit_Digit.calls a2 J _ c9.out).mono ?_
         rintro e w' ⟨rfl, ⟨nd, rfl⟩⟩
         refine ⟨_, rfl, ?_⟩
         refine hK.out _ _ ⟨(blk_cell a.out 0).trans rfl, (blk_cell a.out 1).trans rfl, (blk_cell a.out 2).trans rfl, (blk_cell a.out 3).trans rfl, (blk_cell a.out 4).trans rfl, (blk_cell a.out 5).trans rfl, (blk_cell b.out 0).trans rfl, (blk_cell b.out 1).trans rfl, (blk_cell b.out 2).trans rfl, (blk_cell b.out 3).trans rfl, (blk_cell b.out 4).trans rfl, (blk_cell b.out 5).trans rfl⟩ (fun hHeld => ?_)
         clear hK K
         refine norm_ (a' := ?_) ?_ ?_
         rotate_left
         ·show Act.put _ (some 48) _ = _
          simp only [Act.put, sA, sB, sC, i64_w, i32_w]
          rfl
         refine one_ (i := 20) (N := some 50) (bv 42 2097151) rfl rfl (one_of HT_.out (by kernel_rfl)) (by decide) (fun K hK => ?_)
         refine goes_ Tryd.func39 (by kernel_rfl) rfl #[.int .u8 a2] (by rfl) rfl rfl ag_ ?_
         with_reducible refine (shutterref14_Digit.calls a2 I _ da.out).mono ?_
         rintro e w' ⟨rfl, ⟨nd, rfl⟩⟩
         refine ⟨_, rfl, ?_⟩
         refine hK.out _ _ ⟨(blk_cell a.out 0).trans rfl, (blk_cell a.out 1).trans rfl, (blk_cell a.out 2).trans rfl, (blk_cell a.out 3).trans rfl, (blk_cell a.out 4).trans rfl, (blk_cell a.out 5).trans rfl, (blk_cell b.out 0).trans rfl, (blk_cell b.out 1).trans rfl, (blk_cell b.out 2).trans rfl, (blk_cell b.out 3).trans rfl, (blk_cell b.out 4).trans rfl, (blk_cell b.out 5).trans rfl⟩ (fun hHeld => ?_)
         clear hK K
         refine norm_ (a' := ?_) ?_ ?_
         rotate_left
         ·show Act.put _ (some 50) _ = _
          simp only [Act.put, sA, sB, sC, i64_w, i32_w]
          rfl
         refine pure_ (i := 21) (N := some 51) (v := ?_) (a' := ?_) (bv 42 4194303) rfl rfl (any_of HT_.out (by kernel_rfl)) (fun _ _ _ h => h) (Or.inl ⟨by rfl, ?_⟩) ?_ ?_
         rotate_left
         ·intro w'
          go_simp
          with_reducible rfl
         rotate_left
         ·simp only [Act.put, sA, sB, sC, i64_w, i32_w]
          rfl
         refine pure_ (i := 22) (N := some 52) (v := ?_) (a' := ?_) (bv 42 8388607) rfl rfl (any_of HT_.out (by kernel_rfl)) (fun _ _ _ h => h) (Or.inl ⟨by rfl, ?_⟩) ?_ ?_
         rotate_left
         ·intro w'
          go_simp
          with_reducible rfl
         rotate_left
         ·simp only [Act.put, sA, sB, sC, i64_w, i32_w]
          rfl
         refine pure_ (i := 23) (N := some 53) (v := ?_) (a' := ?_) (bv 42 16777215) rfl rfl (any_of HT_.out (by kernel_rfl)) (fun _ _ _ h => h) (Or.inl ⟨by rfl, ?_⟩) ?_ ?_
         rotate_left
         ·intro w'
          go_simp
          with_reducible rfl
         rotate_left
         ·simp only [Act.put, sA, sB, sC, i64_w, i32_w]
          rfl
         refine take_ (i := 24) (N := some 54) (v := ?_) (a' := ?_) (bv 42 33554431) rfl rfl (take_ofW HT_.out HW_.out (by kernel_rfl)) (fun _ _ _ h => h) (Or.inl ⟨by rfl, ?_⟩) hHeld ?_ ?_
         rotate_left
         ·rintro w' ⟨s0, s1, s2, s3, s4, s5, s6, s7, s8, s9, aS, aT⟩
          go_simp
          with_reducible rfl
         rotate_left
         ·simp only [Act.put, sA, sB, sC, i64_w, i32_w]
          rfl
         refine take_ (i := 25) (N := some 55) (v := ?_) (a' := ?_) (bv 42 67108863) rfl rfl (take_ofW HT_.out HW_.out (by kernel_rfl)) (fun _ _ _ h => h) (Or.inl ⟨by rfl, ?_⟩) hHeld ?_ ?_
         rotate_left
         ·rintro w' ⟨s0, s1, s2, s3, s4, s5, s6, s7, s8, s9, aS, aT⟩
          go_simp
          with_reducible rfl
         rotate_left
         ·simp only [Act.put, sA, sB, sC, i64_w, i32_w]
          rfl
         refine one_ (i := 26) (N := some 56) (bv 42 134217727) rfl rfl (one_of HT_.out (by kernel_rfl)) (by decide) (fun K hK => ?_)
         refine goes_ Tryd.func40 (by kernel_rfl) rfl #[.agg #[.int .i64 q, .int .i64 s, .slice au d.length aw, .int .i64 j, .bool u, .bool x]] (by rfl) rfl rfl ag_ ?_
         with_reducible refine (shutterref14_Deny.calls q s _ _ d j u x a4 a5 a6 a7 a8 a9 _ ?side1 ?side2 db.out).mono ?_
         (case side1 => repeat (first | exact (Kd.C_below aC.out bl_) | (with_reducible apply pC)))
         (case side2 => exact aB.out)
         rintro e dK ⟨dz, rfl, ah, hb⟩
         refine ⟨_, rfl, ?_⟩
         have E := Z (Kd.R_elder' (by (with_reducible repeat apply pR); exact A.out) (Kd.R_base ah) hb)
         have F := Z (Kd.V_elder' (by (with_reducible repeat apply pV); exact B.out) (Kd.R_base ah) hb)
         have Q := Z (Kd.Q_below (by (with_reducible repeat (first | apply Kd.Q_alloc | apply Kd.Q_drewN | apply Kd.Q_drew)); exact M.out) hb)
         have T := Z (rb U.out hb)
         have Y := Z (Kd.R_elder' (by (with_reducible repeat apply pR); exact W.out) (Kd.R_base ah) hb)
         have ai := Z (Kd.R_elder' (by (with_reducible repeat apply pR); exact ag.out) (Kd.R_base ah) hb)
         have aj := Z (Kd.R_lower (Kd.R_new' (Kd.R_new' (Kd.R_new' ah (Kd.R_lt (by (with_reducible repeat apply pR); exact A.out))) (Kd.R_lt (by (with_reducible repeat apply pR); exact W.out))) (Kd.R_lt (by (with_reducible repeat apply pR); exact ag.out))) (below_size bl_))
         have ao := Z (kb a.out hb)
         have ar := Z (kb b.out hb)
         have aI := Z (below_step bl_ hb)
         clear A
         clear B
         clear M
         clear U
         clear W
         clear ag
         clear a
         clear b
         clear HB
         have A := E
         have B := F
         have M := Q
         have U := T
         have W := Y
         have ag := ai
         have aq := aj
         have a := ao
         have b := ar
         have HB := aI
         clear E F Q T Y ai aj ao ar aI
         (try clear hb)
         (try clear aD)
         (try clear hk)
         (try clear hi)
         (try clear ah)
         obtain ⟨b4, b9, bL⟩ := Kd.R_slice aq.out
         (first | subst bL | (injection bL with az aF aA; have aG := az.symm; have aH := aA.symm; clear az aF aA; subst aG; subst aH))
         refine hK.out _ _ ⟨(blk_cell a.out 0).trans rfl, (blk_cell a.out 1).trans rfl, (blk_cell a.out 2).trans rfl, (blk_cell a.out 3).trans rfl, (blk_cell a.out 4).trans rfl, (blk_cell a.out 5).trans rfl, (blk_cell b.out 0).trans rfl, (blk_cell b.out 1).trans rfl, (blk_cell b.out 2).trans rfl, (blk_cell b.out 3).trans rfl, (blk_cell b.out 4).trans rfl, (blk_cell b.out 5).trans rfl⟩ (fun hHeld => ?_)
         clear hK K
         refine norm_ (a' := ?_) ?_ ?_
         rotate_left
         ·show Act.put _ (some 56) _ = _
          simp only [Act.put, sA, sB, sC, i64_w, i32_w]
          rfl
         refine one_ (i := 27) (N := some 57) (bv 42 268435455) rfl rfl (one_of HT_.out (by kernel_rfl)) (by decide) (fun K hK => ?_)
         refine goes_ Tryd.func24 (by kernel_rfl) rfl #[.agg #[.int .i64 ab, .int .i64 ac, .slice av X.length ax, .int .i64 ad, .bool ae, .bool af], .agg #[.int .i64 a4, .int .i64 a5, .slice b4 a6.length b9, .int .i64 a7, .bool a8, .bool a9]] (by rfl) rfl rfl ag_ ?_
         with_reducible refine (shutterref10_Same.calls k ab ac _ _ X ad ae af a4 a5 _ _ a6 a7 a8 a9 true _ ?side1 ?side2 ?side3 ?side4 dc.out).mono ?_
         (case side1 => repeat (first | exact (Kd.R_reads' A.out).2.2 | (with_reducible apply pC)))
         (case side2 => exact (Kd.R_reads' A.out).2.1)
         (case side3 => repeat (first | exact (Kd.R_reads' aq.out).2.2 | (with_reducible apply pC)))
         (case side4 => exact (Kd.R_reads' aq.out).2.1)
         rintro e dL ⟨rfl, hb⟩
         refine ⟨_, rfl, ?_⟩
         have E := Z (rb A.out hb)
         have F := Z (vb B.out hb)
         have Q := Z (Kd.Q_below (by (with_reducible repeat (first | apply Kd.Q_alloc | apply Kd.Q_drewN | apply Kd.Q_drew)); exact M.out) hb)
         have T := Z (rb U.out hb)
         have Y := Z (rb W.out hb)
         have ai := Z (rb ag.out hb)
         have aj := Z (rb aq.out hb)
         have ao := Z (kb a.out hb)
         have ar := Z (kb b.out hb)
         have aI := Z (below_step bl_ hb)
         clear A
         clear B
         clear M
         clear U
         clear W
         clear ag
         clear aq
         clear a
         clear b
         clear HB
         have A := E
         have B := F
         have M := Q
         have U := T
         have W := Y
         have ag := ai
         have aq := aj
         have a := ao
         have b := ar
         have HB := aI
         clear E F Q T Y ai aj ao ar aI
         (try clear hb)
         (try clear aD)
         (try clear hk)
         (try clear hi)
         obtain ⟨bF, bG, bM⟩ := Kd.V_slice B.out
         (first | subst bM | (injection bM with az aF aA; have aG := az.symm; have aH := aA.symm; clear az aF aA; subst aG; subst aH))
         refine hK.out _ _ ⟨(blk_cell a.out 0).trans rfl, (blk_cell a.out 1).trans rfl, (blk_cell a.out 2).trans rfl, (blk_cell a.out 3).trans rfl, (blk_cell a.out 4).trans rfl, (blk_cell a.out 5).trans rfl, (blk_cell b.out 0).trans rfl, (blk_cell b.out 1).trans rfl, (blk_cell b.out 2).trans rfl, (blk_cell b.out 3).trans rfl, (blk_cell b.out 4).trans rfl, (blk_cell b.out 5).trans rfl⟩ (fun hHeld => ?_)
         clear hK K
         refine norm_ (a' := ?_) ?_ ?_
         rotate_left
         ·show Act.put _ (some 57) _ = _
          simp only [Act.put, sA, sB, sC, i64_w, i32_w]
          rfl
         refine pure_ (i := 28) (N := some 58) (v := ?_) (a' := ?_) (bv 42 536870911) rfl rfl (any_of HT_.out (by kernel_rfl)) (fun _ _ _ h => h) (Or.inl ⟨by rfl, ?_⟩) ?_ ?_
         rotate_left
         ·intro w'
          go_simp
          with_reducible rfl
         rotate_left
         ·simp only [Act.put, sA, sB, sC, i64_w, i32_w]
          rfl
         refine pure_ (i := 29) (N := some 59) (v := ?_) (a' := ?_) (bv 42 1073741823) rfl rfl (any_of HT_.out (by kernel_rfl)) (fun _ _ _ h => h) (Or.inl ⟨by rfl, ?_⟩) ?_ ?_
         rotate_left
         ·intro w'
          go_simp
          with_reducible rfl
         rotate_left
         ·simp only [Act.put, sA, sB, sC, i64_w, i32_w]
          rfl
         refine pure_ (i := 30) (N := some 60) (v := ?_) (a' := ?_) (bv 42 2147483647) rfl rfl (any_of HT_.out (by kernel_rfl)) (fun _ _ _ h => h) (Or.inl ⟨by rfl, ?_⟩) ?_ ?_
         rotate_left
         ·intro w'
          go_simp
          with_reducible rfl
         rotate_left
         ·simp only [Act.put, sA, sB, sC, i64_w, i32_w]
          rfl
         refine one_ (i := 31) (N := some 61) (bv 42 4294967295) rfl rfl (one_of HT_.out (by kernel_rfl)) (by decide) (fun K hK => ?_)
         refine goes_ Tryd.func25 (by kernel_rfl) rfl #[errW (.slice bF O.length bG) P] (by rfl) rfl rfl ag_ ?_
         with_reducible refine (api_Code.calls P _ _ O D _ ?side1 ?side2 ?sideG dd.out).mono ?_
         (case sideG => exact laidG_below HG.out bl_ rfl)
         (case side1 => repeat (first | exact (Kd.V_reads' B.out).2.2 | (with_reducible apply pC)))
         (case side2 => exact (Kd.V_reads' B.out).2.1)
         rintro e dM ⟨rfl, hb⟩
         refine ⟨_, rfl, ?_⟩
         have E := Z (rb A.out hb)
         have F := Z (vb B.out hb)
         have Q := Z (Kd.Q_below (by (with_reducible repeat (first | apply Kd.Q_alloc | apply Kd.Q_drewN | apply Kd.Q_drew)); exact M.out) hb)
         have T := Z (rb U.out hb)
         have Y := Z (rb W.out hb)
         have ai := Z (rb ag.out hb)
         have aj := Z (rb aq.out hb)
         have ao := Z (kb a.out hb)
         have ar := Z (kb b.out hb)
         have aI := Z (below_step bl_ hb)
         clear A
         clear B
         clear M
         clear U
         clear W
         clear ag
         clear aq
         clear a
         clear b
         clear HB
         have A := E
         have B := F
         have M := Q
         have U := T
         have W := Y
         have ag := ai
         have aq := aj
         have a := ao
         have b := ar
         have HB := aI
         clear E F Q T Y ai aj ao ar aI
         (try clear hb)
         (try clear aD)
         (try clear hk)
         (try clear hi)
         refine hK.out _ _ ⟨(blk_cell a.out 0).trans rfl, (blk_cell a.out 1).trans rfl, (blk_cell a.out 2).trans rfl, (blk_cell a.out 3).trans rfl, (blk_cell a.out 4).trans rfl, (blk_cell a.out 5).trans rfl, (blk_cell b.out 0).trans rfl, (blk_cell b.out 1).trans rfl, (blk_cell b.out 2).trans rfl, (blk_cell b.out 3).trans rfl, (blk_cell b.out 4).trans rfl, (blk_cell b.out 5).trans rfl⟩ (fun hHeld => ?_)
         clear hK K
         refine norm_ (a' := ?_) ?_ ?_
         rotate_left
         ·show Act.put _ (some 61) _ = _
          simp only [Act.put, sA, sB, sC, i64_w, i32_w]
          rfl
         refine pure_ (i := 32) (N := some 62) (v := ?_) (a' := ?_) (bv 42 8589934591) rfl rfl (any_of HT_.out (by kernel_rfl)) (fun _ _ _ h => h) (Or.inl ⟨by rfl, ?_⟩) ?_ ?_
         rotate_left
         ·intro w'
          go_simp
          with_reducible rfl
         rotate_left
         ·simp only [Act.put, sA, sB, sC, i64_w, i32_w]
          rfl
         refine pure_ (i := 33) (N := some 63) (v := ?_) (a' := ?_) (bv 42 17179869183) rfl rfl (any_of HT_.out (by kernel_rfl)) (fun _ _ _ h => h) (Or.inl ⟨by rfl, ?_⟩) ?_ ?_
         rotate_left
         ·intro w'
          go_simp
          with_reducible rfl
         rotate_left
         ·simp only [Act.put, sA, sB, sC, i64_w, i32_w]
          rfl
         refine pure_ (i := 34) (N := some 64) (v := ?_) (a' := ?_) (bv 42 34359738367) rfl rfl (any_of HT_.out (by kernel_rfl)) (fun _ _ _ h => h) (Or.inl ⟨by rfl, ?_⟩) ?_ ?_
         rotate_left
         ·intro w'
          go_simp
          with_reducible rfl
         rotate_left
         ·simp only [Act.put, sA, sB, sC, i64_w, i32_w]
          rfl
         refine pure_ (i := 35) (N := some 65) (v := ?_) (a' := ?_) (bv 42 68719476735) rfl rfl (any_of HT_.out (by kernel_rfl)) (fun _ _ _ h => h) (Or.inl ⟨by rfl, ?_⟩) ?_ ?_
         rotate_left
         ·intro w'
          go_simp
          with_reducible rfl
         rotate_left
         ·simp only [Act.put, sA, sB, sC, i64_w, i32_w]
          rfl
         refine pure_ (i := 37) (N := some 67) (v := ?_) (a' := ?_) (bv 42 206158430207) rfl rfl (any_of HT_.out (by kernel_rfl)) (fun _ _ _ h => h) (Or.inl ⟨by rfl, ?_⟩) ?_ ?_
         rotate_left
         ·intro w'
          go_simp
          with_reducible rfl
         rotate_left
         ·simp only [Act.put, sA, sB, sC, i64_w, i32_w]
          rfl
         refine take_ (i := 38) (N := some 68) (v := ?_) (a' := ?_) (bv 42 481036337151) rfl rfl (take_ofW HT_.out HW_.out (by kernel_rfl)) (fun _ _ _ h => h) (Or.inl ⟨by rfl, ?_⟩) hHeld ?_ ?_
         rotate_left
         ·rintro w' ⟨s0, s1, s2, s3, s4, s5, s6, s7, s8, s9, aS, aT⟩
          go_simp
          with_reducible rfl
         rotate_left
         ·simp only [Act.put, sA, sB, sC, i64_w, i32_w]
          rfl
         refine one_ (i := 36) (N := some 66) (bv 42 549755813887) rfl rfl (one_of HT_.out (by kernel_rfl)) (by decide) (fun K hK => ?_)
         refine goes_ Tryd.func28 (by kernel_rfl) rfl #[errW (.slice bF O.length bG) P] (by rfl) rfl rfl ag_ ?_
         with_reducible refine (api_Where.calls P _ _ O G _ ?side1 ?side2 ?sideG de.out).mono ?_
         (case sideG => exact laidG_below HG.out bl_ rfl)
         (case side1 => repeat (first | exact (Kd.V_reads' B.out).2.2 | (with_reducible apply pC)))
         (case side2 => exact (Kd.V_reads' B.out).2.1)
         rintro e dN ⟨rfl, hb⟩
         refine ⟨_, rfl, ?_⟩
         have E := Z (rb A.out hb)
         have F := Z (vb B.out hb)
         have Q := Z (Kd.Q_below (by (with_reducible repeat (first | apply Kd.Q_alloc | apply Kd.Q_drewN | apply Kd.Q_drew)); exact M.out) hb)
         have T := Z (rb U.out hb)
         have Y := Z (rb W.out hb)
         have ai := Z (rb ag.out hb)
         have aj := Z (rb aq.out hb)
         have ao := Z (kb a.out hb)
         have ar := Z (kb b.out hb)
         have aI := Z (below_step bl_ hb)
         clear A
         clear B
         clear M
         clear U
         clear W
         clear ag
         clear aq
         clear a
         clear b
         clear HB
         have A := E
         have B := F
         have M := Q
         have U := T
         have W := Y
         have ag := ai
         have aq := aj
         have a := ao
         have b := ar
         have HB := aI
         clear E F Q T Y ai aj ao ar aI
         (try clear hb)
         (try clear aD)
         (try clear hk)
         (try clear hi)
         refine hK.out _ _ ⟨(blk_cell a.out 0).trans rfl, (blk_cell a.out 1).trans rfl, (blk_cell a.out 2).trans rfl, (blk_cell a.out 3).trans rfl, (blk_cell a.out 4).trans rfl, (blk_cell a.out 5).trans rfl, (blk_cell b.out 0).trans rfl, (blk_cell b.out 1).trans rfl, (blk_cell b.out 2).trans rfl, (blk_cell b.out 3).trans rfl, (blk_cell b.out 4).trans rfl, (blk_cell b.out 5).trans rfl⟩ (fun hHeld => ?_)
         clear hK K
         refine norm_ (a' := ?_) ?_ ?_
         rotate_left
         ·show Act.put _ (some 66) _ = _
          simp only [Act.put, sA, sB, sC, i64_w, i32_w]
          rfl
         refine pure_ (i := 39) (N := some 69) (v := ?_) (a' := ?_) (bv 42 1099511627775) rfl rfl (any_of HT_.out (by kernel_rfl)) (fun _ _ _ h => h) (Or.inl ⟨by rfl, ?_⟩) ?_ ?_
         rotate_left
         ·intro w'
          go_simp
          with_reducible rfl
         rotate_left
         ·simp only [Act.put, sA, sB, sC, i64_w, i32_w]
          rfl
         refine pure_ (i := 40) (N := some 70) (v := ?_) (a' := ?_) (bv 42 2199023255551) rfl rfl (any_of HT_.out (by kernel_rfl)) (fun _ _ _ h => h) (Or.inl ⟨by rfl, ?_⟩) ?_ ?_
         rotate_left
         ·intro w'
          go_simp
          with_reducible rfl
         rotate_left
         ·simp only [Act.put, sA, sB, sC, i64_w, i32_w]
          rfl
         refine pure_ (i := 41) (N := some 6) (v := ?_) (a' := ?_) (bv 42 4398046511103) rfl rfl (any_of HT_.out (by kernel_rfl)) (fun _ _ _ h => h) (Or.inl ⟨by rfl, ?_⟩) ?_ ?_
         rotate_left
         ·intro w'
          go_simp
          with_reducible rfl
         rotate_left
         ·simp only [Act.put, sA, sB, sC, i64_w, i32_w]
          rfl
         refine done_ (done_of HT_.out (by kernel_rfl)) ?_
         try go_wp2
         go_ret
         exact ⟨by first | rfl | (simp [errW_none, errW_some] <;> rfl) | (simp [*, errW_none, errW_some] <;> rfl), bl_⟩
        ·rw [if_neg aL] at H
         have bS : (D == 10) = false := beq_eq_false_iff_ne.mpr aL
         have bT : (D != 10) = true := bne_iff_ne.mpr aL
         exact absurd H (by simp)
       ·replace bd := Bool.eq_false_iff.mpr bd
        subst bd
        have H1 : (none) = some r := by rw [if_neg (show ¬ (false = true) by decide)] at H; exact H
        clear H
        have H := H1
        clear H1
        exact absurd H (by simp)
      ·rw [if_neg aE] at H
       have bP : (J == I) = false := by simpa using aE
       (try (have bQ : decide (J = I) = false := by simpa using aE))
       (try (have bR : (J == I) = false := by simpa using aE))
       (try (have dj : ¬ (J = I) := by simpa using aE))
       clear aE
       exact absurd H (by simp)
     ·replace bc := Bool.eq_false_iff.mpr bc
      subst bc
      have H1 : (none) = some r := by rw [if_neg (show ¬ (false = true) by decide)] at H; exact H
      clear H
      have H := H1
      clear H1
      exact absurd H (by simp)
    ·replace bb := Bool.eq_false_iff.mpr bb
     subst bb
     have H1 : (none) = some r := by rw [if_neg (show ¬ (false = true) by decide)] at H; exact H
     clear H
     have H := H1
     clear H1
     exact absurd H (by simp)
  ·replace c7 := Bool.eq_false_iff.mpr c7
   subst c7
   have H1 : ((shutterlaw14_awake.f k).bind fun ay => (some ay)) = some r := by rw [if_neg (show ¬ (false = true) by decide)] at H; exact H
   clear H
   have H := H1
   clear H1
   replace H := Option.bind_eq_some_iff.mp H
   obtain ⟨ay, bE, H⟩ := H
   replace H : (some ay) = some r := H
   have bV := Z bE
   clear bE
   obtain rfl := Option.some.inj H
   go_enter Tryd.func10, Tryd.ntmps10
   go_wp2_with (first | ((with_reducible refine gate_dst (N := 3) rfl ?_); refine box_event ?hg (N := 3) ?hd (cs := #[.int .i64 q, .int .i64 s, .slice au d.length aw, .int .i64 j, .bool u, .bool x]) (t := 24) ?hr ?_; (case hd => rfl); (case hg => rfl); (case hr => first | (go_simp; done) | (go_simp; rfl)); intro ak hg dO hbox hb; have E := Z (below_step bl_ hb); have F := Z (hbox); have Q := Z ((le_new hg (below_size bl_) : w.heap.size ≤ ak)); have T := Z ((le_new hg (below_size bl_) : w.heap.size ≤ ak)); clear HB; have HB := E; have a := F; have bO := Q; have bN := T; clear E F Q T; clear hb hbox hg) | ((with_reducible refine gate_callee (f := 30) rfl ?_); refine goesL_ (some 10) rfl rfl Tryd.func30 (by kernel_rfl) rfl #[] rfl ag_ ?_; (with_reducible refine (shutterlaw14_awake.calls k  true _ ?sideG A4.out).mono ?_); (case sideG => exact laidG_below HG.out bl_ rfl); rintro e dP ⟨rfl, hb⟩; refine ⟨_, rfl, ?_⟩; have E := Z (kb a.out hb); have F := Z (below_step bl_ hb); clear a HB; have a := E; have HB := F; clear E F; (try clear hb); (try clear aD); (try clear hk); (try clear hi); obtain ⟨cw, cx, cy, cz, cA, cB, cU, cV, cW, cX, cY, cZ⟩ := cells6 a.out) | (go_at_call 18; (with_reducible refine (shutterref10_Few.calls k q s _ _ d j u x false _ ?side1 ?side2 A6.out).mono ?_); (case side1 => repeat (first | exact (Kd.C_below aC.out HB.out) | (with_reducible apply pC))); (case side2 => exact aB.out); rintro e dQ ⟨rfl, hb⟩; have E := Z (kb a.out hb); have F := Z (below_step bl_ hb); clear a HB; have a := E; have HB := F; clear E F; (try clear hb); (try clear aD); (try clear hk); (try clear hi)) | ((with_reducible refine gate_callee (f := 30) rfl ?_); refine goesL_ (some 17) rfl rfl Tryd.func30 (by kernel_rfl) rfl #[] rfl ag_ ?_; (with_reducible refine (shutterlaw14_awake.calls k  ay _ ?sideG bV.out).mono ?_); (case sideG => exact laidG_below HG.out bl_ rfl); rintro e dR ⟨rfl, hb⟩; refine ⟨_, rfl, ?_⟩; have E := Z (kb a.out hb); have F := Z (below_step bl_ hb); clear a HB; have a := E; have HB := F; clear E F; (try clear hb); (try clear aD); (try clear hk); (try clear hi)))
   go_ret
   have e_ : ay = true := Option.some.inj (bV.out.symm.trans A4.out)
   exact ⟨by first | rfl | (simp [errW_none, errW_some] <;> rfl) | (simp [*, errW_none, errW_some] <;> rfl), bl_⟩
 ·replace c5 := Bool.eq_false_iff.mpr c5
  subst c5
  have H1 : (none) = some r := by rw [if_neg (show ¬ (false = true) by decide)] at H; exact H
  clear H
  have H := H1
  clear H1
  exact absurd H (by simp)

end Go.Proofs.YtggecanpjkpkiaaDoor.P
