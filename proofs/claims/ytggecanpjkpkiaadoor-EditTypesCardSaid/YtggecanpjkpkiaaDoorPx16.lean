
/- The functions of the seat's laws as plain Lean functions, and that Go's code comes to just their answers. Written by pp.py (wip/tools), a program of this session, on the kit's print. -/
import Derived.Test.YtggecanpjkpkiaaDoorPx0
import Derived.Test.YtggecanpjkpkiaaDoorPx10
import Derived.Test.YtggecanpjkpkiaaDoorPx11
import Derived.Test.YtggecanpjkpkiaaDoorPx14
import Derived.Test.YtggecanpjkpkiaaDoorPx15
namespace Go.Proofs.YtggecanpjkpkiaaDoor.P
open Go.RowKit Go.Proofs.YtggecanpjkpkiaaDoorW.PrintWords Go.Proofs.YtggecanpjkpkiaaDoorW.PrintLast Go.Proofs.YtggecanpjkpkiaaDoorW.PrintMore
attribute [local go_sem] max2_int min2_int max_two min_two max_three min_three max_four min_four   -- for this text's walks alone
attribute [local go_sem] Instr.field asAgg
set_option linter.unusedVariables false
set_option linter.unusedSimpArgs false

/-! ### shutterref14_Type: function 33 -/
mutual
def shutterref14_Type.j0 : Nat → Int → Int → Bool → Int → Int → List (S35) → Int → Bool → Bool → Option (Int × Int × (List (S35)) × Int × Bool × Bool × Int × Int)
 | 0, _, _, _, _, _, _, _, _, _ => none
 | k + 1, m, l, n, c, d, e, g, h, b => if n = true then ((shutterref14_Deny.f c d e g h b).bind fun i => (some (i.1, i.2.1, i.2.2.1, i.2.2.2.1, i.2.2.2.2.1, i.2.2.2.2.2, 9, l))) else ((shutterref14_Modify.f k c d e g h b l).bind fun a => (if b = true then ((shutterref14_Line.f k c d e g h b l).bind fun j => (shutterref14_Type.l0 k m l j (-1) (wrap64 ((j.length : Int) - 1)) c d e g h b a.1 a.2.1 a.2.2.1 a.2.2.2.1 a.2.2.2.2.1 a.2.2.2.2.2)) else (shutterref14_Type.j3 k m l c d e g h b a.1 a.2.1 a.2.2.1 a.2.2.2.1 a.2.2.2.2.1 a.2.2.2.2.2)))
def shutterref14_Type.j3 : Nat → Int → Int → Int → Int → List (S35) → Int → Bool → Bool → Int → Int → List (S35) → Int → Bool → Bool → Option (Int × Int × (List (S35)) × Int × Bool × Bool × Int × Int)
 | 0, _, _, _, _, _, _, _, _, _, _, _, _, _, _ => none
 | k + 1, r, q, c, d, e, g, h, i, j, l, a, p, m, n => if 0 ≤ q then (if q < (a.length : Int) then ((some (a.set (q : Int).toNat (⟨(rd_T35 a q).f0, (⟨(rd_T35 a q).f1.f0, (rd_T35 a q).f1.f1, (rd_T35 a q).f1.f2, (rd_T35 a q).f1.f3⟩ : S33), r⟩ : S35) : List (S35))).bind fun o => ((shutterref10_Next.f c d e g h i q).bind fun b => (if 0 ≤ b then (if b < (a.length : Int) then (if (rd_T35 o b).f0 = true then (if (rd_T35 o b).f1.f0 = true then (shutterref14_Type.j4 k b (-1) ((rd_T35 o b).f1.f1) c d e g h i j l o p m n) else (shutterref14_Type.j4 k b (-1) false c d e g h i j l o p m n)) else (some (j, l, o, b, m, n, 0, (-1)))) else (none)) else (none)))) else (none)) else (none)
def shutterref14_Type.j4 : Nat → Int → Int → Bool → Int → Int → List (S35) → Int → Bool → Bool → Int → Int → List (S35) → Int → Bool → Bool → Option (Int × Int × (List (S35)) × Int × Bool × Bool × Int × Int)
 | 0, _, _, _, _, _, _, _, _, _, _, _, _, _, _, _ => none
 | k + 1, p, x15, s, g, h, i, j, l, m, a, b, c, n, d, e => if s = true then ((shutterref11_Next.f k a b c n d e p).bind fun o => (if o < 0 then ((shutterref10_Next.f g h i j l m p).bind fun q => (some (a, b, c, q, d, e, 0, (-1)))) else (some (a, b, c, o, d, e, 0, (-1))))) else (if x15 < 0 then ((shutterref10_Next.f g h i j l m p).bind fun r => (some (a, b, c, r, d, e, 0, (-1)))) else (some (a, b, c, x15, d, e, 0, (-1))))
def shutterref14_Type.l0 : Nat → Int → Int → List Int → Int → Int → Int → Int → List (S35) → Int → Bool → Bool → Int → Int → List (S35) → Int → Bool → Bool → Option (Int × Int × (List (S35)) × Int × Bool × Bool × Int × Int)
 | 0, _, _, _, _, _, _, _, _, _, _, _, _, _, _, _, _, _ => none
 | k + 1, r, q, p, x10, x11, c, d, a, e, g, h, i, j, l, m, n, o => if x11 ≥ 0 then (if 0 ≤ x11 then (if x11 < (p.length : Int) then (if 0 ≤ (rd p x11) then (if (rd p x11) < (a.length : Int) then (if ((rd_T35 a (rd p x11)).f2) = 0 then (shutterref14_Type.l0 k r q p x11 (wrap64 (x11 - 1)) c d a e g h i j l m n o) else (shutterref14_Type.l0 k r q p x10 (wrap64 (x11 - 1)) c d a e g h i j l m n o)) else (none)) else (none)) else (none)) else (none)) else (if x10 < 0 then ((shutterref14_Deny.f c d a e g h).bind fun b => (some (b.1, b.2.1, b.2.2.1, b.2.2.2.1, b.2.2.2.2.1, b.2.2.2.2.2, 10, q))) else (shutterref14_Type.l1 k r q p x10 1 c d a e g h i j l m n o))
def shutterref14_Type.l1 : Nat → Int → Int → List Int → Int → Int → Int → Int → List (S35) → Int → Bool → Bool → Int → Int → List (S35) → Int → Bool → Bool → Option (Int × Int × (List (S35)) × Int × Bool × Bool × Int × Int)
 | 0, _, _, _, _, _, _, _, _, _, _, _, _, _, _, _, _, _ => none
 | k + 1, o, p, c, x10, x12, d, e, b, f, g, h, i, j, a, l, m, n => if x12 ≤ x10 then (if 0 ≤ x12 then (if x12 < (c.length : Int) then (if 0 ≤ (wrap64 (x12 - 1)) then (if (wrap64 (x12 - 1)) < (c.length : Int) then (if 0 ≤ (rd c (wrap64 (x12 - 1))) then (if (rd c (wrap64 (x12 - 1))) < (b.length : Int) then (if 0 ≤ (rd c x12) then (if (rd c x12) < (a.length : Int) then (shutterref14_Type.l1 k o p c x10 (wrap64 (x12 + 1)) d e b f g h i j (a.set ((rd c x12) : Int).toNat (⟨(rd_T35 a (rd c x12)).f0, (⟨(rd_T35 a (rd c x12)).f1.f0, (rd_T35 a (rd c x12)).f1.f1, (rd_T35 a (rd c x12)).f1.f2, (rd_T35 a (rd c x12)).f1.f3⟩ : S33), (rd_T35 b (rd c (wrap64 (x12 - 1)))).f2⟩ : S35)) l m n) else (none)) else (none)) else (none)) else (none)) else (none)) else (none)) else (none)) else (none)) else (shutterref14_Type.j3 k o p d e b f g h i j a l m n)
end
def shutterref14_Type.f (k : Nat) (c : Int) (d : Int) (g : List (S35)) (a : Int) (b : Bool) (e : Bool) (a1 : Int) : Option (Int × Int × (List (S35)) × Int × Bool × Bool × Int × Int) := (shutterref09_Letter.f a1).bind fun j => (if j = true then (if b = true then (some (c, d, g, a, b, e, 7, (-1))) else ((shutterref11_Open.f k c d g a b e a).bind fun l => (if l = true then ((shutterref11_Of.f k c d g a b e a).bind fun i => (if i.2.1 = true then ((shutterref14_Digit.f a1).bind fun m => (if m = true then (shutterref14_Type.j0 k a1 a false c d g a b e) else (if a1 = 28 then (shutterref14_Type.j0 k a1 a false c d g a b e) else (shutterref14_Type.j0 k a1 a (a1 != 30) c d g a b e)))) else (shutterref14_Type.j0 k a1 a false c d g a b e))) else ((shutterref14_Deny.f c d g a b e).bind fun h => (some (h.1, h.2.1, h.2.2.1, h.2.2.2.1, h.2.2.2.2.1, h.2.2.2.2.2, 8, a)))))) else (some (c, d, g, a, b, e, 3, (-1))))
theorem shutterref14_Type.mono_l : ∀ k, (∀ e f g i j l m n o, LeO (shutterref14_Type.j0 k e f g i j l m n o) (shutterref14_Type.j0 (k + 1) e f g i j l m n o)) ∧ (∀ e f g i j l m n o w a b c d, LeO (shutterref14_Type.j3 k e f g i j l m n o w a b c d) (shutterref14_Type.j3 (k + 1) e f g i j l m n o w a b c d)) ∧ (∀ e f g i j l m n o w a b c d p, LeO (shutterref14_Type.j4 k e f g i j l m n o w a b c d p) (shutterref14_Type.j4 (k + 1) e f g i j l m n o w a b c d p)) ∧ (∀ e f g i j l m n o w a b c d p x y, LeO (shutterref14_Type.l0 k e f g i j l m n o w a b c d p x y) (shutterref14_Type.l0 (k + 1) e f g i j l m n o w a b c d p x y)) ∧ (∀ e f g i j l m n o w a b c d p x y, LeO (shutterref14_Type.l1 k e f g i j l m n o w a b c d p x y) (shutterref14_Type.l1 (k + 1) e f g i j l m n o w a b c d p x y))
 | 0 => ⟨fun _ _ _ _ _ _ _ _ _ r h => by simp [shutterref14_Type.j0] at h, fun _ _ _ _ _ _ _ _ _ _ _ _ _ _ r h => by simp [shutterref14_Type.j3] at h, fun _ _ _ _ _ _ _ _ _ _ _ _ _ _ _ r h => by simp [shutterref14_Type.j4] at h, fun _ _ _ _ _ _ _ _ _ _ _ _ _ _ _ _ _ r h => by simp [shutterref14_Type.l0] at h, fun _ _ _ _ _ _ _ _ _ _ _ _ _ _ _ _ _ r h => by simp [shutterref14_Type.l1] at h⟩
 | k + 1 => by
  obtain ⟨q, s, t, u, v⟩ := shutterref14_Type.mono_l k
  refine ⟨?_, ?_, ?_, ?_, ?_⟩
  ·intro e f g i j l m n o
   unfold shutterref14_Type.j0
   repeat' first
   | (with_reducible exact q _ _ _ _ _ _ _ _ _)
   | (with_reducible exact s _ _ _ _ _ _ _ _ _ _ _ _ _ _)
   | (with_reducible exact t _ _ _ _ _ _ _ _ _ _ _ _ _ _ _)
   | (with_reducible exact u _ _ _ _ _ _ _ _ _ _ _ _ _ _ _ _ _)
   | (with_reducible exact v _ _ _ _ _ _ _ _ _ _ _ _ _ _ _ _ _)
   | (with_reducible exact shutterref11_Next.mono _ _ _ _ _ _ _ _)
   | (with_reducible exact shutterref11_Of.mono _ _ _ _ _ _ _ _)
   | (with_reducible exact shutterref11_Open.mono _ _ _ _ _ _ _ _)
   | (with_reducible exact shutterref14_Line.mono _ _ _ _ _ _ _ _)
   | (with_reducible exact shutterref14_Modify.mono _ _ _ _ _ _ _ _)
   | (with_reducible exact LeO.refl _)
   | (with_reducible exact LeO.none _)
   | (with_reducible refine LeO.ite ?_ ?_)
   | (with_reducible refine LeO.bind ?_ (fun _ => ?_))
   | exact q _ _ _ _ _ _ _ _ _
   | exact s _ _ _ _ _ _ _ _ _ _ _ _ _ _
   | exact t _ _ _ _ _ _ _ _ _ _ _ _ _ _ _
   | exact u _ _ _ _ _ _ _ _ _ _ _ _ _ _ _ _ _
   | exact v _ _ _ _ _ _ _ _ _ _ _ _ _ _ _ _ _
   | exact shutterref11_Next.mono _ _ _ _ _ _ _ _
   | exact shutterref11_Of.mono _ _ _ _ _ _ _ _
   | exact shutterref11_Open.mono _ _ _ _ _ _ _ _
   | exact shutterref14_Line.mono _ _ _ _ _ _ _ _
   | exact shutterref14_Modify.mono _ _ _ _ _ _ _ _
   | exact LeO.none _
   | refine LeO.ite ?_ ?_
   | refine LeO.bind ?_ (fun _ => ?_)
  ·intro e f g i j l m n o w a b c d
   unfold shutterref14_Type.j3
   repeat' first
   | (with_reducible exact q _ _ _ _ _ _ _ _ _)
   | (with_reducible exact s _ _ _ _ _ _ _ _ _ _ _ _ _ _)
   | (with_reducible exact t _ _ _ _ _ _ _ _ _ _ _ _ _ _ _)
   | (with_reducible exact u _ _ _ _ _ _ _ _ _ _ _ _ _ _ _ _ _)
   | (with_reducible exact v _ _ _ _ _ _ _ _ _ _ _ _ _ _ _ _ _)
   | (with_reducible exact shutterref11_Next.mono _ _ _ _ _ _ _ _)
   | (with_reducible exact shutterref11_Of.mono _ _ _ _ _ _ _ _)
   | (with_reducible exact shutterref11_Open.mono _ _ _ _ _ _ _ _)
   | (with_reducible exact shutterref14_Line.mono _ _ _ _ _ _ _ _)
   | (with_reducible exact shutterref14_Modify.mono _ _ _ _ _ _ _ _)
   | (with_reducible exact LeO.refl _)
   | (with_reducible exact LeO.none _)
   | (with_reducible refine LeO.ite ?_ ?_)
   | (with_reducible refine LeO.bind ?_ (fun _ => ?_))
   | exact q _ _ _ _ _ _ _ _ _
   | exact s _ _ _ _ _ _ _ _ _ _ _ _ _ _
   | exact t _ _ _ _ _ _ _ _ _ _ _ _ _ _ _
   | exact u _ _ _ _ _ _ _ _ _ _ _ _ _ _ _ _ _
   | exact v _ _ _ _ _ _ _ _ _ _ _ _ _ _ _ _ _
   | exact shutterref11_Next.mono _ _ _ _ _ _ _ _
   | exact shutterref11_Of.mono _ _ _ _ _ _ _ _
   | exact shutterref11_Open.mono _ _ _ _ _ _ _ _
   | exact shutterref14_Line.mono _ _ _ _ _ _ _ _
   | exact shutterref14_Modify.mono _ _ _ _ _ _ _ _
   | exact LeO.none _
   | refine LeO.ite ?_ ?_
   | refine LeO.bind ?_ (fun _ => ?_)
  ·intro e f g i j l m n o w a b c d p
   unfold shutterref14_Type.j4
   repeat' first
   | (with_reducible exact q _ _ _ _ _ _ _ _ _)
   | (with_reducible exact s _ _ _ _ _ _ _ _ _ _ _ _ _ _)
   | (with_reducible exact t _ _ _ _ _ _ _ _ _ _ _ _ _ _ _)
   | (with_reducible exact u _ _ _ _ _ _ _ _ _ _ _ _ _ _ _ _ _)
   | (with_reducible exact v _ _ _ _ _ _ _ _ _ _ _ _ _ _ _ _ _)
   | (with_reducible exact shutterref11_Next.mono _ _ _ _ _ _ _ _)
   | (with_reducible exact shutterref11_Of.mono _ _ _ _ _ _ _ _)
   | (with_reducible exact shutterref11_Open.mono _ _ _ _ _ _ _ _)
   | (with_reducible exact shutterref14_Line.mono _ _ _ _ _ _ _ _)
   | (with_reducible exact shutterref14_Modify.mono _ _ _ _ _ _ _ _)
   | (with_reducible exact LeO.refl _)
   | (with_reducible exact LeO.none _)
   | (with_reducible refine LeO.ite ?_ ?_)
   | (with_reducible refine LeO.bind ?_ (fun _ => ?_))
   | exact q _ _ _ _ _ _ _ _ _
   | exact s _ _ _ _ _ _ _ _ _ _ _ _ _ _
   | exact t _ _ _ _ _ _ _ _ _ _ _ _ _ _ _
   | exact u _ _ _ _ _ _ _ _ _ _ _ _ _ _ _ _ _
   | exact v _ _ _ _ _ _ _ _ _ _ _ _ _ _ _ _ _
   | exact shutterref11_Next.mono _ _ _ _ _ _ _ _
   | exact shutterref11_Of.mono _ _ _ _ _ _ _ _
   | exact shutterref11_Open.mono _ _ _ _ _ _ _ _
   | exact shutterref14_Line.mono _ _ _ _ _ _ _ _
   | exact shutterref14_Modify.mono _ _ _ _ _ _ _ _
   | exact LeO.none _
   | refine LeO.ite ?_ ?_
   | refine LeO.bind ?_ (fun _ => ?_)
  ·intro e f g i j l m n o w a b c d p x y
   unfold shutterref14_Type.l0
   repeat' first
   | (with_reducible exact q _ _ _ _ _ _ _ _ _)
   | (with_reducible exact s _ _ _ _ _ _ _ _ _ _ _ _ _ _)
   | (with_reducible exact t _ _ _ _ _ _ _ _ _ _ _ _ _ _ _)
   | (with_reducible exact u _ _ _ _ _ _ _ _ _ _ _ _ _ _ _ _ _)
   | (with_reducible exact v _ _ _ _ _ _ _ _ _ _ _ _ _ _ _ _ _)
   | (with_reducible exact shutterref11_Next.mono _ _ _ _ _ _ _ _)
   | (with_reducible exact shutterref11_Of.mono _ _ _ _ _ _ _ _)
   | (with_reducible exact shutterref11_Open.mono _ _ _ _ _ _ _ _)
   | (with_reducible exact shutterref14_Line.mono _ _ _ _ _ _ _ _)
   | (with_reducible exact shutterref14_Modify.mono _ _ _ _ _ _ _ _)
   | (with_reducible exact LeO.refl _)
   | (with_reducible exact LeO.none _)
   | (with_reducible refine LeO.ite ?_ ?_)
   | (with_reducible refine LeO.bind ?_ (fun _ => ?_))
   | exact q _ _ _ _ _ _ _ _ _
   | exact s _ _ _ _ _ _ _ _ _ _ _ _ _ _
   | exact t _ _ _ _ _ _ _ _ _ _ _ _ _ _ _
   | exact u _ _ _ _ _ _ _ _ _ _ _ _ _ _ _ _ _
   | exact v _ _ _ _ _ _ _ _ _ _ _ _ _ _ _ _ _
   | exact shutterref11_Next.mono _ _ _ _ _ _ _ _
   | exact shutterref11_Of.mono _ _ _ _ _ _ _ _
   | exact shutterref11_Open.mono _ _ _ _ _ _ _ _
   | exact shutterref14_Line.mono _ _ _ _ _ _ _ _
   | exact shutterref14_Modify.mono _ _ _ _ _ _ _ _
   | exact LeO.none _
   | refine LeO.ite ?_ ?_
   | refine LeO.bind ?_ (fun _ => ?_)
  ·intro e f g i j l m n o w a b c d p x y
   unfold shutterref14_Type.l1
   repeat' first
   | (with_reducible exact q _ _ _ _ _ _ _ _ _)
   | (with_reducible exact s _ _ _ _ _ _ _ _ _ _ _ _ _ _)
   | (with_reducible exact t _ _ _ _ _ _ _ _ _ _ _ _ _ _ _)
   | (with_reducible exact u _ _ _ _ _ _ _ _ _ _ _ _ _ _ _ _ _)
   | (with_reducible exact v _ _ _ _ _ _ _ _ _ _ _ _ _ _ _ _ _)
   | (with_reducible exact shutterref11_Next.mono _ _ _ _ _ _ _ _)
   | (with_reducible exact shutterref11_Of.mono _ _ _ _ _ _ _ _)
   | (with_reducible exact shutterref11_Open.mono _ _ _ _ _ _ _ _)
   | (with_reducible exact shutterref14_Line.mono _ _ _ _ _ _ _ _)
   | (with_reducible exact shutterref14_Modify.mono _ _ _ _ _ _ _ _)
   | (with_reducible exact LeO.refl _)
   | (with_reducible exact LeO.none _)
   | (with_reducible refine LeO.ite ?_ ?_)
   | (with_reducible refine LeO.bind ?_ (fun _ => ?_))
   | exact q _ _ _ _ _ _ _ _ _
   | exact s _ _ _ _ _ _ _ _ _ _ _ _ _ _
   | exact t _ _ _ _ _ _ _ _ _ _ _ _ _ _ _
   | exact u _ _ _ _ _ _ _ _ _ _ _ _ _ _ _ _ _
   | exact v _ _ _ _ _ _ _ _ _ _ _ _ _ _ _ _ _
   | exact shutterref11_Next.mono _ _ _ _ _ _ _ _
   | exact shutterref11_Of.mono _ _ _ _ _ _ _ _
   | exact shutterref11_Open.mono _ _ _ _ _ _ _ _
   | exact shutterref14_Line.mono _ _ _ _ _ _ _ _
   | exact shutterref14_Modify.mono _ _ _ _ _ _ _ _
   | exact LeO.none _
   | refine LeO.ite ?_ ?_
   | refine LeO.bind ?_ (fun _ => ?_)
theorem shutterref14_Type.mono : ∀ a0 a1 g h a4 i j k, LeO (shutterref14_Type.f k a0 a1 g h a4 i j) (shutterref14_Type.f (k + 1) a0 a1 g h a4 i j) := by
 intro a0 a1 g h a4 i j k
 obtain ⟨a, b, c, d, e⟩ := shutterref14_Type.mono_l k
 unfold shutterref14_Type.f
 repeat' first
   | (with_reducible exact a _ _ _ _ _ _ _ _ _)
   | (with_reducible exact b _ _ _ _ _ _ _ _ _ _ _ _ _ _)
   | (with_reducible exact c _ _ _ _ _ _ _ _ _ _ _ _ _ _ _)
   | (with_reducible exact d _ _ _ _ _ _ _ _ _ _ _ _ _ _ _ _ _)
   | (with_reducible exact e _ _ _ _ _ _ _ _ _ _ _ _ _ _ _ _ _)
   | (with_reducible exact shutterref11_Next.mono _ _ _ _ _ _ _ _)
   | (with_reducible exact shutterref11_Of.mono _ _ _ _ _ _ _ _)
   | (with_reducible exact shutterref11_Open.mono _ _ _ _ _ _ _ _)
   | (with_reducible exact shutterref14_Line.mono _ _ _ _ _ _ _ _)
   | (with_reducible exact shutterref14_Modify.mono _ _ _ _ _ _ _ _)
   | (with_reducible exact LeO.refl _)
   | (with_reducible exact LeO.none _)
   | (with_reducible refine LeO.ite ?_ ?_)
   | (with_reducible refine LeO.bind ?_ (fun _ => ?_))
   | exact a _ _ _ _ _ _ _ _ _
   | exact b _ _ _ _ _ _ _ _ _ _ _ _ _ _
   | exact c _ _ _ _ _ _ _ _ _ _ _ _ _ _ _
   | exact d _ _ _ _ _ _ _ _ _ _ _ _ _ _ _ _ _
   | exact e _ _ _ _ _ _ _ _ _ _ _ _ _ _ _ _ _
   | exact shutterref11_Next.mono _ _ _ _ _ _ _ _
   | exact shutterref11_Of.mono _ _ _ _ _ _ _ _
   | exact shutterref11_Open.mono _ _ _ _ _ _ _ _
   | exact shutterref14_Line.mono _ _ _ _ _ _ _ _
   | exact shutterref14_Modify.mono _ _ _ _ _ _ _ _
   | exact LeO.none _
   | refine LeO.ite ?_ ?_
   | refine LeO.bind ?_ (fun _ => ?_)
def shutterref14_Type.T17 : Bool × List (List Nat × List Nat) := (true, [([], []), ([0], [0]), ([], []), ([], []), ([2, 3], [2, 3]), ([4], [4]), ([1, 5], [1, 5]), ([6], [6]), ([7], [7]), ([8], [8])])
def shutterref14_Type.B17 : List Nat := [0, 1, 0, 0, 12, 28, 63, 127, 255, 511]
theorem shutterref14_Type.tab17 : rtab .any (opsOf Tryd.f33 17) = shutterref14_Type.T17 := by kernel_rfl
theorem shutterref14_Type.bits17 : waitsOk shutterref14_Type.T17.2 shutterref14_Type.B17 = true := by kernel_rfl
def shutterref14_Type.T24 : Bool × List (List Nat × List Nat) := (true, [([], []), ([0], [0]), ([], []), ([], []), ([2, 3], [2, 3]), ([4], [4]), ([], []), ([6], [6]), ([], []), ([], []), ([9], [9]), ([8, 10], [8, 10]), ([11], [11]), ([7, 12], [7, 12]), ([13], [13]), ([14], [14]), ([1, 5, 0, 1, 2, 3, 4, 5, 6, 7, 8, 9, 10, 11, 12, 13, 14, 15], [1, 5]), ([16, 0, 1, 2, 3, 4, 5, 6, 7, 8, 9, 10, 11, 12, 13, 14, 15], [16]), ([17, 15, 0, 1, 2, 3, 4, 5, 6, 7, 8, 9, 10, 11, 12, 13, 14, 15], [15, 17])])
def shutterref14_Type.B24 : List Nat := [0, 1, 0, 0, 12, 28, 0, 64, 0, 0, 512, 1792, 3840, 8128, 16320, 32704, 65535, 131071, 262143]
theorem shutterref14_Type.tab24 : rtab .any (opsOf Tryd.f33 24) = shutterref14_Type.T24 := by kernel_rfl
theorem shutterref14_Type.bits24 : waitsOk shutterref14_Type.T24.2 shutterref14_Type.B24 = true := by kernel_rfl
set_option maxHeartbeats 8000000 in
set_option maxRecDepth 100000 in
theorem shutterref14_Type.calls (k : Nat) (r : Int) (s : Int) (aV : Nat → Prop) (aq : Option Addr) (am : Nat) (q : List (S35)) (a : Int) (ao : Bool) (u : Bool) (a1 : Int) (r1 : Int) (r2 : Int) (r3 : List (S35)) (r4 : Int) (r5 : Bool) (r6 : Bool) (r7 : Int) (r8 : Int) (w : World) (kX : Kd.V k35 35 w w.heap.size (fun k_ => aV k_) (.slice aq q.length am) q) (h : shutterref14_Type.f k r s q a ao u a1 = some (r1, r2, r3, r4, r5, r6, r7, r8)) :
  Calls Tryd.prog 33 #[.agg #[.int .i64 r, .int .i64 s, .slice aq q.length am, .int .i64 a, .bool ao, .bool u], .int .u8 a1] w fun e w' => ∃ ll : Value, e = .returned (.tuple #[.agg #[.int .i64 r1, .int .i64 r2, ll, .int .i64 r4, .bool r5, .bool r6], .int .i64 r7, .int .i64 r8]) ∧ Kd.V k35 35 w' w.heap.size (fun k_ => (aV k_ ∨ w.heap.size ≤ k_)) ll r3 ∧ Below w.heap.size w w' := by
 have sI := Tryd.underlying24
 have sJ := Tryd.underlying33
 have sK := Tryd.underlying35
 have B := Z (show Kd.V k35 35 w w.heap.size (fun k_ => (aV k_ ∨ w.heap.size ≤ k_)) (.slice aq q.length am) q from Kd.V_mono kX (fun k_ hk => .inl hk))
 have HB := Z (Below.refl w.heap.size w)
 have H : ((shutterref09_Letter.f a1).bind fun gK => (if gK = true then (if ao = true then (some (r, s, q, a, ao, u, 7, (-1))) else ((shutterref11_Open.f k r s q a ao u a).bind fun bu => (if bu = true then ((shutterref11_Of.f k r s q a ao u a).bind fun bg => (if bg.2.1 = true then ((shutterref14_Digit.f a1).bind fun aU => (if aU = true then (shutterref14_Type.j0 k a1 a false r s q a ao u) else (if a1 = 28 then (shutterref14_Type.j0 k a1 a false r s q a ao u) else (shutterref14_Type.j0 k a1 a (a1 != 30) r s q a ao u)))) else (shutterref14_Type.j0 k a1 a false r s q a ao u))) else ((shutterref14_Deny.f r s q a ao u).bind fun ag => (some (ag.1, ag.2.1, ag.2.2.1, ag.2.2.2.1, ag.2.2.2.2.1, ag.2.2.2.2.2, 8, a)))))) else (some (r, s, q, a, ao, u, 3, (-1))))) = some (r1, r2, r3, r4, r5, r6, r7, r8) := h
 clear h
 replace H := Option.bind_eq_some_iff.mp H
 obtain ⟨gK, lb, H⟩ := H
 replace H : (if gK = true then (if ao = true then (some (r, s, q, a, ao, u, 7, (-1))) else ((shutterref11_Open.f k r s q a ao u a).bind fun bu => (if bu = true then ((shutterref11_Of.f k r s q a ao u a).bind fun bg => (if bg.2.1 = true then ((shutterref14_Digit.f a1).bind fun aU => (if aU = true then (shutterref14_Type.j0 k a1 a false r s q a ao u) else (if a1 = 28 then (shutterref14_Type.j0 k a1 a false r s q a ao u) else (shutterref14_Type.j0 k a1 a (a1 != 30) r s q a ao u)))) else (shutterref14_Type.j0 k a1 a false r s q a ao u))) else ((shutterref14_Deny.f r s q a ao u).bind fun ag => (some (ag.1, ag.2.1, ag.2.2.1, ag.2.2.2.1, ag.2.2.2.2.1, ag.2.2.2.2.2, 8, a)))))) else (some (r, s, q, a, ao, u, 3, (-1)))) = some (r1, r2, r3, r4, r5, r6, r7, r8) := H
 have A3 := Z lb
 clear lb
 by_cases c4 : gK = true
 ·subst c4
  have H1 : (if ao = true then (some (r, s, q, a, ao, u, 7, (-1))) else ((shutterref11_Open.f k r s q a ao u a).bind fun bu => (if bu = true then ((shutterref11_Of.f k r s q a ao u a).bind fun bg => (if bg.2.1 = true then ((shutterref14_Digit.f a1).bind fun aU => (if aU = true then (shutterref14_Type.j0 k a1 a false r s q a ao u) else (if a1 = 28 then (shutterref14_Type.j0 k a1 a false r s q a ao u) else (shutterref14_Type.j0 k a1 a (a1 != 30) r s q a ao u)))) else (shutterref14_Type.j0 k a1 a false r s q a ao u))) else ((shutterref14_Deny.f r s q a ao u).bind fun ag => (some (ag.1, ag.2.1, ag.2.2.1, ag.2.2.2.1, ag.2.2.2.2.1, ag.2.2.2.2.2, 8, a)))))) = some (r1, r2, r3, r4, r5, r6, r7, r8) := by rw [if_pos rfl] at H; exact H
  clear H
  have H := H1
  clear H1
  by_cases c5 : ao = true
  ·subst c5
   have H1 : (some (r, s, q, a, true, u, 7, (-1))) = some (r1, r2, r3, r4, r5, r6, r7, r8) := by rw [if_pos rfl] at H; exact H
   clear H
   have H := H1
   clear H1
   simp only [Option.some.injEq, Prod.mk.injEq] at H
   obtain ⟨rfl, rfl, rfl, rfl, rfl, rfl, rfl, rfl⟩ := H
   go_enter Tryd.func33, Tryd.ntmps33
   go_wp2_with (first | ((with_reducible refine gate_dst (N := 2) rfl ?_); refine box_event ?hg (N := 2) ?hd (cs := #[.int .i64 r, .int .i64 s, .slice aq q.length am, .int .i64 a, .bool true, .bool u]) (t := 24) ?hr ?_; (case hd => rfl); (case hg => rfl); (case hr => first | (go_simp; done) | (go_simp; rfl)); intro Y hg w6 hbox hb; have G := Z (ve B.out hg hb); have I := Z (below_step bl_ hb); have J := Z (hbox); have L := Z ((le_new hg (below_size bl_) : w.heap.size ≤ Y)); have ac := Z ((le_new hg (below_size bl_) : w.heap.size ≤ Y)); clear B HB; have B := G; have HB := I; have b := J; have gr := L; have fk := ac; clear G I J L ac; clear hb hbox hg) | ((with_reducible refine gate_dst (N := 4) rfl ?_); refine box_event ?hg (N := 4) ?hd (cs := #[.int .i64 0, .int .i64 0, .slice none 0 0, .int .i64 0, .bool false, .bool false]) (t := 24) ?hr ?_; (case hd => rfl); (case hg => rfl); (case hr => first | (go_simp; done) | (go_simp; rfl)); intro x hg w7 hbox hb; have G := Z (ve B.out hg hb); have I := Z (kb b.out hb); have J := Z (below_step bl_ hb); have L := Z (hbox); have ac := Z ((le_new hg (below_size bl_) : w.heap.size ≤ x)); have ak := Z ((le_new hg (below_size bl_) : w.heap.size ≤ x)); have ar := Z (nl b.out hg); have aZ := Z (ng b.out hg); clear B b HB; have B := G; have b := I; have HB := J; have l := L; have gs := ac; have fl := ak; have ah := ar; have ai := aZ; clear G I J L ac ak ar aZ; clear hb hbox hg) | ((with_reducible refine gate_callee (f := 58) rfl ?_); refine goesL_ (some 17) rfl rfl Tryd.func58 (by kernel_rfl) rfl #[.int .u8 a1] rfl ag_ ?_; (with_reducible refine (shutterref09_Letter.calls a1 true _ A3.out).mono ?_); rintro e w' ⟨rfl, ⟨nd, rfl⟩⟩; refine ⟨_, rfl, ?_⟩; (try (rw [drewN_self w7]; generalize hq_ : World.drewN w7 _ = w7; have G : Aside0 (Kd.V k35 35 w7 w.heap.size (fun k_ => ((((aV k_ ∨ w.heap.size ≤ k_)) ∧ k_ ≠ Y) ∧ k_ ≠ x)) (.slice aq q.length am) q) := ⟨by rw [← hq_]; exact (by (with_reducible repeat apply pV); exact B.out)⟩; have I : Aside0 (w7.heap[Y]? = some (.cells #[.int .i64 r, .int .i64 s, .slice aq q.length am, .int .i64 a, .bool true, .bool u] 24 (0, 0))) := ⟨by rw [← hq_]; exact (by (with_reducible repeat apply pK); exact b.out)⟩; have J : Aside0 (w7.heap[x]? = some (.cells #[.int .i64 0, .int .i64 0, .slice none 0 0, .int .i64 0, .bool false, .bool false] 24 (0, 0))) := ⟨by rw [← hq_]; exact (by (with_reducible repeat apply pK); exact l.out)⟩; have L : Aside0 (Below w.heap.size w w7) := ⟨by rw [← hq_]; exact bl_⟩; clear B b l HB hq_; have B := G; have b := I; have l := J; have HB := L; clear G I J L)); have sG := ah.out; have sH := ai.out; obtain ⟨cM, cN, cO, cP, cQ, cR, cS, cT, cU, cV, cW, cX⟩ := cells6 b.out; obtain ⟨bw, bx, bz, bA, bB, bC, b7, b8, b9, ca, cb, cc⟩ := cells6 l.out))
   refine bodyPost_ret (results_ctt rfl _ _ x 24 #[.int .i64 r, .int .i64 s, .slice aq q.length am, .int .i64 a, .bool true, .bool u] (0, 0) _ rfl (put6 l.out) Tryd.underlying24 rfl (by kernel_rfl)) rfl ?_
   exact ⟨_, by first | rfl | (simp [errW_none, errW_some] <;> rfl) | (simp [*, errW_none, errW_some] <;> rfl), by (with_reducible repeat apply pV); exact Kd.V_mono (Kd.V_far (p := ⟨x, 5, none⟩) (Kd.V_far (p := ⟨x, 4, none⟩) (Kd.V_far (p := ⟨x, 3, none⟩) (Kd.V_far (p := ⟨x, 2, none⟩) (Kd.V_far (p := ⟨x, 1, none⟩) (Kd.V_far (p := ⟨x, 0, none⟩) (Kd.V_mono B.out (fun k_ hk => (⟨hk, hk.2⟩ : _ ∧ k_ ≠ x))) (fun _ hk => hk.2) (.int .i64 r)) (fun _ hk => hk.2) (.int .i64 s)) (fun _ hk => hk.2) (.slice aq q.length am)) (fun _ hk => hk.2) (.int .i64 a)) (fun _ hk => hk.2) (.bool true)) (fun _ hk => hk.2) (.bool u)) (fun _ hk => hk.1.1.1), bl_⟩
  ·replace c5 := Bool.eq_false_iff.mpr c5
   subst c5
   have H1 : ((shutterref11_Open.f k r s q a false u a).bind fun bu => (if bu = true then ((shutterref11_Of.f k r s q a false u a).bind fun bg => (if bg.2.1 = true then ((shutterref14_Digit.f a1).bind fun aU => (if aU = true then (shutterref14_Type.j0 k a1 a false r s q a false u) else (if a1 = 28 then (shutterref14_Type.j0 k a1 a false r s q a false u) else (shutterref14_Type.j0 k a1 a (a1 != 30) r s q a false u)))) else (shutterref14_Type.j0 k a1 a false r s q a false u))) else ((shutterref14_Deny.f r s q a false u).bind fun ag => (some (ag.1, ag.2.1, ag.2.2.1, ag.2.2.2.1, ag.2.2.2.2.1, ag.2.2.2.2.2, 8, a))))) = some (r1, r2, r3, r4, r5, r6, r7, r8) := by rw [if_neg (show ¬ (false = true) by decide)] at H; exact H
   clear H
   have H := H1
   clear H1
   replace H := Option.bind_eq_some_iff.mp H
   obtain ⟨bu, jJ, H⟩ := H
   replace H : (if bu = true then ((shutterref11_Of.f k r s q a false u a).bind fun bg => (if bg.2.1 = true then ((shutterref14_Digit.f a1).bind fun aU => (if aU = true then (shutterref14_Type.j0 k a1 a false r s q a false u) else (if a1 = 28 then (shutterref14_Type.j0 k a1 a false r s q a false u) else (shutterref14_Type.j0 k a1 a (a1 != 30) r s q a false u)))) else (shutterref14_Type.j0 k a1 a false r s q a false u))) else ((shutterref14_Deny.f r s q a false u).bind fun ag => (some (ag.1, ag.2.1, ag.2.2.1, ag.2.2.2.1, ag.2.2.2.2.1, ag.2.2.2.2.2, 8, a)))) = some (r1, r2, r3, r4, r5, r6, r7, r8) := H
   have la := Z jJ
   clear jJ
   by_cases eF : bu = true
   ·subst eF
    have H1 : ((shutterref11_Of.f k r s q a false u a).bind fun bg => (if bg.2.1 = true then ((shutterref14_Digit.f a1).bind fun aU => (if aU = true then (shutterref14_Type.j0 k a1 a false r s q a false u) else (if a1 = 28 then (shutterref14_Type.j0 k a1 a false r s q a false u) else (shutterref14_Type.j0 k a1 a (a1 != 30) r s q a false u)))) else (shutterref14_Type.j0 k a1 a false r s q a false u))) = some (r1, r2, r3, r4, r5, r6, r7, r8) := by rw [if_pos rfl] at H; exact H
    clear H
    have H := H1
    clear H1
    have hu := Z H
    clear H
    go_enter Tryd.func33, Tryd.ntmps33
    go_upto_region 8 with (first | ((with_reducible refine gate_dst (N := 2) rfl ?_); refine box_event ?hg (N := 2) ?hd (cs := #[.int .i64 r, .int .i64 s, .slice aq q.length am, .int .i64 a, .bool false, .bool u]) (t := 24) ?hr ?_; (case hd => rfl); (case hg => rfl); (case hr => first | (go_simp; done) | (go_simp; rfl)); intro Y hg tm hbox hb; have G := Z (ve B.out hg hb); have I := Z (below_step bl_ hb); have J := Z (hbox); have L := Z ((le_new hg (below_size bl_) : w.heap.size ≤ Y)); have ac := Z ((le_new hg (below_size bl_) : w.heap.size ≤ Y)); clear B HB; have B := G; have HB := I; have b := J; have gr := L; have fk := ac; clear G I J L ac; clear hb hbox hg) | ((with_reducible refine gate_dst (N := 4) rfl ?_); refine box_event ?hg (N := 4) ?hd (cs := #[.int .i64 0, .int .i64 0, .slice none 0 0, .int .i64 0, .bool false, .bool false]) (t := 24) ?hr ?_; (case hd => rfl); (case hg => rfl); (case hr => first | (go_simp; done) | (go_simp; rfl)); intro x hg tn hbox hb; have G := Z (ve B.out hg hb); have I := Z (kb b.out hb); have J := Z (below_step bl_ hb); have L := Z (hbox); have ac := Z ((le_new hg (below_size bl_) : w.heap.size ≤ x)); have ak := Z ((le_new hg (below_size bl_) : w.heap.size ≤ x)); have ar := Z (nl b.out hg); have aZ := Z (ng b.out hg); clear B b HB; have B := G; have b := I; have HB := J; have l := L; have gs := ac; have fl := ak; have ah := ar; have ai := aZ; clear G I J L ac ak ar aZ; clear hb hbox hg) | ((with_reducible refine gate_callee (f := 58) rfl ?_); refine goesL_ (some 17) rfl rfl Tryd.func58 (by kernel_rfl) rfl #[.int .u8 a1] rfl ag_ ?_; (with_reducible refine (shutterref09_Letter.calls a1 true _ A3.out).mono ?_); rintro e w' ⟨rfl, ⟨nd, rfl⟩⟩; refine ⟨_, rfl, ?_⟩; have rH := ah.out; have rV := ai.out; obtain ⟨bD, bE, bF, bG, bH, bI, cd, ce, cf, cg, ch, ci⟩ := cells6 b.out) | ((with_reducible refine gate_callee (f := 22) rfl ?_); refine goesL_ (some 27) rfl rfl Tryd.func22 (by kernel_rfl) rfl #[.agg #[.int .i64 r, .int .i64 s, .slice aq q.length am, .int .i64 a, .bool false, .bool u], .int .i64 a] rfl ag_ ?_; (with_reducible refine (shutterref11_Open.calls k r s _ _ q a false u a true _ ?side1 ?side2 la.out).mono ?_); (case side1 => repeat (first | exact (Kd.V_reads' B.out).2.2 | (with_reducible apply pC))); (case side2 => exact (Kd.V_reads' B.out).2.1); rintro e tp ⟨rfl, hb⟩; refine ⟨_, rfl, ?_⟩; have G := Z (vb B.out hb); have I := Z (kb b.out hb); have J := Z (kb l.out hb); have L := Z (below_step bl_ hb); clear B b l HB; have B := G; have b := I; have l := J; have HB := L; clear G I J L; (try clear hb); (try clear bl); (try clear hk); (try clear hi)))
    (try simp only [Act.put, sA, sB, sC])
    go_cut [48] (fun rC wc => ∃ (kq : Nat) (eP : Bool), rC = .bool eP ∧ Aside0 (shutterref14_Type.j0 kq a1 a eP r s q a false u = some (r1, r2, r3, r4, r5, r6, r7, r8)) ∧ Aside0 (kq ≤ k) ∧ Aside0 (Kd.V k35 35 wc w.heap.size (fun k_ => (aV k_ ∨ w.heap.size ≤ k_) ∧ k_ ≠ Y ∧ k_ ≠ x) (.slice aq q.length am) q) ∧ Aside0 (wc.heap[Y]? = some (.cells #[.int .i64 r, .int .i64 s, (.slice aq q.length am), .int .i64 a, .bool false, .bool u] 24 (0, 0))) ∧ Aside0 (wc.heap[x]? = some (.cells #[.int .i64 0, .int .i64 0, (.slice none 0 0), .int .i64 0, .bool false, .bool false] 24 (0, 0))) ∧ Aside0 (Below w.heap.size w wc))
    case first =>
     have H := hu.out
     clear hu
     replace H := Option.bind_eq_some_iff.mp H
     obtain ⟨⟨gR, kE, gS, gT⟩, jL, H⟩ := H
     replace H : (if kE = true then ((shutterref14_Digit.f a1).bind fun aU => (if aU = true then (shutterref14_Type.j0 k a1 a false r s q a false u) else (if a1 = 28 then (shutterref14_Type.j0 k a1 a false r s q a false u) else (shutterref14_Type.j0 k a1 a (a1 != 30) r s q a false u)))) else (shutterref14_Type.j0 k a1 a false r s q a false u)) = some (r1, r2, r3, r4, r5, r6, r7, r8) := H
     have iX := Z jL
     clear jL
     by_cases eG : kE = true
     ·subst eG
      have H1 : ((shutterref14_Digit.f a1).bind fun aU => (if aU = true then (shutterref14_Type.j0 k a1 a false r s q a false u) else (if a1 = 28 then (shutterref14_Type.j0 k a1 a false r s q a false u) else (shutterref14_Type.j0 k a1 a (a1 != 30) r s q a false u)))) = some (r1, r2, r3, r4, r5, r6, r7, r8) := by rw [if_pos rfl] at H; exact H
      clear H
      have H := H1
      clear H1
      replace H := Option.bind_eq_some_iff.mp H
      obtain ⟨aU, jN, H⟩ := H
      replace H : (if aU = true then (shutterref14_Type.j0 k a1 a false r s q a false u) else (if a1 = 28 then (shutterref14_Type.j0 k a1 a false r s q a false u) else (shutterref14_Type.j0 k a1 a (a1 != 30) r s q a false u))) = some (r1, r2, r3, r4, r5, r6, r7, r8) := H
      have jM := Z jN
      clear jN
      by_cases eH : aU = true
      ·subst eH
       have H1 : (shutterref14_Type.j0 k a1 a false r s q a false u) = some (r1, r2, r3, r4, r5, r6, r7, r8) := by rw [if_pos rfl] at H; exact H
       clear H
       have H := H1
       clear H1
       have H' := Z H
       clear H
       have rI := ah.out
       have rW := ai.out
       obtain ⟨bJ, bK, bL, bM, bN, bO, cj, ck, cl, cm, cn, co⟩ := cells6 b.out
       go_wp2_with (first | ((with_reducible refine gate_callee (f := 48) rfl ?_); refine goesL_ (some 34) rfl rfl Tryd.func48 (by kernel_rfl) rfl #[.agg #[.int .i64 r, .int .i64 s, .slice aq q.length am, .int .i64 a, .bool false, .bool u], .int .i64 a] rfl ag_ ?_; (with_reducible refine (shutterref11_Of.calls k r s _ _ q a false u a gR true gS gT _ ?side1 ?side2 iX.out).mono ?_); (case side1 => repeat (first | exact (Kd.V_reads' B.out).2.2 | (with_reducible apply pC))); (case side2 => exact (Kd.V_reads' B.out).2.1); rintro e tq ⟨rfl, hb⟩; refine ⟨_, rfl, ?_⟩; have G := Z (vb B.out hb); have I := Z (kb b.out hb); have J := Z (kb l.out hb); have L := Z (below_step bl_ hb); clear B b l HB; have B := G; have b := I; have l := J; have HB := L; clear G I J L; (try clear hb); (try clear bl); (try clear hk); (try clear hi)) | (go_at_call 39; (with_reducible refine (shutterref14_Digit.calls a1 true _ jM.out).mono ?_); rintro e w' ⟨rfl, ⟨nd, rfl⟩⟩))
       go_meet
       case rel => exact ⟨_, (false), (by first | rfl | (simp; done) | (simp [*]; done)), H', ⟨by first | omega | exact Nat.le_refl _⟩, ⟨by (with_reducible repeat apply pV); exact Kd.V_mono B.out (fun _ hk => ⟨hk.1.1, ⟨hk.1.2, hk.2⟩⟩)⟩, ⟨by (with_reducible repeat apply pK); exact b.out⟩, ⟨by (with_reducible repeat apply pK); exact l.out⟩, ⟨bl_⟩⟩
      ·replace eH := Bool.eq_false_iff.mpr eH
       subst eH
       have H1 : (if a1 = 28 then (shutterref14_Type.j0 k a1 a false r s q a false u) else (shutterref14_Type.j0 k a1 a (a1 != 30) r s q a false u)) = some (r1, r2, r3, r4, r5, r6, r7, r8) := by rw [if_neg (show ¬ (false = true) by decide)] at H; exact H
       clear H
       have H := H1
       clear H1
       by_cases cL : a1 = 28
       ·rw [if_pos cL] at H
        have bi : (a1 == 28) = true := beq_iff_eq.mpr cL
        have dc : (a1 != 28) = false := bne_eq_false_iff_eq.mpr cL
        clear cL
        (first | rw [bi] | (simp only [i64_w, i32_w]; rw [bi]) | skip)
        have H' := Z H
        clear H
        have rJ := ah.out
        have rX := ai.out
        obtain ⟨bP, bQ, bR, bS, bT, bU, cp, cq, cr, ct, cu, cv⟩ := cells6 b.out
        go_wp2_with (first | ((with_reducible refine gate_callee (f := 48) rfl ?_); refine goesL_ (some 34) rfl rfl Tryd.func48 (by kernel_rfl) rfl #[.agg #[.int .i64 r, .int .i64 s, .slice aq q.length am, .int .i64 a, .bool false, .bool u], .int .i64 a] rfl ag_ ?_; (with_reducible refine (shutterref11_Of.calls k r s _ _ q a false u a gR true gS gT _ ?side1 ?side2 iX.out).mono ?_); (case side1 => repeat (first | exact (Kd.V_reads' B.out).2.2 | (with_reducible apply pC))); (case side2 => exact (Kd.V_reads' B.out).2.1); rintro e tr ⟨rfl, hb⟩; refine ⟨_, rfl, ?_⟩; have G := Z (vb B.out hb); have I := Z (kb b.out hb); have J := Z (kb l.out hb); have L := Z (below_step bl_ hb); clear B b l HB; have B := G; have b := I; have l := J; have HB := L; clear G I J L; (try clear hb); (try clear bl); (try clear hk); (try clear hi)) | (go_at_call 39; (with_reducible refine (shutterref14_Digit.calls a1 false _ jM.out).mono ?_); rintro e w' ⟨rfl, ⟨nd, rfl⟩⟩))
        go_meet
        case rel => exact ⟨_, (false), (by first | rfl | (simp; done) | (simp [*]; done)), H', ⟨by first | omega | exact Nat.le_refl _⟩, ⟨by (with_reducible repeat apply pV); exact Kd.V_mono B.out (fun _ hk => ⟨hk.1.1, ⟨hk.1.2, hk.2⟩⟩)⟩, ⟨by (with_reducible repeat apply pK); exact b.out⟩, ⟨by (with_reducible repeat apply pK); exact l.out⟩, ⟨bl_⟩⟩
       ·rw [if_neg cL] at H
        have bi : (a1 == 28) = false := beq_eq_false_iff_ne.mpr cL
        have dc : (a1 != 28) = true := bne_iff_ne.mpr cL
        (first | rw [bi] | (simp only [i64_w, i32_w]; rw [bi]) | skip)
        have H' := Z H
        clear H
        have rK := ah.out
        have rY := ai.out
        obtain ⟨bV, bW, bX, bY, bZ, b0, cw, cx, cy, cz, cA, cB⟩ := cells6 b.out
        go_wp2_with (first | ((with_reducible refine gate_callee (f := 48) rfl ?_); refine goesL_ (some 34) rfl rfl Tryd.func48 (by kernel_rfl) rfl #[.agg #[.int .i64 r, .int .i64 s, .slice aq q.length am, .int .i64 a, .bool false, .bool u], .int .i64 a] rfl ag_ ?_; (with_reducible refine (shutterref11_Of.calls k r s _ _ q a false u a gR true gS gT _ ?side1 ?side2 iX.out).mono ?_); (case side1 => repeat (first | exact (Kd.V_reads' B.out).2.2 | (with_reducible apply pC))); (case side2 => exact (Kd.V_reads' B.out).2.1); rintro e ts ⟨rfl, hb⟩; refine ⟨_, rfl, ?_⟩; have G := Z (vb B.out hb); have I := Z (kb b.out hb); have J := Z (kb l.out hb); have L := Z (below_step bl_ hb); clear B b l HB; have B := G; have b := I; have l := J; have HB := L; clear G I J L; (try clear hb); (try clear bl); (try clear hk); (try clear hi)) | (go_at_call 39; (with_reducible refine (shutterref14_Digit.calls a1 false _ jM.out).mono ?_); rintro e w' ⟨rfl, ⟨nd, rfl⟩⟩))
        go_meet
        case rel => exact ⟨_, ((a1 != 30)), (by first | rfl | (simp; done) | (simp [*]; done)), H', ⟨by first | omega | exact Nat.le_refl _⟩, ⟨by (with_reducible repeat apply pV); exact Kd.V_mono B.out (fun _ hk => ⟨hk.1.1, ⟨hk.1.2, hk.2⟩⟩)⟩, ⟨by (with_reducible repeat apply pK); exact b.out⟩, ⟨by (with_reducible repeat apply pK); exact l.out⟩, ⟨bl_⟩⟩
     ·replace eG := Bool.eq_false_iff.mpr eG
      subst eG
      have H1 : (shutterref14_Type.j0 k a1 a false r s q a false u) = some (r1, r2, r3, r4, r5, r6, r7, r8) := by rw [if_neg (show ¬ (false = true) by decide)] at H; exact H
      clear H
      have H := H1
      clear H1
      have H' := Z H
      clear H
      have rL := ah.out
      have rZ := ai.out
      obtain ⟨b1, b2, b3, b4, b5, b6, cC, cD, cE, cF, cG, cH⟩ := cells6 b.out
      go_wp2_with (first | ((with_reducible refine gate_callee (f := 48) rfl ?_); refine goesL_ (some 34) rfl rfl Tryd.func48 (by kernel_rfl) rfl #[.agg #[.int .i64 r, .int .i64 s, .slice aq q.length am, .int .i64 a, .bool false, .bool u], .int .i64 a] rfl ag_ ?_; (with_reducible refine (shutterref11_Of.calls k r s _ _ q a false u a gR false gS gT _ ?side1 ?side2 iX.out).mono ?_); (case side1 => repeat (first | exact (Kd.V_reads' B.out).2.2 | (with_reducible apply pC))); (case side2 => exact (Kd.V_reads' B.out).2.1); rintro e tt ⟨rfl, hb⟩; refine ⟨_, rfl, ?_⟩; have G := Z (vb B.out hb); have I := Z (kb b.out hb); have J := Z (kb l.out hb); have L := Z (below_step bl_ hb); clear B b l HB; have B := G; have b := I; have l := J; have HB := L; clear G I J L; (try clear hb); (try clear bl); (try clear hk); (try clear hi)))
      go_meet
      case rel => exact ⟨_, (false), (by first | rfl | (simp; done) | (simp [*]; done)), H', ⟨by first | omega | exact Nat.le_refl _⟩, ⟨by (with_reducible repeat apply pV); exact Kd.V_mono B.out (fun _ hk => ⟨hk.1.1, ⟨hk.1.2, hk.2⟩⟩)⟩, ⟨by (with_reducible repeat apply pK); exact b.out⟩, ⟨by (with_reducible repeat apply pK); exact l.out⟩, ⟨bl_⟩⟩
    case rest =>
     clear hu
     try clear c1
     try clear c2
     try clear p2
     try clear c3
     try clear c4
     try clear c5
     try clear c8
     try clear eF
     try clear jg
     try clear eG
     try clear eH
     try clear jh
     try clear cL
     try clear bi
     try clear dc
     try clear ji
     try clear jj
     try clear jk
     try clear bw
     try clear bx
     try clear bz
     try clear bA
     try clear bB
     try clear bC
     try clear bD
     try clear bE
     try clear bF
     try clear bG
     try clear bH
     try clear bI
     try clear bJ
     try clear bK
     try clear bL
     try clear bM
     try clear bN
     try clear bO
     try clear bP
     try clear bQ
     try clear bR
     try clear bS
     try clear bT
     try clear bU
     try clear bV
     try clear bW
     try clear bX
     try clear bY
     try clear bZ
     try clear b0
     try clear b1
     try clear b2
     try clear b3
     try clear b4
     try clear b5
     try clear b6
     try clear cM
     try clear cN
     try clear cO
     try clear cP
     try clear cQ
     try clear cR
     try clear b7
     try clear b8
     try clear b9
     try clear ca
     try clear cb
     try clear cc
     try clear cd
     try clear ce
     try clear cf
     try clear cg
     try clear ch
     try clear ci
     try clear cj
     try clear ck
     try clear cl
     try clear cm
     try clear cn
     try clear co
     try clear cp
     try clear cq
     try clear cr
     try clear ct
     try clear cu
     try clear cv
     try clear cw
     try clear cx
     try clear cy
     try clear cz
     try clear cA
     try clear cB
     try clear cC
     try clear cD
     try clear cE
     try clear cF
     try clear cG
     try clear cH
     try clear cS
     try clear cT
     try clear cU
     try clear cV
     try clear cW
     try clear cX
     obtain ⟨kq, eP, rfl, HA, bp, HO_482002, b, l, HB⟩ := hcut
     cases kq with
     | zero => exact absurd HA.out (by simp [shutterref14_Type.j0])
     | succ a3 =>
      have H := HA.out
      clear HA
      simp only [shutterref14_Type.j0] at H
      by_cases ff : eP = true
      ·subst ff
       have H1 : ((shutterref14_Deny.f r s q a false u).bind fun db => (some (db.1, db.2.1, db.2.2.1, db.2.2.2.1, db.2.2.2.2.1, db.2.2.2.2.2, 9, a))) = some (r1, r2, r3, r4, r5, r6, r7, r8) := by rw [if_pos rfl] at H; exact H
       clear H
       have H := H1
       clear H1
       replace H := Option.bind_eq_some_iff.mp H
       obtain ⟨⟨gU, gV, gW, gX, gY, gZ⟩, jO, H⟩ := H
       replace H : (some (gU, gV, gW, gX, gY, gZ, 9, a)) = some (r1, r2, r3, r4, r5, r6, r7, r8) := H
       have pX := Z jO
       clear jO
       simp only [Option.some.injEq, Prod.mk.injEq] at H
       obtain ⟨rfl, rfl, rfl, rfl, rfl, rfl, rfl, rfl⟩ := H
       have rM := ah.out
       have r0 := ai.out
       obtain ⟨dd, de, df, dg, dh, di, dP, dQ, dR, dS, dT, dU⟩ := cells6 b.out
       go_wp2_with (first | ((with_reducible refine gate_callee (f := 40) rfl ?_); refine goesL_ (some 50) rfl rfl Tryd.func40 (by kernel_rfl) rfl #[.agg #[.int .i64 r, .int .i64 s, .slice aq q.length am, .int .i64 a, .bool false, .bool u]] rfl ag_ ?_; (with_reducible refine (shutterref14_Deny.calls r s _ _ q a false u gU gV gW gX gY gZ _ ?side1 ?side2 pX.out).mono ?_); (case side1 => repeat (first | exact (Kd.V_reads' HO_482002.out).2.2 | (with_reducible apply pC))); (case side2 => exact (Kd.V_reads' HO_482002.out).2.1); rintro e tu ⟨sP, rfl, a6, hb⟩; refine ⟨_, rfl, ?_⟩; have G := Z (Kd.V_elder' (by (with_reducible repeat apply pV); exact HO_482002.out) (Kd.R_base a6) hb); have I := Z (Kd.R_lower (Kd.R_newM (M := fun k_ => (w.heap.size ≤ k_)) a6 (below_size bl_) (fun k_ h_ => h_)) (below_size bl_)); have J := Z (kb b.out hb); have L := Z (kb l.out hb); have ac := Z (below_step bl_ hb); clear HO_482002 b l HB; have HO_482002 := G; have ja := I; have b := J; have l := L; have HB := ac; clear G I J L ac; (try clear hb); (try clear bl); (try clear hk); (try clear hi); (try clear a6); obtain ⟨dj, dk, dl, dm, dn, dp, dV, dW, dX, dY, dZ, d0⟩ := cells6 l.out; obtain ⟨jT, kh, lw⟩ := Kd.R_slice ja.out; subst lw))
       refine bodyPost_ret (results_ctt rfl _ _ x 24 #[.int .i64 gU, .int .i64 gV, .slice jT gW.length kh, .int .i64 gX, .bool gY, .bool gZ] (0, 0) _ rfl (put6 l.out) Tryd.underlying24 rfl (by kernel_rfl)) rfl ?_
       exact ⟨_, by first | rfl | (simp [errW_none, errW_some] <;> rfl) | (simp [*, errW_none, errW_some] <;> rfl), Kd.V_mono (Kd.R_V (by (with_reducible repeat apply pR); exact Kd.R_mono (Kd.R_far (p := ⟨x, 5, none⟩) (Kd.R_far (p := ⟨x, 4, none⟩) (Kd.R_far (p := ⟨x, 3, none⟩) (Kd.R_far (p := ⟨x, 2, none⟩) (Kd.R_far (p := ⟨x, 1, none⟩) (Kd.R_far (p := ⟨x, 0, none⟩) (Kd.R_types ja.out l.out (by decide)) (fun _ hk => hk.2) (.int .i64 gU)) (fun _ hk => hk.2) (.int .i64 gV)) (fun _ hk => hk.2) (.slice jT gW.length kh)) (fun _ hk => hk.2) (.int .i64 gX)) (fun _ hk => hk.2) (.bool gY)) (fun _ hk => hk.2) (.bool gZ)) (fun _ hk => hk.1.1))) (fun k_ hk => by first | exact ⟨(.inr (hk.1)), hk.2⟩ | exact (.inr (hk))), bl_⟩
      ·replace ff := Bool.eq_false_iff.mpr ff
       subst ff
       have H1 : ((shutterref14_Modify.f a3 r s q a false u a).bind fun a4 => (if u = true then ((shutterref14_Line.f a3 r s q a false u a).bind fun m => (shutterref14_Type.l0 a3 a1 a m (-1) (wrap64 ((m.length : Int) - 1)) r s q a false u a4.1 a4.2.1 a4.2.2.1 a4.2.2.2.1 a4.2.2.2.2.1 a4.2.2.2.2.2)) else (shutterref14_Type.j3 a3 a1 a r s q a false u a4.1 a4.2.1 a4.2.2.1 a4.2.2.2.1 a4.2.2.2.2.1 a4.2.2.2.2.2))) = some (r1, r2, r3, r4, r5, r6, r7, r8) := by rw [if_neg (show ¬ (false = true) by decide)] at H; exact H
       clear H
       have H := H1
       clear H1
       replace H := Option.bind_eq_some_iff.mp H
       obtain ⟨⟨F, P, aI, al, X, ab⟩, jP, H⟩ := H
       replace H : (if u = true then ((shutterref14_Line.f a3 r s q a false u a).bind fun m => (shutterref14_Type.l0 a3 a1 a m (-1) (wrap64 ((m.length : Int) - 1)) r s q a false u F P aI al X ab)) else (shutterref14_Type.j3 a3 a1 a r s q a false u F P aI al X ab)) = some (r1, r2, r3, r4, r5, r6, r7, r8) := H
       have pY := Z jP
       clear jP
       have hv := Z H
       clear H
       have rN := ah.out
       have r9 := ai.out
       obtain ⟨dq, dr, dt, du, dv, dw, d1, d2, d3, d4, d5, d6⟩ := cells6 b.out
       go_upto_if 56 with (first | ((with_reducible refine gate_callee (f := 37) rfl ?_); refine goesL_ (some 54) rfl rfl Tryd.func37 (by kernel_rfl) rfl #[.agg #[.int .i64 r, .int .i64 s, .slice aq q.length am, .int .i64 a, .bool false, .bool u], .int .i64 a] rfl ag_ ?_; (with_reducible refine (shutterref14_Modify.calls a3 r s _ _ q a false u a F P aI al X ab _ ?side1 ?side2 pY.out).mono ?_); (case side1 => repeat (first | exact (Kd.V_reads' HO_482002.out).2.2 | (with_reducible apply pC))); (case side2 => exact (Kd.V_reads' HO_482002.out).2.1); rintro e tv ⟨sQ, rfl, a6, hb⟩; refine ⟨_, rfl, ?_⟩; have G := Z (Kd.V_elder' (by (with_reducible repeat apply pV); exact HO_482002.out) (Kd.R_base a6) hb); have I := Z (Kd.R_lower (Kd.R_newM (M := fun k_ => (w.heap.size ≤ k_)) a6 (below_size bl_) (fun k_ h_ => h_)) (below_size bl_)); have J := Z (kb b.out hb); have L := Z (kb l.out hb); have ac := Z (below_step bl_ hb); clear HO_482002 b l HB; have HO_482002 := G; have bm := I; have b := J; have l := L; have HB := ac; clear G I J L ac; (try clear hb); (try clear bl); (try clear hk); (try clear hi); (try clear a6)) | ((with_reducible refine gate_dst (N := 8) rfl ?_); refine box_event ?hg (N := 8) ?hd (cs := #[.int .i64 0, .int .i64 0, .slice none 0 0, .int .i64 0, .bool false, .bool false]) (t := 24) ?hr ?_; (case hd => rfl); (case hg => rfl); (case hr => first | (go_simp; done) | (go_simp; rfl)); intro Q hg tw hbox hb; have G := Z (ve HO_482002.out hg hb); have I := Z (rb bm.out hb); have J := Z (kb b.out hb); have L := Z (kb l.out hb); have ac := Z (below_step bl_ hb); have ak := Z (hbox); have ar := Z ((le_new hg (below_size bl_) : w.heap.size ≤ Q)); have aZ := Z ((le_new hg (below_size bl_) : w.heap.size ≤ Q)); have fi := Z (nl b.out hg); have fj := Z (ng b.out hg); have cY := Z (nl l.out hg); have cZ := Z (ng l.out hg); clear HO_482002 bm b l HB; have HO_482002 := G; have bm := I; have b := J; have l := L; have HB := ac; have y := ak; have rD := ar; have kI := aZ; have az := fi; have aL := fj; have aw := cY; have aW := cZ; clear G I J L ac ak ar aZ fi fj cY cZ; clear hb hbox hg; have rO := aL.out; have sa := az.out; have rP := aW.out; have sb := aw.out; obtain ⟨dx, dy, dz, dA, dB, dC, d7, d8, d9, ea, eb, ec⟩ := cells6 y.out; obtain ⟨bj, bk, lx⟩ := Kd.R_slice bm.out; subst lx; obtain ⟨dD, dE, dF, dG, dH, dI, ed, ee, ef, eg, eh, ei⟩ := cells6 b.out))
       (try simp only [Act.put, sA, sB, sC])
       go_cut [] (fun wc => ∃ (kq : Nat) (O : List (S35)) (ay : Int) (au : Int) (af : Int) (aa : Bool) (T : Bool) (d : List (S35)) (u482002 : Value) (u515002 : Value), Aside0 (shutterref14_Type.j3 kq a1 a r s O a false u F P d al X ab = some (r1, r2, r3, r4, r5, r6, r7, r8)) ∧ Aside0 (kq ≤ a3) ∧ Aside0 (Kd.V k35 35 wc w.heap.size (fun k_ => (aV k_ ∨ w.heap.size ≤ k_) ∧ some k_ ≠ (u515002 : Value).ownBlock ∧ k_ ≠ Y ∧ k_ ≠ x ∧ k_ ≠ Q) u482002 O) ∧ Aside0 (Kd.R k35 35 wc w.heap.size (fun k_ => (w.heap.size ≤ k_)) u515002 d) ∧ Aside0 (wc.heap[Y]? = some (.cells #[.int .i64 r, .int .i64 s, u482002, .int .i64 a, .bool false, .bool u] 24 (0, 0))) ∧ Aside0 (wc.heap[x]? = some (.cells #[.int .i64 ay, .int .i64 au, (.slice none 0 0), .int .i64 af, .bool aa, .bool T] 24 (0, 0))) ∧ Aside0 (wc.heap[Q]? = some (.cells #[.int .i64 F, .int .i64 P, u515002, .int .i64 al, .bool X, .bool ab] 24 (0, 0))) ∧ Aside0 (Below w.heap.size w wc))
       case first =>
        have H := hv.out
        clear hv
        by_cases fg : u = true
        ·subst fg
         have H1 : ((shutterref14_Line.f a3 r s q a false true a).bind fun m => (shutterref14_Type.l0 a3 a1 a m (-1) (wrap64 ((m.length : Int) - 1)) r s q a false true F P aI al X ab)) = some (r1, r2, r3, r4, r5, r6, r7, r8) := by rw [if_pos rfl] at H; exact H
         clear H
         have H := H1
         clear H1
         replace H := Option.bind_eq_some_iff.mp H
         obtain ⟨m, jQ, H⟩ := H
         replace H : (shutterref14_Type.l0 a3 a1 a m (-1) (wrap64 ((m.length : Int) - 1)) r s q a false true F P aI al X ab) = some (r1, r2, r3, r4, r5, r6, r7, r8) := H
         have pZ := Z jQ
         clear jQ
         have H' := Z H
         clear H
         have rQ := ah.out
         have sc := ai.out
         have rR := az.out
         have sd := aL.out
         obtain ⟨dJ, dK, dL, dM, dN, dO, ej, ek, el, em, en, eo⟩ := cells6 b.out
         go_wp2_with (first | ((with_reducible refine gate_callee (f := 32) rfl ?_); refine goesL_ (some 59) rfl rfl Tryd.func32 (by kernel_rfl) rfl #[.agg #[.int .i64 r, .int .i64 s, .slice aq q.length am, .int .i64 a, .bool false, .bool true], .int .i64 a] rfl ag_ ?_; (with_reducible refine (shutterref14_Line.calls a3 r s _ _ q a false true a m _ ?side1 ?side2 pZ.out).mono ?_); (case side1 => refine (Kd.V_reads' (e := 35) (base := w.heap.size) (ok := fun k_ => (((((aV k_ ∨ w.heap.size ≤ k_)) ∧ (k_ ≠ Y ∧ k_ ≠ x)) ∧ some k_ ≠ (.slice bj aI.length bk : Value).ownBlock) ∧ k_ ≠ Q)) (n := q.length) (c := am) ?_).2.2; exact (by (with_reducible repeat apply pV); exact (Kd.V_mono (Kd.V_far (p := ⟨Q, 5, none⟩) (Kd.V_far (p := ⟨Q, 4, none⟩) (Kd.V_far (p := ⟨Q, 3, none⟩) (Kd.V_far (p := ⟨Q, 2, none⟩) (Kd.V_far (p := ⟨Q, 1, none⟩) (Kd.V_far (p := ⟨Q, 0, none⟩) (Kd.V_mono HO_482002.out (fun k_ hk => (⟨hk, hk.2⟩ : _ ∧ k_ ≠ Q))) (fun _ hk => hk.2) (.int .i64 F)) (fun _ hk => hk.2) (.int .i64 P)) (fun _ hk => hk.2) (.slice bj aI.length bk)) (fun _ hk => hk.2) (.int .i64 al)) (fun _ hk => hk.2) (.bool X)) (fun _ hk => hk.2) (.bool ab)) (fun _ h_ => h_.1)))); (case side2 => exact (Kd.V_reads' HO_482002.out).2.1); rintro e tx ⟨sR, rfl, a6, hb⟩; refine ⟨_, rfl, ?_⟩; have G := Z (Kd.V_elder' (by (with_reducible repeat apply pV); exact (Kd.V_mono (Kd.V_far (p := ⟨Q, 5, none⟩) (Kd.V_far (p := ⟨Q, 4, none⟩) (Kd.V_far (p := ⟨Q, 3, none⟩) (Kd.V_far (p := ⟨Q, 2, none⟩) (Kd.V_far (p := ⟨Q, 1, none⟩) (Kd.V_far (p := ⟨Q, 0, none⟩) (Kd.V_mono HO_482002.out (fun k_ hk => (⟨hk, hk.2⟩ : _ ∧ k_ ≠ Q))) (fun _ hk => hk.2) (.int .i64 F)) (fun _ hk => hk.2) (.int .i64 P)) (fun _ hk => hk.2) (.slice bj aI.length bk)) (fun _ hk => hk.2) (.int .i64 al)) (fun _ hk => hk.2) (.bool X)) (fun _ hk => hk.2) (.bool ab)) (fun _ h_ => h_.1))) (Kd.R_base a6) hb); have I := Z (Kd.R_below (by (with_reducible repeat apply pR); exact (Kd.R_mono (Kd.R_far (p := ⟨Q, 5, none⟩) (Kd.R_far (p := ⟨Q, 4, none⟩) (Kd.R_far (p := ⟨Q, 3, none⟩) (Kd.R_far (p := ⟨Q, 2, none⟩) (Kd.R_far (p := ⟨Q, 1, none⟩) (Kd.R_far (p := ⟨Q, 0, none⟩) (Kd.R_types bm.out y.out (by decide)) (fun _ hk => hk.2) (.int .i64 F)) (fun _ hk => hk.2) (.int .i64 P)) (fun _ hk => hk.2) (.slice bj aI.length bk)) (fun _ hk => hk.2) (.int .i64 al)) (fun _ hk => hk.2) (.bool X)) (fun _ hk => hk.2) (.bool ab)) (fun _ h_ => h_.1))) hb); have J := Z (Kd.R_lower (Kd.R_newM (M := fun k_ => (w.heap.size ≤ k_)) a6 (below_size bl_) (fun k_ h_ => h_)) (below_size bl_)); have L := Z (blk_below (g := Y) (o := .cells #[.int .i64 r, .int .i64 s, .slice aq q.length am, .int .i64 a, .bool false, .bool true] 24 (0, 0)) (blk_off b.out az.out off2_) hb); have ac := Z (blk_below (g := x) (o := .cells #[.int .i64 0, .int .i64 0, .slice none 0 0, .int .i64 0, .bool false, .bool false] 24 (0, 0)) (blk_off l.out aw.out off2_) hb); have ak := Z (blk_below (g := Q) (o := .cells #[.int .i64 F, .int .i64 P, .slice bj aI.length bk, .int .i64 al, .bool X, .bool ab] 24 (0, 0)) (put6 y.out) hb); have ar := Z (below_step bl_ hb); clear HO_482002 bm b l y HB; have HO_482002 := G; have bm := I; have jb := J; have b := L; have l := ac; have y := ak; have HB := ar; clear G I J L ac ak ar; (try clear hb); (try clear bl); (try clear hk); (try clear hi); (try clear a6); obtain ⟨gq, gG, ly⟩ := Kd.R_slice jb.out; subst ly))
         go_loopg [10, 11] a3 (fun kq rz rA w' => ∃ (a2 : Int) (E : Int), rz = .int .i64 a2 ∧ rA = .int .i64 E ∧ Aside0 (shutterref14_Type.l0 kq a1 a m a2 E r s q a false true F P aI al X ab = some (r1, r2, r3, r4, r5, r6, r7, r8)) ∧ Aside0 (kq ≤ a3) ∧ Aside0 (Kd.R (Kd.int .i64) 3 w' w.heap.size (fun k_ => (w.heap.size ≤ k_)) (.slice gq m.length gG) m) ∧ Aside0 (Kd.V k35 35 w' w.heap.size (fun k_ => (aV k_ ∨ w.heap.size ≤ k_) ∧ some k_ ≠ ((.slice gq m.length gG) : Value).ownBlock ∧ some k_ ≠ ((.slice bj aI.length bk) : Value).ownBlock ∧ k_ ≠ Y ∧ k_ ≠ x ∧ k_ ≠ Q) (.slice aq q.length am) q) ∧ Aside0 (Kd.R k35 35 w' w.heap.size (fun k_ => (w.heap.size ≤ k_)) (.slice bj aI.length bk) aI) ∧ Aside0 (w'.heap[Y]? = some (.cells #[.int .i64 r, .int .i64 s, (.slice aq q.length am), .int .i64 a, .bool false, .bool true] 24 (0, 0))) ∧ Aside0 (w'.heap[x]? = some (.cells #[.int .i64 0, .int .i64 0, (.slice none 0 0), .int .i64 0, .bool false, .bool false] 24 (0, 0))) ∧ Aside0 (w'.heap[Q]? = some (.cells #[.int .i64 F, .int .i64 P, (.slice bj aI.length bk), .int .i64 al, .bool X, .bool ab] 24 (0, 0))) ∧ Aside0 (Below w.heap.size w w'))
         case atStart => exact ⟨((-1)), (wrap64 ((m.length : Int) - 1)), (by first | rfl | (simp; done) | (simp [*]; done)), (by first | rfl | (simp; done) | (simp [*]; done)), H', ⟨Nat.le_refl _⟩, ⟨by (with_reducible repeat apply pR); exact Kd.R_mono jb.out (fun _ hk => hk.1)⟩, ⟨by (with_reducible repeat apply pV); exact Kd.V_mono HO_482002.out (fun _ hk => ⟨hk.1.1.1.1, ⟨hk.2, ⟨hk.1.1.2, ⟨hk.1.1.1.2.1, ⟨hk.1.1.1.2.2, hk.1.2⟩⟩⟩⟩⟩)⟩, ⟨by (with_reducible repeat apply pR); exact Kd.R_mono bm.out (fun _ hk => hk.1)⟩, ⟨by (with_reducible repeat apply pK); exact b.out⟩, ⟨by (with_reducible repeat apply pK); exact l.out⟩, ⟨by (with_reducible repeat apply pK); exact y.out⟩, ⟨bl_⟩⟩
         case round =>
          clear H'
          try clear c1
          try clear c2
          try clear p2
          try clear c3
          try clear c4
          try clear c5
          try clear p6
          try clear c8
          try clear eF
          try clear jg
          try clear eG
          try clear eH
          try clear jh
          try clear cL
          try clear bi
          try clear dc
          try clear ji
          try clear jj
          try clear j5
          try clear jk
          try clear ff
          try clear j6
          try clear j7
          try clear j8
          try clear j9
          try clear ka
          try clear kc
          try clear kd
          try clear fg
          try clear ke
          try clear kf
          try clear kg
          try clear bw
          try clear bx
          try clear bz
          try clear bA
          try clear bB
          try clear bC
          try clear bD
          try clear bE
          try clear bF
          try clear bG
          try clear bH
          try clear bI
          try clear bJ
          try clear bK
          try clear bL
          try clear bM
          try clear bN
          try clear bO
          try clear bP
          try clear bQ
          try clear bR
          try clear bS
          try clear bT
          try clear bU
          try clear bV
          try clear bW
          try clear bX
          try clear bY
          try clear bZ
          try clear b0
          try clear b1
          try clear b2
          try clear b3
          try clear b4
          try clear b5
          try clear b6
          try clear dd
          try clear de
          try clear df
          try clear dg
          try clear dh
          try clear di
          try clear dj
          try clear dk
          try clear dl
          try clear dm
          try clear dn
          try clear dp
          try clear dq
          try clear dr
          try clear dt
          try clear du
          try clear dv
          try clear dw
          try clear dx
          try clear dy
          try clear dz
          try clear dA
          try clear dB
          try clear dC
          try clear dD
          try clear dE
          try clear dF
          try clear dG
          try clear dH
          try clear dI
          try clear dJ
          try clear dK
          try clear dL
          try clear dM
          try clear dN
          try clear dO
          try clear cM
          try clear cN
          try clear cO
          try clear cP
          try clear cQ
          try clear cR
          try clear b7
          try clear b8
          try clear b9
          try clear ca
          try clear cb
          try clear cc
          try clear cd
          try clear ce
          try clear cf
          try clear cg
          try clear ch
          try clear ci
          try clear cj
          try clear ck
          try clear cl
          try clear cm
          try clear cn
          try clear co
          try clear cp
          try clear cq
          try clear cr
          try clear ct
          try clear cu
          try clear cv
          try clear cw
          try clear cx
          try clear cy
          try clear cz
          try clear cA
          try clear cB
          try clear cC
          try clear cD
          try clear cE
          try clear cF
          try clear cG
          try clear cH
          try clear dP
          try clear dQ
          try clear dR
          try clear dS
          try clear dT
          try clear dU
          try clear dV
          try clear dW
          try clear dX
          try clear dY
          try clear dZ
          try clear d0
          try clear d1
          try clear d2
          try clear d3
          try clear d4
          try clear d5
          try clear d6
          try clear d7
          try clear d8
          try clear d9
          try clear ea
          try clear eb
          try clear ec
          try clear ed
          try clear ee
          try clear ef
          try clear eg
          try clear eh
          try clear ei
          try clear ej
          try clear ek
          try clear el
          try clear em
          try clear en
          try clear eo
          try clear cS
          try clear cT
          try clear cU
          try clear cV
          try clear cW
          try clear cX
          try clear p2
          obtain ⟨a2, E, rfl, rfl, HA, fs, HO_9, HO_482002, HO_515002, b, l, y, HB⟩ := hrel
          cases gk with
          | zero => exact absurd HA.out (by simp [shutterref14_Type.l0])
          | succ k2 =>
           have H := HA.out
           clear HA
           simp only [shutterref14_Type.l0] at H
           by_cases eI : E ≥ 0
           ·rw [if_pos eI] at H
            have bo : decide (0 ≤ E) = true := decide_eq_true eI
            clear eI
            (first | rw [bo] | (simp only [i64_w, i32_w]; rw [bo]) | skip)
            by_cases fv : 0 ≤ E
            ·rw [if_pos fv] at H
             have gB : decide (0 ≤ E) = true := decide_eq_true fv
             clear fv
             by_cases fw : E < (m.length : Int)
             ·rw [if_pos fw] at H
              have gC : decide (E < (m.length : Int)) = true := decide_eq_true fw
              clear fw
              by_cases fx : 0 ≤ (rd m E)
              ·rw [if_pos fx] at H
               have gD : decide (0 ≤ (rd m E)) = true := decide_eq_true fx
               clear fx
               by_cases fy : (rd m E) < (q.length : Int)
               ·rw [if_pos fy] at H
                have gE : decide ((rd m E) < (q.length : Int)) = true := decide_eq_true fy
                clear fy
                by_cases ey : ((rd_T35 q (rd m E)).f2) = 0
                ·rw [if_pos ey] at H
                 have fn : (((rd_T35 q (rd m E)).f2) == 0) = true := beq_iff_eq.mpr ey
                 have fo : (((rd_T35 q (rd m E)).f2) != 0) = false := bne_eq_false_iff_eq.mpr ey
                 clear ey
                 have H' := Z H
                 clear H
                 try go_wp2
                 have G := Z (Kd.R_drew HO_9.out)
                 have I := Z (Kd.V_drew HO_482002.out)
                 have J := Z (Kd.R_drew HO_515002.out)
                 have L := Z (blk_drew b.out)
                 have ac := Z (blk_drew l.out)
                 have ak := Z (blk_drew y.out)
                 have ar := Z (below_drew1 HB.out)
                 clear HO_9
                 clear HO_482002
                 clear HO_515002
                 clear b
                 clear l
                 clear y
                 clear HB
                 have HO_9 := G
                 have HO_482002 := I
                 have HO_515002 := J
                 have b := L
                 have l := ac
                 have y := ak
                 have HB := ar
                 clear G I J L ac ak ar
                 have bq : 0 ≤ (E : Int) := od_
                 have bs : E < (m.length : Int) := od_
                 obtain ⟨gw, hy, a7⟩ := Kd.at_int (Kd.R_reads' HO_9.out).2.2 E bq bs
                 cases hy
                 replace bq := eq_true bq
                 replace bs := eq_true bs
                 have br : 0 ≤ ((rd m E) : Int) := od_
                 have bt : (rd m E) < (q.length : Int) := od_
                 obtain ⟨av, hz, a8, a9, ba, bb, bc, bd⟩ := at_T35 (Kd.V_reads' HO_482002.out).2.2 (rd m E) br bt
                 cases hz
                 replace br := eq_true br
                 replace bt := eq_true bt
                 refine start_ (n := 10) (S := fun w' => w'.cell? ⟨Y, 0, none⟩ = some (.int .i64 r) ∧ w'.cell? ⟨Y, 1, none⟩ = some (.int .i64 s) ∧ w'.cell? ⟨Y, 2, none⟩ = some (.slice (some av) q.length am) ∧ w'.cell? ⟨Y, 3, none⟩ = some (.int .i64 a) ∧ w'.cell? ⟨Y, 4, none⟩ = some (.bool false) ∧ w'.cell? ⟨Y, 5, none⟩ = some (.bool true) ∧ w'.cell? (gw.add (E).toNat) = some (.int .i64 (rd m E)) ∧ w'.cell? (av.add (((rd m E)).toNat * 6)) = some (.bool ((rd_T35 q (rd m E)).f0)) ∧ w'.cell? ⟨(av.add (((rd m E)).toNat * 6)).block, (av.add (((rd m E)).toNat * 6)).off + 1, none⟩ = some (.bool ((rd_T35 q (rd m E)).f1.f0)) ∧ w'.cell? ⟨(av.add (((rd m E)).toNat * 6)).block, (av.add (((rd m E)).toNat * 6)).off + 2, none⟩ = some (.bool ((rd_T35 q (rd m E)).f1.f1)) ∧ w'.cell? ⟨(av.add (((rd m E)).toNat * 6)).block, (av.add (((rd m E)).toNat * 6)).off + 3, none⟩ = some (.int .i64 ((rd_T35 q (rd m E)).f1.f2)) ∧ w'.cell? ⟨(av.add (((rd m E)).toNat * 6)).block, (av.add (((rd m E)).toNat * 6)).off + 4, none⟩ = some (.bool ((rd_T35 q (rd m E)).f1.f3)) ∧ w'.cell? ⟨(av.add (((rd m E)).toNat * 6)).block, (av.add (((rd m E)).toNat * 6)).off + 5, none⟩ = some (.int .u8 ((rd_T35 q (rd m E)).f2))) (ds := []) (bv 10 0) (by kernel_rfl) rfl rfl ⟨(blk_cell b.out 0).trans rfl, (blk_cell b.out 1).trans rfl, (blk_cell b.out 2).trans rfl, (blk_cell b.out 3).trans rfl, (blk_cell b.out 4).trans rfl, (blk_cell b.out 5).trans rfl, a7, a8, a9, ba, bb, bc, bd⟩ (fun hHeld => ?_); refine with_tabW shutterref14_Type.tab17 shutterref14_Type.bits17 (fun HT_ HW_ => ?_)
                 generalize wr.drew = ty at HO_9 HO_482002 HO_515002 b l y HB a7 a8 a9 ba bb bc bd hHeld ⊢
                 refine pure_ (i := 0) (N := some 67) (v := ?_) (a' := ?_) (bv 10 1) rfl rfl (any_of HT_.out (by kernel_rfl)) (fun _ _ _ h => h) (Or.inl ⟨by rfl, ?_⟩) ?_ ?_
                 rotate_left
                 ·intro w'
                  go_simp
                  with_reducible rfl
                 rotate_left
                 ·simp only [Act.put, sA, sB, sC, i64_w, i32_w]
                  rfl
                 refine pure_ (i := 2) (N := some 69) (v := ?_) (a' := ?_) (bv 10 5) rfl rfl (any_of HT_.out (by kernel_rfl)) (fun _ _ _ h => h) (Or.inl ⟨by rfl, ?_⟩) ?_ ?_
                 rotate_left
                 ·intro w'
                  go_simp
                  with_reducible rfl
                 rotate_left
                 ·simp only [Act.put, sA, sB, sC, i64_w, i32_w]
                  rfl
                 refine pure_ (i := 3) (N := some 70) (v := ?_) (a' := ?_) (bv 10 13) rfl rfl (any_of HT_.out (by kernel_rfl)) (fun _ _ _ h => h) (Or.inl ⟨by rfl, ?_⟩) ?_ ?_
                 rotate_left
                 ·intro w'
                  go_simp
                  with_reducible rfl
                 rotate_left
                 ·simp only [Act.put, sA, sB, sC, i64_w, i32_w]
                  rfl
                 refine pure_ (i := 4) (N := some 71) (v := ?_) (a' := ?_) (bv 10 29) rfl rfl (any_of HT_.out (by kernel_rfl)) (fun _ _ _ h => h) (Or.inl ⟨by rfl, ?_⟩) ?_ ?_
                 rotate_left
                 ·intro w'
                  go_simp
                  with_reducible rfl
                 rotate_left
                 ·simp only [Act.put, sA, sB, sC, i64_w, i32_w]
                  rfl
                 refine take_ (i := 1) (N := some 68) (v := ?_) (a' := ?_) (bv 10 31) rfl rfl (take_ofW HT_.out HW_.out (by kernel_rfl)) (fun _ _ _ h => h) (Or.inl ⟨by rfl, ?_⟩) hHeld ?_ ?_
                 rotate_left
                 ·rintro w' ⟨s0, s1, s2, s3, s4, s5, s6, s7, s8, s9, ez, eA, eB⟩
                  go_simp
                  with_reducible rfl
                 rotate_left
                 ·simp only [Act.put, sA, sB, sC, i64_w, i32_w]
                  rfl
                 refine take_ (i := 5) (N := some 72) (v := ?_) (a' := ?_) (bv 10 63) rfl rfl (take_ofW HT_.out HW_.out (by kernel_rfl)) (fun _ _ _ h => h) (Or.inl ⟨by rfl, ?_⟩) hHeld ?_ ?_
                 rotate_left
                 ·rintro w' ⟨s0, s1, s2, s3, s4, s5, s6, s7, s8, s9, ez, eA, eB⟩
                  go_simp
                  with_reducible rfl
                 rotate_left
                 ·simp only [Act.put, sA, sB, sC, i64_w, i32_w]
                  rfl
                 refine pure_ (i := 6) (N := some 73) (v := ?_) (a' := ?_) (bv 10 127) rfl rfl (any_of HT_.out (by kernel_rfl)) (fun _ _ _ h => h) (Or.inl ⟨by rfl, ?_⟩) ?_ ?_
                 rotate_left
                 ·intro w'
                  go_simp
                  with_reducible rfl
                 rotate_left
                 ·simp only [Act.put, sA, sB, sC, i64_w, i32_w]
                  rfl
                 refine pure_ (i := 7) (N := some 74) (v := ?_) (a' := ?_) (bv 10 255) rfl rfl (any_of HT_.out (by kernel_rfl)) (fun _ _ _ h => h) (Or.inl ⟨by rfl, ?_⟩) ?_ ?_
                 rotate_left
                 ·intro w'
                  go_simp
                  with_reducible rfl
                 rotate_left
                 ·simp only [Act.put, sA, sB, sC, i64_w, i32_w]
                  rfl
                 refine take_ (i := 8) (N := some 75) (v := ?_) (a' := ?_) (bv 10 511) rfl rfl (take_ofW HT_.out HW_.out (by kernel_rfl)) (fun _ _ _ h => h) (Or.inl ⟨by rfl, ?_⟩) hHeld ?_ ?_
                 rotate_left
                 ·rintro w' ⟨s0, s1, s2, s3, s4, s5, s6, s7, s8, s9, ez, eA, eB⟩
                  go_simp
                  with_reducible rfl
                 rotate_left
                 ·simp only [Act.put, sA, sB, sC, i64_w, i32_w]
                  rfl
                 refine pure_ (i := 9) (N := some 76) (v := ?_) (a' := ?_) (bv 10 1023) rfl rfl (any_of HT_.out (by kernel_rfl)) (fun _ _ _ h => h) (Or.inl ⟨by rfl, ?_⟩) ?_ ?_
                 rotate_left
                 ·intro w'
                  go_simp
                  with_reducible rfl
                 rotate_left
                 ·simp only [Act.put, sA, sB, sC, i64_w, i32_w]
                  rfl
                 refine done_ (done_of HT_.out (by kernel_rfl)) ?_
                 try go_wp2
                 go_roundg k2
                 case measure => have := bp.out; have := fs.out; omega
                 case rel => exact ⟨(E), (wrap64 (E - 1)), (by first | rfl | (simp; done) | (simp [*]; done)), (by first | rfl | (simp; done) | (simp [*]; done)), H', ⟨by have := bp.out; have := fs.out; omega⟩, ⟨by (with_reducible repeat apply pR); exact HO_9.out⟩, ⟨by (with_reducible repeat apply pV); exact HO_482002.out⟩, ⟨by (with_reducible repeat apply pR); exact HO_515002.out⟩, ⟨by (with_reducible repeat apply pK); exact b.out⟩, ⟨by (with_reducible repeat apply pK); exact l.out⟩, ⟨by (with_reducible repeat apply pK); exact y.out⟩, ⟨bl_⟩⟩
                ·rw [if_neg ey] at H
                 have fn : (((rd_T35 q (rd m E)).f2) == 0) = false := beq_eq_false_iff_ne.mpr ey
                 have fo : (((rd_T35 q (rd m E)).f2) != 0) = true := bne_iff_ne.mpr ey
                 have H' := Z H
                 clear H
                 try go_wp2
                 have G := Z (Kd.R_drew HO_9.out)
                 have I := Z (Kd.V_drew HO_482002.out)
                 have J := Z (Kd.R_drew HO_515002.out)
                 have L := Z (blk_drew b.out)
                 have ac := Z (blk_drew l.out)
                 have ak := Z (blk_drew y.out)
                 have ar := Z (below_drew1 HB.out)
                 clear HO_9
                 clear HO_482002
                 clear HO_515002
                 clear b
                 clear l
                 clear y
                 clear HB
                 have HO_9 := G
                 have HO_482002 := I
                 have HO_515002 := J
                 have b := L
                 have l := ac
                 have y := ak
                 have HB := ar
                 clear G I J L ac ak ar
                 have bq : 0 ≤ (E : Int) := od_
                 have bs : E < (m.length : Int) := od_
                 obtain ⟨gw, hy, a7⟩ := Kd.at_int (Kd.R_reads' HO_9.out).2.2 E bq bs
                 cases hy
                 replace bq := eq_true bq
                 replace bs := eq_true bs
                 have br : 0 ≤ ((rd m E) : Int) := od_
                 have bt : (rd m E) < (q.length : Int) := od_
                 obtain ⟨av, hz, a8, a9, ba, bb, bc, bd⟩ := at_T35 (Kd.V_reads' HO_482002.out).2.2 (rd m E) br bt
                 cases hz
                 replace br := eq_true br
                 replace bt := eq_true bt
                 refine start_ (n := 10) (S := fun w' => w'.cell? ⟨Y, 0, none⟩ = some (.int .i64 r) ∧ w'.cell? ⟨Y, 1, none⟩ = some (.int .i64 s) ∧ w'.cell? ⟨Y, 2, none⟩ = some (.slice (some av) q.length am) ∧ w'.cell? ⟨Y, 3, none⟩ = some (.int .i64 a) ∧ w'.cell? ⟨Y, 4, none⟩ = some (.bool false) ∧ w'.cell? ⟨Y, 5, none⟩ = some (.bool true) ∧ w'.cell? (gw.add (E).toNat) = some (.int .i64 (rd m E)) ∧ w'.cell? (av.add (((rd m E)).toNat * 6)) = some (.bool ((rd_T35 q (rd m E)).f0)) ∧ w'.cell? ⟨(av.add (((rd m E)).toNat * 6)).block, (av.add (((rd m E)).toNat * 6)).off + 1, none⟩ = some (.bool ((rd_T35 q (rd m E)).f1.f0)) ∧ w'.cell? ⟨(av.add (((rd m E)).toNat * 6)).block, (av.add (((rd m E)).toNat * 6)).off + 2, none⟩ = some (.bool ((rd_T35 q (rd m E)).f1.f1)) ∧ w'.cell? ⟨(av.add (((rd m E)).toNat * 6)).block, (av.add (((rd m E)).toNat * 6)).off + 3, none⟩ = some (.int .i64 ((rd_T35 q (rd m E)).f1.f2)) ∧ w'.cell? ⟨(av.add (((rd m E)).toNat * 6)).block, (av.add (((rd m E)).toNat * 6)).off + 4, none⟩ = some (.bool ((rd_T35 q (rd m E)).f1.f3)) ∧ w'.cell? ⟨(av.add (((rd m E)).toNat * 6)).block, (av.add (((rd m E)).toNat * 6)).off + 5, none⟩ = some (.int .u8 ((rd_T35 q (rd m E)).f2))) (ds := []) (bv 10 0) (by kernel_rfl) rfl rfl ⟨(blk_cell b.out 0).trans rfl, (blk_cell b.out 1).trans rfl, (blk_cell b.out 2).trans rfl, (blk_cell b.out 3).trans rfl, (blk_cell b.out 4).trans rfl, (blk_cell b.out 5).trans rfl, a7, a8, a9, ba, bb, bc, bd⟩ (fun hHeld => ?_); refine with_tabW shutterref14_Type.tab17 shutterref14_Type.bits17 (fun HT_ HW_ => ?_)
                 generalize wr.drew = tz at HO_9 HO_482002 HO_515002 b l y HB a7 a8 a9 ba bb bc bd hHeld ⊢
                 refine pure_ (i := 0) (N := some 67) (v := ?_) (a' := ?_) (bv 10 1) rfl rfl (any_of HT_.out (by kernel_rfl)) (fun _ _ _ h => h) (Or.inl ⟨by rfl, ?_⟩) ?_ ?_
                 rotate_left
                 ·intro w'
                  go_simp
                  with_reducible rfl
                 rotate_left
                 ·simp only [Act.put, sA, sB, sC, i64_w, i32_w]
                  rfl
                 refine pure_ (i := 2) (N := some 69) (v := ?_) (a' := ?_) (bv 10 5) rfl rfl (any_of HT_.out (by kernel_rfl)) (fun _ _ _ h => h) (Or.inl ⟨by rfl, ?_⟩) ?_ ?_
                 rotate_left
                 ·intro w'
                  go_simp
                  with_reducible rfl
                 rotate_left
                 ·simp only [Act.put, sA, sB, sC, i64_w, i32_w]
                  rfl
                 refine pure_ (i := 3) (N := some 70) (v := ?_) (a' := ?_) (bv 10 13) rfl rfl (any_of HT_.out (by kernel_rfl)) (fun _ _ _ h => h) (Or.inl ⟨by rfl, ?_⟩) ?_ ?_
                 rotate_left
                 ·intro w'
                  go_simp
                  with_reducible rfl
                 rotate_left
                 ·simp only [Act.put, sA, sB, sC, i64_w, i32_w]
                  rfl
                 refine pure_ (i := 4) (N := some 71) (v := ?_) (a' := ?_) (bv 10 29) rfl rfl (any_of HT_.out (by kernel_rfl)) (fun _ _ _ h => h) (Or.inl ⟨by rfl, ?_⟩) ?_ ?_
                 rotate_left
                 ·intro w'
                  go_simp
                  with_reducible rfl
                 rotate_left
                 ·simp only [Act.put, sA, sB, sC, i64_w, i32_w]
                  rfl
                 refine take_ (i := 1) (N := some 68) (v := ?_) (a' := ?_) (bv 10 31) rfl rfl (take_ofW HT_.out HW_.out (by kernel_rfl)) (fun _ _ _ h => h) (Or.inl ⟨by rfl, ?_⟩) hHeld ?_ ?_
                 rotate_left
                 ·rintro w' ⟨s0, s1, s2, s3, s4, s5, s6, s7, s8, s9, ez, eA, eB⟩
                  go_simp
                  with_reducible rfl
                 rotate_left
                 ·simp only [Act.put, sA, sB, sC, i64_w, i32_w]
                  rfl
                 refine take_ (i := 5) (N := some 72) (v := ?_) (a' := ?_) (bv 10 63) rfl rfl (take_ofW HT_.out HW_.out (by kernel_rfl)) (fun _ _ _ h => h) (Or.inl ⟨by rfl, ?_⟩) hHeld ?_ ?_
                 rotate_left
                 ·rintro w' ⟨s0, s1, s2, s3, s4, s5, s6, s7, s8, s9, ez, eA, eB⟩
                  go_simp
                  with_reducible rfl
                 rotate_left
                 ·simp only [Act.put, sA, sB, sC, i64_w, i32_w]
                  rfl
                 refine pure_ (i := 6) (N := some 73) (v := ?_) (a' := ?_) (bv 10 127) rfl rfl (any_of HT_.out (by kernel_rfl)) (fun _ _ _ h => h) (Or.inl ⟨by rfl, ?_⟩) ?_ ?_
                 rotate_left
                 ·intro w'
                  go_simp
                  with_reducible rfl
                 rotate_left
                 ·simp only [Act.put, sA, sB, sC, i64_w, i32_w]
                  rfl
                 refine pure_ (i := 7) (N := some 74) (v := ?_) (a' := ?_) (bv 10 255) rfl rfl (any_of HT_.out (by kernel_rfl)) (fun _ _ _ h => h) (Or.inl ⟨by rfl, ?_⟩) ?_ ?_
                 rotate_left
                 ·intro w'
                  go_simp
                  with_reducible rfl
                 rotate_left
                 ·simp only [Act.put, sA, sB, sC, i64_w, i32_w]
                  rfl
                 refine take_ (i := 8) (N := some 75) (v := ?_) (a' := ?_) (bv 10 511) rfl rfl (take_ofW HT_.out HW_.out (by kernel_rfl)) (fun _ _ _ h => h) (Or.inl ⟨by rfl, ?_⟩) hHeld ?_ ?_
                 rotate_left
                 ·rintro w' ⟨s0, s1, s2, s3, s4, s5, s6, s7, s8, s9, ez, eA, eB⟩
                  go_simp
                  with_reducible rfl
                 rotate_left
                 ·simp only [Act.put, sA, sB, sC, i64_w, i32_w]
                  rfl
                 refine pure_ (i := 9) (N := some 76) (v := ?_) (a' := ?_) (bv 10 1023) rfl rfl (any_of HT_.out (by kernel_rfl)) (fun _ _ _ h => h) (Or.inl ⟨by rfl, ?_⟩) ?_ ?_
                 rotate_left
                 ·intro w'
                  go_simp
                  with_reducible rfl
                 rotate_left
                 ·simp only [Act.put, sA, sB, sC, i64_w, i32_w]
                  rfl
                 refine done_ (done_of HT_.out (by kernel_rfl)) ?_
                 try go_wp2
                 go_roundg k2
                 case measure => have := bp.out; have := fs.out; omega
                 case rel => exact ⟨(a2), (wrap64 (E - 1)), (by first | rfl | (simp; done) | (simp [*]; done)), (by first | rfl | (simp; done) | (simp [*]; done)), H', ⟨by have := bp.out; have := fs.out; omega⟩, ⟨by (with_reducible repeat apply pR); exact HO_9.out⟩, ⟨by (with_reducible repeat apply pV); exact HO_482002.out⟩, ⟨by (with_reducible repeat apply pR); exact HO_515002.out⟩, ⟨by (with_reducible repeat apply pK); exact b.out⟩, ⟨by (with_reducible repeat apply pK); exact l.out⟩, ⟨by (with_reducible repeat apply pK); exact y.out⟩, ⟨bl_⟩⟩
               ·rw [if_neg fy] at H
                exact absurd H (by simp)
              ·rw [if_neg fx] at H
               exact absurd H (by simp)
             ·rw [if_neg fw] at H
              exact absurd H (by simp)
            ·rw [if_neg fv] at H
             exact absurd H (by simp)
           ·rw [if_neg eI] at H
            have bo : decide (0 ≤ E) = false := decide_eq_false eI
            clear eI
            (first | rw [bo] | (simp only [i64_w, i32_w]; rw [bo]) | skip)
            by_cases eJ : a2 < 0
            ·rw [if_pos eJ] at H
             have fp : decide (a2 < 0) = true := decide_eq_true eJ
             clear eJ
             replace H := Option.bind_eq_some_iff.mp H
             obtain ⟨⟨g0, g1, g2, g3, g4, g5⟩, jR, H⟩ := H
             replace H : (some (g0, g1, g2, g3, g4, g5, 10, a)) = some (r1, r2, r3, r4, r5, r6, r7, r8) := H
             have p0 := Z jR
             clear jR
             simp only [Option.some.injEq, Prod.mk.injEq] at H
             obtain ⟨rfl, rfl, rfl, rfl, rfl, rfl, rfl, rfl⟩ := H
             have rS := ah.out
             have se := ai.out
             have rT := az.out
             have sf := aL.out
             obtain ⟨eR, eS, eT, eU, eV, eW, e3, e4, e5, e6, e7, e8⟩ := cells6 b.out
             go_wp2_with (first | ((with_reducible refine gate_callee (f := 40) rfl ?_); refine goesL_ (some 81) rfl rfl Tryd.func40 (by kernel_rfl) rfl #[.agg #[.int .i64 r, .int .i64 s, .slice aq q.length am, .int .i64 a, .bool false, .bool true]] rfl ag_ ?_; (with_reducible refine (shutterref14_Deny.calls r s _ _ q a false true g0 g1 g2 g3 g4 g5 _ ?side1 ?side2 p0.out).mono ?_); (case side1 => repeat (first | exact (Kd.V_reads' HO_482002.out).2.2 | (with_reducible apply pC))); (case side2 => exact (Kd.V_reads' HO_482002.out).2.1); rintro e tA ⟨sS, rfl, a6, hb⟩; refine ⟨_, rfl, ?_⟩; have G := Z (rb HO_9.out hb); have I := Z (Kd.V_elder' (by (with_reducible repeat apply pV); exact HO_482002.out) (Kd.R_base a6) hb); have J := Z (Kd.R_elder' (by (with_reducible repeat apply pR); exact HO_515002.out) (Kd.R_base a6) hb); have L := Z (Kd.R_lower (Kd.R_new' (Kd.R_newM (M := fun k_ => (w.heap.size ≤ k_)) a6 (below_size bl_) (fun k_ h_ => h_)) (Kd.R_lt (by (with_reducible repeat apply pR); exact HO_515002.out))) (below_size bl_)); have ac := Z (kb b.out hb); have ak := Z (kb l.out hb); have ar := Z (kb y.out hb); have aZ := Z (below_step bl_ hb); clear HO_9 HO_482002 HO_515002 b l y HB; have HO_9 := G; have HO_482002 := I; have HO_515002 := J; have jc := L; have b := ac; have l := ak; have y := ar; have HB := aZ; clear G I J L ac ak ar aZ; (try clear hb); (try clear bl); (try clear hk); (try clear hi); (try clear a6); have rU := aw.out; have sg := aW.out; obtain ⟨eX, eY, eZ, e0, e1, e2, e9, fa, fb, fc, fd, fe⟩ := cells6 l.out; obtain ⟨jU, ki, lz⟩ := Kd.R_slice jc.out; subst lz))
             refine bodyPost_ret (results_ctt rfl _ _ x 24 #[.int .i64 g0, .int .i64 g1, .slice jU g2.length ki, .int .i64 g3, .bool g4, .bool g5] (0, 0) _ rfl (put6 l.out) Tryd.underlying24 rfl (by kernel_rfl)) rfl ?_
             exact ⟨_, by first | rfl | (simp [errW_none, errW_some] <;> rfl) | (simp [*, errW_none, errW_some] <;> rfl), Kd.V_mono (Kd.R_V (by (with_reducible repeat apply pR); exact Kd.R_mono (Kd.R_far (p := ⟨x, 5, none⟩) (Kd.R_far (p := ⟨x, 4, none⟩) (Kd.R_far (p := ⟨x, 3, none⟩) (Kd.R_far (p := ⟨x, 2, none⟩) (Kd.R_far (p := ⟨x, 1, none⟩) (Kd.R_far (p := ⟨x, 0, none⟩) (Kd.R_types jc.out l.out (by decide)) (fun _ hk => hk.2) (.int .i64 g0)) (fun _ hk => hk.2) (.int .i64 g1)) (fun _ hk => hk.2) (.slice jU g2.length ki)) (fun _ hk => hk.2) (.int .i64 g3)) (fun _ hk => hk.2) (.bool g4)) (fun _ hk => hk.2) (.bool g5)) (fun _ hk => hk.1.1.1))) (fun k_ hk => by first | exact ⟨(.inr (hk.1)), hk.2⟩ | exact (.inr (hk))), bl_⟩
            ·rw [if_neg eJ] at H
             have fp : decide (a2 < 0) = false := decide_eq_false eJ
             clear eJ
             have H' := Z H
             clear H
             go_wp2
             go_loopg [12] k2 (fun kq rB w' => ∃ (A : Int) (ad : List (S35)) (C : List (S35)) (u482002 : Value) (u515002 : Value), rB = .int .i64 A ∧ Aside0 (shutterref14_Type.l1 kq a1 a m a2 A r s ad a false true F P C al X ab = some (r1, r2, r3, r4, r5, r6, r7, r8)) ∧ Aside0 (kq ≤ k2) ∧ Aside0 (Kd.R (Kd.int .i64) 3 w' w.heap.size (fun k_ => (w.heap.size ≤ k_)) (.slice gq m.length gG) m) ∧ Aside0 (Kd.V k35 35 w' w.heap.size (fun k_ => (aV k_ ∨ w.heap.size ≤ k_) ∧ some k_ ≠ ((.slice gq m.length gG) : Value).ownBlock ∧ some k_ ≠ (u515002 : Value).ownBlock ∧ k_ ≠ Y ∧ k_ ≠ x ∧ k_ ≠ Q) u482002 ad) ∧ Aside0 (Kd.R k35 35 w' w.heap.size (fun k_ => (w.heap.size ≤ k_)) u515002 C) ∧ Aside0 (w'.heap[Y]? = some (.cells #[.int .i64 r, .int .i64 s, u482002, .int .i64 a, .bool false, .bool true] 24 (0, 0))) ∧ Aside0 (w'.heap[x]? = some (.cells #[.int .i64 0, .int .i64 0, (.slice none 0 0), .int .i64 0, .bool false, .bool false] 24 (0, 0))) ∧ Aside0 (w'.heap[Q]? = some (.cells #[.int .i64 F, .int .i64 P, u515002, .int .i64 al, .bool X, .bool ab] 24 (0, 0))) ∧ Aside0 (Below w.heap.size w w'))
             case atStart => exact ⟨(1), (q), (aI), (.slice aq q.length am), (.slice bj aI.length bk), (by first | rfl | (simp; done) | (simp [*]; done)), H', ⟨Nat.le_refl _⟩, ⟨by (with_reducible repeat apply pR); exact HO_9.out⟩, ⟨by (with_reducible repeat apply pV); exact HO_482002.out⟩, ⟨by (with_reducible repeat apply pR); exact HO_515002.out⟩, ⟨by (with_reducible repeat apply pK); exact b.out⟩, ⟨by (with_reducible repeat apply pK); exact l.out⟩, ⟨by (with_reducible repeat apply pK); exact y.out⟩, ⟨bl_⟩⟩
             case round =>
              clear H'
              try clear c1
              try clear c2
              try clear p2
              try clear c3
              try clear c4
              try clear c5
              try clear p5
              try clear q5
              try clear li
              try clear c6
              try clear p6
              try clear c7
              try clear c8
              try clear eF
              try clear jg
              try clear eG
              try clear eH
              try clear jh
              try clear cL
              try clear bi
              try clear dc
              try clear ji
              try clear jj
              try clear j5
              try clear jk
              try clear ff
              try clear j6
              try clear j7
              try clear j8
              try clear j9
              try clear ka
              try clear kc
              try clear kd
              try clear p51
              try clear jy
              try clear kD
              try clear fg
              try clear ke
              try clear kf
              try clear kg
              try clear eI
              try clear bo
              try clear fv
              try clear gB
              try clear fw
              try clear gC
              try clear fx
              try clear gD
              try clear p64
              try clear fy
              try clear gE
              try clear ey
              try clear fn
              try clear fo
              try clear eJ
              try clear fp
              try clear ld
              try clear le
              try clear lf
              try clear bw
              try clear bx
              try clear bz
              try clear bA
              try clear bB
              try clear bC
              try clear bD
              try clear bE
              try clear bF
              try clear bG
              try clear bH
              try clear bI
              try clear bJ
              try clear bK
              try clear bL
              try clear bM
              try clear bN
              try clear bO
              try clear bP
              try clear bQ
              try clear bR
              try clear bS
              try clear bT
              try clear bU
              try clear bV
              try clear bW
              try clear bX
              try clear bY
              try clear bZ
              try clear b0
              try clear b1
              try clear b2
              try clear b3
              try clear b4
              try clear b5
              try clear b6
              try clear dd
              try clear de
              try clear df
              try clear dg
              try clear dh
              try clear di
              try clear dj
              try clear dk
              try clear dl
              try clear dm
              try clear dn
              try clear dp
              try clear dq
              try clear dr
              try clear dt
              try clear du
              try clear dv
              try clear dw
              try clear dx
              try clear dy
              try clear dz
              try clear dA
              try clear dB
              try clear dC
              try clear dD
              try clear dE
              try clear dF
              try clear dG
              try clear dH
              try clear dI
              try clear dJ
              try clear dK
              try clear dL
              try clear dM
              try clear dN
              try clear dO
              try clear eR
              try clear eS
              try clear eT
              try clear eU
              try clear eV
              try clear eW
              try clear eX
              try clear eY
              try clear eZ
              try clear e0
              try clear e1
              try clear e2
              try clear cM
              try clear cN
              try clear cO
              try clear cP
              try clear cQ
              try clear cR
              try clear b7
              try clear b8
              try clear b9
              try clear ca
              try clear cb
              try clear cc
              try clear cd
              try clear ce
              try clear cf
              try clear cg
              try clear ch
              try clear ci
              try clear cj
              try clear ck
              try clear cl
              try clear cm
              try clear cn
              try clear co
              try clear cp
              try clear cq
              try clear cr
              try clear ct
              try clear cu
              try clear cv
              try clear cw
              try clear cx
              try clear cy
              try clear cz
              try clear cA
              try clear cB
              try clear cC
              try clear cD
              try clear cE
              try clear cF
              try clear cG
              try clear cH
              try clear dP
              try clear dQ
              try clear dR
              try clear dS
              try clear dT
              try clear dU
              try clear dV
              try clear dW
              try clear dX
              try clear dY
              try clear dZ
              try clear d0
              try clear d1
              try clear d2
              try clear d3
              try clear d4
              try clear d5
              try clear d6
              try clear d7
              try clear d8
              try clear d9
              try clear ea
              try clear eb
              try clear ec
              try clear ed
              try clear ee
              try clear ef
              try clear eg
              try clear eh
              try clear ei
              try clear ej
              try clear ek
              try clear el
              try clear em
              try clear en
              try clear eo
              try clear e3
              try clear e4
              try clear e5
              try clear e6
              try clear e7
              try clear e8
              try clear e9
              try clear fa
              try clear fb
              try clear fc
              try clear fd
              try clear fe
              try clear cS
              try clear cT
              try clear cU
              try clear cV
              try clear cW
              try clear cX
              try clear a7
              try clear a8
              try clear a9
              try clear ba
              try clear bb
              try clear bc
              try clear bd
              try clear p2
              try clear bq
              try clear br
              try clear p6
              try clear bs
              try clear bt
              obtain ⟨A, ad, C, u482002, u515002, rfl, HA, jY, HO_9, HO_482002, HO_515002, b, l, y, HB⟩ := hrel
              cases gk with
              | zero => exact absurd HA.out (by simp [shutterref14_Type.l1])
              | succ k3 =>
               have H := HA.out
               clear HA
               simp only [shutterref14_Type.l1] at H
               by_cases fh : A ≤ a2
               ·rw [if_pos fh] at H
                have gF : decide (A ≤ a2) = true := decide_eq_true fh
                clear fh
                by_cases gg : 0 ≤ A
                ·rw [if_pos gg] at H
                 have jl : decide (0 ≤ A) = true := decide_eq_true gg
                 clear gg
                 by_cases gh : A < (m.length : Int)
                 ·rw [if_pos gh] at H
                  have jm : decide (A < (m.length : Int)) = true := decide_eq_true gh
                  clear gh
                  obtain ⟨aj, gJ⟩ : ∃ j_ : Int, (wrap64 (A - 1)) = j_ := ⟨_, rfl⟩
                  replace H : (if 0 ≤ (aj) then (if (aj) < (m.length : Int) then (if 0 ≤ (rd m (aj)) then (if (rd m (aj)) < (ad.length : Int) then (if 0 ≤ (rd m A) then (if (rd m A) < (C.length : Int) then (shutterref14_Type.l1 k3 a1 a m a2 (wrap64 (A + 1)) r s ad a false true F P (C.set ((rd m A) : Int).toNat (⟨(rd_T35 C (rd m A)).f0, (⟨(rd_T35 C (rd m A)).f1.f0, (rd_T35 C (rd m A)).f1.f1, (rd_T35 C (rd m A)).f1.f2, (rd_T35 C (rd m A)).f1.f3⟩ : S33), (rd_T35 ad (rd m (aj))).f2⟩ : S35)) al X ab) else (none)) else (none)) else (none)) else (none)) else (none)) else (none)) = some (r1, r2, r3, r4, r5, r6, r7, r8) := by first | (rw [gJ] at H; exact H) | (simp only [gJ] at H ⊢; exact H)
                  have qd : (IntKind.i64.wrap (A - 1)) = aj := (i64_w _).trans gJ
                  by_cases gi : 0 ≤ (aj)
                  ·rw [if_pos gi] at H
                   have jn : decide (0 ≤ (aj)) = true := decide_eq_true gi
                   clear gi
                   by_cases gj : (aj) < (m.length : Int)
                   ·rw [if_pos gj] at H
                    have jo : decide ((aj) < (m.length : Int)) = true := decide_eq_true gj
                    clear gj
                    by_cases gl : 0 ≤ (rd m (aj))
                    ·rw [if_pos gl] at H
                     have jp : decide (0 ≤ (rd m (aj))) = true := decide_eq_true gl
                     clear gl
                     by_cases gm : (rd m (aj)) < (ad.length : Int)
                     ·rw [if_pos gm] at H
                      have jq : decide ((rd m (aj)) < (ad.length : Int)) = true := decide_eq_true gm
                      clear gm
                      by_cases gn : 0 ≤ (rd m A)
                      ·rw [if_pos gn] at H
                       have jr : decide (0 ≤ (rd m A)) = true := decide_eq_true gn
                       clear gn
                       by_cases go : (rd m A) < (C.length : Int)
                       ·rw [if_pos go] at H
                        have js : decide ((rd m A) < (C.length : Int)) = true := decide_eq_true go
                        clear go
                        obtain ⟨kF, eL⟩ : ∃ y_ : List (S35), y_ = (C.set ((rd m A) : Int).toNat (⟨(rd_T35 C (rd m A)).f0, (⟨(rd_T35 C (rd m A)).f1.f0, (rd_T35 C (rd m A)).f1.f1, (rd_T35 C (rd m A)).f1.f2, (rd_T35 C (rd m A)).f1.f3⟩ : S33), (rd_T35 ad (rd m (aj))).f2⟩ : S35)) := ⟨_, rfl⟩
                        replace H : (shutterref14_Type.l1 k3 a1 a m a2 (wrap64 (A + 1)) r s ad a false true F P kF al X ab) = some (r1, r2, r3, r4, r5, r6, r7, r8) := by first | (rw [eL]; with_reducible exact H) | (have fq := (Option.bind_some _ _).symm.trans H; rw [eL]; with_reducible exact fq) | (have fq := (Option.bind_some _ _).symm.trans H; with_reducible exact fq) | with_reducible exact H | (rw [eL]; exact H) | exact H
                        have kL := Z eL
                        clear eL
                        have H' := Z H
                        clear H
                        try go_wp2
                        have G := Z (Kd.R_drew HO_9.out)
                        have I := Z (Kd.V_drew HO_482002.out)
                        have J := Z (Kd.R_drew HO_515002.out)
                        have L := Z (blk_drew b.out)
                        have ac := Z (blk_drew l.out)
                        have ak := Z (blk_drew y.out)
                        have ar := Z (below_drew1 HB.out)
                        clear HO_9
                        clear HO_482002
                        clear HO_515002
                        clear b
                        clear l
                        clear y
                        clear HB
                        have HO_9 := G
                        have HO_482002 := I
                        have HO_515002 := J
                        have b := L
                        have l := ac
                        have y := ak
                        have HB := ar
                        clear G I J L ac ak ar
                        have fO : 0 ≤ (A : Int) := od_
                        have fS : A < (m.length : Int) := od_
                        obtain ⟨gx, lt, ep⟩ := Kd.at_int (Kd.R_reads' HO_9.out).2.2 A fO fS
                        cases lt
                        replace fO := eq_true fO
                        replace fS := eq_true fS
                        have fP : 0 ≤ ((aj) : Int) := od_
                        have fT : (aj) < (m.length : Int) := od_
                        obtain ⟨kM, lu, eq⟩ := Kd.at_int (Kd.R_reads' HO_9.out).2.2 (aj) fP fT
                        obtain rfl : gx = kM := (by injection lu)
                        replace fP := eq_true fP
                        replace fT := eq_true fT
                        obtain ⟨si, kk, km⟩ := Kd.V_slice HO_482002.out
                        (first | subst km | (injection km with lg p7 lh; have qa := lg.symm; have qb := lh.symm; clear lg p7 lh; subst qa; subst qb))
                        have fQ : 0 ≤ ((rd m (aj)) : Int) := od_
                        have fU : (rd m (aj)) < (ad.length : Int) := od_
                        obtain ⟨a0, lv, er, es, et, eu, ev, ew⟩ := at_T35 (Kd.V_reads' HO_482002.out).2.2 (rd m (aj)) fQ fU
                        cases lv
                        replace fQ := eq_true fQ
                        replace fU := eq_true fU
                        have fR : 0 ≤ ((rd m A) : Int) := od_
                        have fV : ((rd m A) : Int) < ((C.length : Int) : Int) := od_
                        obtain ⟨aY, kj, kl, kn, lA, sD, jW⟩ := Kd.R_form HO_515002.out (by omega)
                        (first | cases kl | (injection kl with ea_ en_ ec_; (first | subst ea_ | (injection ea_ with ea_; subst ea_)); subst ec_; clear en_))
                        have lp := Z kn
                        have jV := Z jW
                        clear kn lA jW
                        obtain ⟨sx, kV, ko, cI, cJ⟩ := Kd.R_elem HO_515002.out z35 ((rd m A) : Int) fR fV
                        obtain rfl := k35_openM ko
                        have fF : World.cell? _ ⟨aY, ((rd m A) : Int).toNat * 6, none⟩ = some (.bool ((rd_T35 C (rd m A)).f0)) := cI 0 _ rfl
                        have fG : World.cell? _ ⟨aY, ((rd m A) : Int).toNat * 6 + 1, none⟩ = some (.bool ((rd_T35 C (rd m A)).f1.f0)) := cI 1 _ rfl
                        have fH : World.cell? _ ⟨aY, ((rd m A) : Int).toNat * 6 + 2, none⟩ = some (.bool ((rd_T35 C (rd m A)).f1.f1)) := cI 2 _ rfl
                        have fI : World.cell? _ ⟨aY, ((rd m A) : Int).toNat * 6 + 3, none⟩ = some (.int .i64 ((rd_T35 C (rd m A)).f1.f2)) := cI 3 _ rfl
                        have fJ : World.cell? _ ⟨aY, ((rd m A) : Int).toNat * 6 + 4, none⟩ = some (.bool ((rd_T35 C (rd m A)).f1.f3)) := cI 4 _ rfl
                        have fK : World.cell? _ ⟨aY, ((rd m A) : Int).toNat * 6 + 5, none⟩ = some (.int .u8 ((rd_T35 C (rd m A)).f2)) := cI 5 _ rfl
                        have kr : World.frozen? _ ⟨aY, ((rd m A) : Int).toNat * 6, none⟩ = false := cJ 0
                        have ks : World.frozen? _ ⟨aY, ((rd m A) : Int).toNat * 6 + 1, none⟩ = false := cJ 1
                        have kt : World.frozen? _ ⟨aY, ((rd m A) : Int).toNat * 6 + 2, none⟩ = false := cJ 2
                        have ku : World.frozen? _ ⟨aY, ((rd m A) : Int).toNat * 6 + 3, none⟩ = false := cJ 3
                        have kv : World.frozen? _ ⟨aY, ((rd m A) : Int).toNat * 6 + 4, none⟩ = false := cJ 4
                        have kw : World.frozen? _ ⟨aY, ((rd m A) : Int).toNat * 6 + 5, none⟩ = false := cJ 5
                        clear kV cI cJ ko
                        replace fR := eq_true fR
                        replace fV := eq_true fV
                        obtain ⟨sy, jx, kp, jw, kW⟩ := Kd.R_elem HO_515002.out z35 ((rd m A) : Int) (od_) (by have h_ : ((rd m A) : Int) < ((C.length : Int) : Int) := od_; first | exact h_ | (have e_ := (Kd.R_reads' HO_515002.out).1; omega) | simpa using h_)
                        obtain rfl := k35_openM kp
                        have hx := (Kd.R_seg HO_515002.out ((rd m A) : Int) (od_) (by have h_ : ((rd m A) : Int) < ((C.length : Int) : Int) := od_; first | exact h_ | (have e_ := (Kd.R_reads' HO_515002.out).1; omega) | simpa using h_) (seg := [.int .u8 ((rd_T35 ad (rd m (aj))).f2)]) (j := 5) jx jw (show 6 ≤ 6 from by decide) (x' := (⟨(rd_T35 C (rd m A)).f0, (⟨(rd_T35 C (rd m A)).f1.f0, (rd_T35 C (rd m A)).f1.f1, (rd_T35 C (rd m A)).f1.f2, (rd_T35 C (rd m A)).f1.f3⟩ : S33), (rd_T35 ad (rd m (aj))).f2⟩ : S35)) (k35_mkM _ _ _ (⟨(rd_T35 C (rd m A)).f0, (⟨(rd_T35 C (rd m A)).f1.f0, (rd_T35 C (rd m A)).f1.f1, (rd_T35 C (rd m A)).f1.f2, (rd_T35 C (rd m A)).f1.f3⟩ : S33), (rd_T35 ad (rd m (aj))).f2⟩ : S35) ) (fun _ hk => hk)).1
                        rw [← kL.out] at hx
                        have jZ := Z hx
                        clear jx jw kW kp hx
                        refine start_ (n := 19) (S := fun w' => w'.cell? ⟨Q, 0, none⟩ = some (.int .i64 F) ∧ w'.cell? ⟨Q, 1, none⟩ = some (.int .i64 P) ∧ w'.cell? ⟨Q, 2, none⟩ = some (.slice (some ⟨aY, 0, none⟩) C.length kj) ∧ w'.cell? ⟨Q, 3, none⟩ = some (.int .i64 al) ∧ w'.cell? ⟨Q, 4, none⟩ = some (.bool X) ∧ w'.cell? ⟨Q, 5, none⟩ = some (.bool ab) ∧ w'.cell? ⟨Y, 0, none⟩ = some (.int .i64 r) ∧ w'.cell? ⟨Y, 1, none⟩ = some (.int .i64 s) ∧ w'.cell? ⟨Y, 2, none⟩ = some (.slice (some a0) ad.length kk) ∧ w'.cell? ⟨Y, 3, none⟩ = some (.int .i64 a) ∧ w'.cell? ⟨Y, 4, none⟩ = some (.bool false) ∧ w'.cell? ⟨Y, 5, none⟩ = some (.bool true) ∧ w'.cell? (gx.add (A).toNat) = some (.int .i64 (rd m A)) ∧ w'.cell? (gx.add ((aj)).toNat) = some (.int .i64 (rd m (aj))) ∧ w'.cell? (a0.add (((rd m (aj))).toNat * 6)) = some (.bool ((rd_T35 ad (rd m (aj))).f0)) ∧ w'.cell? ⟨(a0.add (((rd m (aj))).toNat * 6)).block, (a0.add (((rd m (aj))).toNat * 6)).off + 1, none⟩ = some (.bool ((rd_T35 ad (rd m (aj))).f1.f0)) ∧ w'.cell? ⟨(a0.add (((rd m (aj))).toNat * 6)).block, (a0.add (((rd m (aj))).toNat * 6)).off + 2, none⟩ = some (.bool ((rd_T35 ad (rd m (aj))).f1.f1)) ∧ w'.cell? ⟨(a0.add (((rd m (aj))).toNat * 6)).block, (a0.add (((rd m (aj))).toNat * 6)).off + 3, none⟩ = some (.int .i64 ((rd_T35 ad (rd m (aj))).f1.f2)) ∧ w'.cell? ⟨(a0.add (((rd m (aj))).toNat * 6)).block, (a0.add (((rd m (aj))).toNat * 6)).off + 4, none⟩ = some (.bool ((rd_T35 ad (rd m (aj))).f1.f3)) ∧ w'.cell? ⟨(a0.add (((rd m (aj))).toNat * 6)).block, (a0.add (((rd m (aj))).toNat * 6)).off + 5, none⟩ = some (.int .u8 ((rd_T35 ad (rd m (aj))).f2))) (ds := [18]) (bv 19 0) (by kernel_rfl) rfl rfl ⟨(blk_cell y.out 0).trans rfl, (blk_cell y.out 1).trans rfl, (blk_cell y.out 2).trans rfl, (blk_cell y.out 3).trans rfl, (blk_cell y.out 4).trans rfl, (blk_cell y.out 5).trans rfl, (blk_cell b.out 0).trans rfl, (blk_cell b.out 1).trans rfl, (blk_cell b.out 2).trans rfl, (blk_cell b.out 3).trans rfl, (blk_cell b.out 4).trans rfl, (blk_cell b.out 5).trans rfl, ep, eq, er, es, et, eu, ev, ew⟩ (fun hHeld => ?_); refine with_tabW shutterref14_Type.tab24 shutterref14_Type.bits24 (fun HT_ HW_ => ?_)
                        generalize wr.drew = tB at HO_9 HO_482002 HO_515002 b l y HB jV jZ kr ks kt ku kv kw ep eq er es et eu ev ew fF fG fH fI fJ fK hHeld ⊢
                        refine pure_ (i := 0) (N := some 88) (v := ?_) (a' := ?_) (bv 19 1) rfl rfl (any_of HT_.out (by kernel_rfl)) (fun _ _ _ h => h) (Or.inl ⟨by rfl, ?_⟩) ?_ ?_
                        rotate_left
                        ·intro w'
                         go_simp
                         with_reducible rfl
                        rotate_left
                        ·simp only [Act.put, sA, sB, sC, i64_w, i32_w]
                         rfl
                        refine pure_ (i := 2) (N := some 90) (v := ?_) (a' := ?_) (bv 19 5) rfl rfl (any_of HT_.out (by kernel_rfl)) (fun _ _ _ h => h) (Or.inl ⟨by rfl, ?_⟩) ?_ ?_
                        rotate_left
                        ·intro w'
                         go_simp
                         with_reducible rfl
                        rotate_left
                        ·simp only [Act.put, sA, sB, sC, i64_w, i32_w]
                         rfl
                        refine pure_ (i := 3) (N := some 91) (v := ?_) (a' := ?_) (bv 19 13) rfl rfl (any_of HT_.out (by kernel_rfl)) (fun _ _ _ h => h) (Or.inl ⟨by rfl, ?_⟩) ?_ ?_
                        rotate_left
                        ·intro w'
                         go_simp
                         with_reducible rfl
                        rotate_left
                        ·simp only [Act.put, sA, sB, sC, i64_w, i32_w]
                         rfl
                        refine pure_ (i := 4) (N := some 92) (v := ?_) (a' := ?_) (bv 19 29) rfl rfl (any_of HT_.out (by kernel_rfl)) (fun _ _ _ h => h) (Or.inl ⟨by rfl, ?_⟩) ?_ ?_
                        rotate_left
                        ·intro w'
                         go_simp
                         with_reducible rfl
                        rotate_left
                        ·simp only [Act.put, sA, sB, sC, i64_w, i32_w]
                         rfl
                        refine pure_ (i := 6) (N := some 94) (v := ?_) (a' := ?_) (bv 19 93) rfl rfl (any_of HT_.out (by kernel_rfl)) (fun _ _ _ h => h) (Or.inl ⟨by rfl, ?_⟩) ?_ ?_
                        rotate_left
                        ·intro w'
                         go_simp
                         with_reducible rfl
                        rotate_left
                        ·simp only [Act.put, sA, sB, sC, i64_w, i32_w]
                         rfl
                        refine pure_ (i := 8) (N := some 96) (v := ?_) (a' := ?_) (bv 19 349) rfl rfl (any_of HT_.out (by kernel_rfl)) (fun _ _ _ h => h) (Or.inl ⟨by rfl, ?_⟩) ?_ ?_
                        rotate_left
                        ·intro w'
                         go_simp
                         with_reducible rfl
                        rotate_left
                        ·simp only [Act.put, sA, sB, sC, i64_w, i32_w]
                         rfl
                        refine pure_ (i := 9) (N := some 97) (v := ?_) (a' := ?_) (bv 19 861) rfl rfl (any_of HT_.out (by kernel_rfl)) (fun _ _ _ h => h) (Or.inl ⟨by rfl, ?_⟩) ?_ ?_
                        rotate_left
                        ·intro w'
                         go_simp
                         with_reducible rfl
                        rotate_left
                        ·simp only [Act.put, sA, sB, sC, i64_w, i32_w]
                         rfl
                        refine pure_ (i := 10) (N := some 98) (v := ?_) (a' := ?_) (bv 19 1885) rfl rfl (any_of HT_.out (by kernel_rfl)) (fun _ _ _ h => h) (Or.inl ⟨by rfl, ?_⟩) ?_ ?_
                        rotate_left
                        ·intro w'
                         go_simp
                         with_reducible rfl
                        rotate_left
                        ·simp only [Act.put, sA, sB, sC, i64_w, i32_w]
                         rfl
                        refine pure_ (i := 11) (N := some 99) (v := ?_) (a' := ?_) (bv 19 3933) rfl rfl (any_of HT_.out (by kernel_rfl)) (fun _ _ _ h => h) (Or.inl ⟨by rfl, ?_⟩) ?_ ?_
                        rotate_left
                        ·intro w'
                         go_simp
                         with_reducible rfl
                        rotate_left
                        ·simp only [Act.put, sA, sB, sC, i64_w, i32_w]
                         rfl
                        refine take_ (i := 1) (N := some 89) (v := ?_) (a' := ?_) (bv 19 3935) rfl rfl (take_ofW HT_.out HW_.out (by kernel_rfl)) (fun _ _ _ h => h) (Or.inl ⟨by rfl, ?_⟩) hHeld ?_ ?_
                        rotate_left
                        ·rintro w' ⟨s0, s1, s2, s3, s4, s5, s6, s7, s8, s9, ez, eA, eB, jz, jA, jB, jC, jD, jE, jF⟩
                         go_simp
                         with_reducible rfl
                        rotate_left
                        ·simp only [Act.put, sA, sB, sC, i64_w, i32_w]
                         rfl
                        refine take_ (i := 5) (N := some 93) (v := ?_) (a' := ?_) (bv 19 3967) rfl rfl (take_ofW HT_.out HW_.out (by kernel_rfl)) (fun _ _ _ h => h) (Or.inl ⟨by rfl, ?_⟩) hHeld ?_ ?_
                        rotate_left
                        ·rintro w' ⟨s0, s1, s2, s3, s4, s5, s6, s7, s8, s9, ez, eA, eB, jz, jA, jB, jC, jD, jE, jF⟩
                         go_simp
                         with_reducible rfl
                        rotate_left
                        ·simp only [Act.put, sA, sB, sC, i64_w, i32_w]
                         rfl
                        refine take_ (i := 7) (N := some 95) (v := ?_) (a' := ?_) (bv 19 4095) rfl rfl (take_ofW HT_.out HW_.out (by kernel_rfl)) (fun _ _ _ h => h) (Or.inl ⟨by rfl, ?_⟩) hHeld ?_ ?_
                        rotate_left
                        ·rintro w' ⟨s0, s1, s2, s3, s4, s5, s6, s7, s8, s9, ez, eA, eB, jz, jA, jB, jC, jD, jE, jF⟩
                         go_simp
                         with_reducible rfl
                        rotate_left
                        ·simp only [Act.put, sA, sB, sC, i64_w, i32_w]
                         rfl
                        refine take_ (i := 12) (N := some 100) (v := ?_) (a' := ?_) (bv 19 8191) rfl rfl (take_ofW HT_.out HW_.out (by kernel_rfl)) (fun _ _ _ h => h) (Or.inl ⟨by rfl, ?_⟩) hHeld ?_ ?_
                        rotate_left
                        ·rintro w' ⟨s0, s1, s2, s3, s4, s5, s6, s7, s8, s9, ez, eA, eB, jz, jA, jB, jC, jD, jE, jF⟩
                         go_simp
                         with_reducible rfl
                        rotate_left
                        ·simp only [Act.put, sA, sB, sC, i64_w, i32_w]
                         rfl
                        refine pure_ (i := 13) (N := some 101) (v := ?_) (a' := ?_) (bv 19 16383) rfl rfl (any_of HT_.out (by kernel_rfl)) (fun _ _ _ h => h) (Or.inl ⟨by rfl, ?_⟩) ?_ ?_
                        rotate_left
                        ·intro w'
                         go_simp
                         with_reducible rfl
                        rotate_left
                        ·simp only [Act.put, sA, sB, sC, i64_w, i32_w]
                         rfl
                        refine pure_ (i := 14) (N := some 102) (v := ?_) (a' := ?_) (bv 19 32767) rfl rfl (any_of HT_.out (by kernel_rfl)) (fun _ _ _ h => h) (Or.inl ⟨by rfl, ?_⟩) ?_ ?_
                        rotate_left
                        ·intro w'
                         go_simp
                         with_reducible rfl
                        rotate_left
                        ·simp only [Act.put, sA, sB, sC, i64_w, i32_w]
                         rfl
                        refine take_ (i := 15) (N := some 103) (v := ?_) (a' := ?_) (bv 19 65535) rfl rfl (take_ofW HT_.out HW_.out (by kernel_rfl)) (fun _ _ _ h => h) (Or.inl ⟨by rfl, ?_⟩) hHeld ?_ ?_
                        rotate_left
                        ·rintro w' ⟨s0, s1, s2, s3, s4, s5, s6, s7, s8, s9, ez, eA, eB, jz, jA, jB, jC, jD, jE, jF⟩
                         go_simp
                         with_reducible rfl
                        rotate_left
                        ·simp only [Act.put, sA, sB, sC, i64_w, i32_w]
                         rfl
                        refine pure_ (i := 16) (N := some 104) (v := ?_) (a' := ?_) (bv 19 131071) rfl rfl (any_of HT_.out (by kernel_rfl)) (fun _ _ _ h => h) (Or.inl ⟨by rfl, ?_⟩) ?_ ?_
                        rotate_left
                        ·intro w'
                         go_simp
                         with_reducible rfl
                        rotate_left
                        ·simp only [Act.put, sA, sB, sC, i64_w, i32_w]
                         rfl
                        refine pure_ (i := 17) (N := some 105) (v := ?_) (a' := ?_) (bv 19 262143) rfl rfl (any_of HT_.out (by kernel_rfl)) (fun _ _ _ h => h) (Or.inl ⟨by rfl, ?_⟩) ?_ ?_
                        rotate_left
                        ·intro w'
                         go_simp
                         with_reducible rfl
                        rotate_left
                        ·simp only [Act.put, sA, sB, sC, i64_w, i32_w]
                         rfl
                        refine last_ (i := 18) (N := none) (bv 19 524287) rfl rfl (one_of HT_.out (by kernel_rfl)) (by decide) (fun K hK => ?_)
                        refine skip_ (w1 := ?_) (by rfl) rfl ?_ ?_
                        rotate_left
                        ·go_simp
                         rfl
                        refine hK.out _ _ ?_
                        clear hK K
                        refine done_ (done_of HT_.out (by kernel_rfl)) ?_
                        try go_wp2
                        go_roundg k3
                        case measure => have := bp.out; have := fs.out; have := jY.out; omega
                        case rel => exact ⟨(wrap64 (A + 1)), (ad), (kF), (.slice (some a0) ad.length kk), (.slice (some ⟨aY, 0, none⟩) C.length kj), (by first | rfl | (simp; done) | (simp [*]; done)), H', ⟨by have := bp.out; have := fs.out; have := jY.out; omega⟩, ⟨by (with_reducible repeat apply pR); exact Kd.R_mono (Kd.R_far (p := ⟨aY, ((rd m A) : Int).toNat * 6 + 5, none⟩) (Kd.R_types HO_9.out jV.out (by decide)) (fun _ hk => hk.2) (.int .u8 ((rd_T35 ad (rd m (aj))).f2))) (fun _ hk => hk.1)⟩, ⟨by (with_reducible repeat apply pV); exact Kd.V_mono (Kd.V_far (p := ⟨aY, ((rd m A) : Int).toNat * 6 + 5, none⟩) (Kd.V_mono HO_482002.out (fun k_ hk => (⟨hk, fun e_ => hk.2.2.1 (by rw [e_]; rfl)⟩ : _ ∧ k_ ≠ aY))) (fun _ hk => hk.2) (.int .u8 ((rd_T35 ad (rd m (aj))).f2))) (fun _ hk => ⟨hk.1.1, ⟨hk.1.2.1, ⟨hk.1.2.2.1, ⟨hk.1.2.2.2.1, ⟨hk.1.2.2.2.2.1, hk.1.2.2.2.2.2⟩⟩⟩⟩⟩)⟩, ⟨by (with_reducible repeat apply pR); exact jZ.out⟩, ⟨by (with_reducible repeat apply pK); refine blk_far ?_ (by have h_ := Kd.R_ne HO_515002.out b.out (by decide); intro e_; exact h_ (by rw [e_]; rfl)) _; (with_reducible repeat apply pK); exact b.out⟩, ⟨by (with_reducible repeat apply pK); refine blk_far ?_ (by have h_ := Kd.R_ne HO_515002.out l.out (by decide); intro e_; exact h_ (by rw [e_]; rfl)) _; (with_reducible repeat apply pK); exact l.out⟩, ⟨by (with_reducible repeat apply pK); refine blk_far ?_ (by have h_ := Kd.R_ne HO_515002.out y.out (by decide); intro e_; exact h_ (by rw [e_]; rfl)) _; (with_reducible repeat apply pK); exact y.out⟩, ⟨by repeat (first | (with_reducible first | exact HB.out | apply below_alloc | apply pw_below_drewN | apply below_drew1 | refine below_set ?_ lp.out | refine below_set ?_ fk.out | refine below_set ?_ fl.out | refine below_set ?_ kI.out) | exact HB.out)⟩⟩
                       ·rw [if_neg go] at H
                        exact absurd H (by simp)
                      ·rw [if_neg gn] at H
                       exact absurd H (by simp)
                     ·rw [if_neg gm] at H
                      exact absurd H (by simp)
                    ·rw [if_neg gl] at H
                     exact absurd H (by simp)
                   ·rw [if_neg gj] at H
                    exact absurd H (by simp)
                  ·rw [if_neg gi] at H
                   exact absurd H (by simp)
                 ·rw [if_neg gh] at H
                  exact absurd H (by simp)
                ·rw [if_neg gg] at H
                 exact absurd H (by simp)
               ·rw [if_neg fh] at H
                have gF : decide (A ≤ a2) = false := decide_eq_false fh
                clear fh
                have H' := Z H
                clear H
                go_wp2
                go_meet
                case rel => exact ⟨_, (ad), (0), (0), (0), (false), (false), (C), (u482002), (u515002), H', ⟨by have := bp.out; have := fs.out; have := jY.out; first | omega | exact Nat.le_refl _⟩, ⟨by (with_reducible repeat apply pV); exact Kd.V_mono HO_482002.out (fun _ hk => ⟨hk.1, ⟨hk.2.2.1, ⟨hk.2.2.2.1, ⟨hk.2.2.2.2.1, hk.2.2.2.2.2⟩⟩⟩⟩)⟩, ⟨by (with_reducible repeat apply pR); exact HO_515002.out⟩, ⟨by (with_reducible repeat apply pK); exact b.out⟩, ⟨by (with_reducible repeat apply pK); exact l.out⟩, ⟨by (with_reducible repeat apply pK); exact y.out⟩, ⟨bl_⟩⟩
        ·replace fg := Bool.eq_false_iff.mpr fg
         subst fg
         have H1 : (shutterref14_Type.j3 a3 a1 a r s q a false false F P aI al X ab) = some (r1, r2, r3, r4, r5, r6, r7, r8) := by rw [if_neg (show ¬ (false = true) by decide)] at H; exact H
         clear H
         have H := H1
         clear H1
         have H' := Z H
         clear H
         go_wp2
         go_meet
         case rel => exact ⟨_, (q), (0), (0), (0), (false), (false), (aI), (.slice aq q.length am), (.slice bj aI.length bk), H', ⟨by have := bp.out; first | omega | exact Nat.le_refl _⟩, ⟨by (with_reducible repeat apply pV); exact Kd.V_mono (Kd.V_far (p := ⟨Q, 5, none⟩) (Kd.V_far (p := ⟨Q, 4, none⟩) (Kd.V_far (p := ⟨Q, 3, none⟩) (Kd.V_far (p := ⟨Q, 2, none⟩) (Kd.V_far (p := ⟨Q, 1, none⟩) (Kd.V_far (p := ⟨Q, 0, none⟩) (Kd.V_mono HO_482002.out (fun k_ hk => (⟨hk, hk.2⟩ : _ ∧ k_ ≠ Q))) (fun _ hk => hk.2) (.int .i64 F)) (fun _ hk => hk.2) (.int .i64 P)) (fun _ hk => hk.2) (.slice bj aI.length bk)) (fun _ hk => hk.2) (.int .i64 al)) (fun _ hk => hk.2) (.bool X)) (fun _ hk => hk.2) (.bool ab)) (fun _ hk => ⟨hk.1.1.1.1, ⟨hk.1.1.2, ⟨hk.1.1.1.2.1, ⟨hk.1.1.1.2.2, hk.1.2⟩⟩⟩⟩)⟩, ⟨by (with_reducible repeat apply pR); exact Kd.R_mono (Kd.R_far (p := ⟨Q, 5, none⟩) (Kd.R_far (p := ⟨Q, 4, none⟩) (Kd.R_far (p := ⟨Q, 3, none⟩) (Kd.R_far (p := ⟨Q, 2, none⟩) (Kd.R_far (p := ⟨Q, 1, none⟩) (Kd.R_far (p := ⟨Q, 0, none⟩) (Kd.R_types bm.out y.out (by decide)) (fun _ hk => hk.2) (.int .i64 F)) (fun _ hk => hk.2) (.int .i64 P)) (fun _ hk => hk.2) (.slice bj aI.length bk)) (fun _ hk => hk.2) (.int .i64 al)) (fun _ hk => hk.2) (.bool X)) (fun _ hk => hk.2) (.bool ab)) (fun _ hk => hk.1.1)⟩, ⟨blk_off b.out az.out off2_⟩, ⟨blk_off l.out aw.out off2_⟩, ⟨put6 y.out⟩, ⟨bl_⟩⟩
       case rest =>
        clear hv
        try clear c1
        try clear c2
        try clear p2
        try clear c3
        try clear c4
        try clear c5
        try clear p5
        try clear q5
        try clear li
        try clear c6
        try clear p6
        try clear c7
        try clear c8
        try clear p8
        try clear q8
        try clear rx
        try clear qc
        try clear c9
        try clear eF
        try clear jg
        try clear eG
        try clear eH
        try clear jh
        try clear cL
        try clear bi
        try clear dc
        try clear ji
        try clear jj
        try clear j5
        try clear jk
        try clear ff
        try clear j6
        try clear j7
        try clear j8
        try clear j9
        try clear ka
        try clear kc
        try clear kd
        try clear p51
        try clear jy
        try clear kD
        try clear p52
        try clear lj
        try clear pS
        try clear p53
        try clear lk
        try clear pT
        try clear fg
        try clear ke
        try clear kf
        try clear kg
        try clear eI
        try clear bo
        try clear fv
        try clear gB
        try clear fw
        try clear gC
        try clear fx
        try clear gD
        try clear p64
        try clear fy
        try clear gE
        try clear ey
        try clear fn
        try clear fo
        try clear eJ
        try clear fp
        try clear ld
        try clear le
        try clear lf
        try clear fh
        try clear gF
        try clear gg
        try clear jl
        try clear gh
        try clear jm
        try clear gi
        try clear jn
        try clear gj
        try clear jo
        try clear gl
        try clear jp
        try clear gm
        try clear jq
        try clear gn
        try clear jr
        try clear go
        try clear js
        try clear p3
        try clear fR
        try clear fV
        try clear pU
        try clear nK
        try clear p4
        try clear bw
        try clear bx
        try clear bz
        try clear bA
        try clear bB
        try clear bC
        try clear bD
        try clear bE
        try clear bF
        try clear bG
        try clear bH
        try clear bI
        try clear bJ
        try clear bK
        try clear bL
        try clear bM
        try clear bN
        try clear bO
        try clear bP
        try clear bQ
        try clear bR
        try clear bS
        try clear bT
        try clear bU
        try clear bV
        try clear bW
        try clear bX
        try clear bY
        try clear bZ
        try clear b0
        try clear b1
        try clear b2
        try clear b3
        try clear b4
        try clear b5
        try clear b6
        try clear dd
        try clear de
        try clear df
        try clear dg
        try clear dh
        try clear di
        try clear dj
        try clear dk
        try clear dl
        try clear dm
        try clear dn
        try clear dp
        try clear dq
        try clear dr
        try clear dt
        try clear du
        try clear dv
        try clear dw
        try clear dx
        try clear dy
        try clear dz
        try clear dA
        try clear dB
        try clear dC
        try clear dD
        try clear dE
        try clear dF
        try clear dG
        try clear dH
        try clear dI
        try clear dJ
        try clear dK
        try clear dL
        try clear dM
        try clear dN
        try clear dO
        try clear eR
        try clear eS
        try clear eT
        try clear eU
        try clear eV
        try clear eW
        try clear eX
        try clear eY
        try clear eZ
        try clear e0
        try clear e1
        try clear e2
        try clear cM
        try clear cN
        try clear cO
        try clear cP
        try clear cQ
        try clear cR
        try clear b7
        try clear b8
        try clear b9
        try clear ca
        try clear cb
        try clear cc
        try clear cd
        try clear ce
        try clear cf
        try clear cg
        try clear ch
        try clear ci
        try clear cj
        try clear ck
        try clear cl
        try clear cm
        try clear cn
        try clear co
        try clear cp
        try clear cq
        try clear cr
        try clear ct
        try clear cu
        try clear cv
        try clear cw
        try clear cx
        try clear cy
        try clear cz
        try clear cA
        try clear cB
        try clear cC
        try clear cD
        try clear cE
        try clear cF
        try clear cG
        try clear cH
        try clear dP
        try clear dQ
        try clear dR
        try clear dS
        try clear dT
        try clear dU
        try clear dV
        try clear dW
        try clear dX
        try clear dY
        try clear dZ
        try clear d0
        try clear d1
        try clear d2
        try clear d3
        try clear d4
        try clear d5
        try clear d6
        try clear d7
        try clear d8
        try clear d9
        try clear ea
        try clear eb
        try clear ec
        try clear ed
        try clear ee
        try clear ef
        try clear eg
        try clear eh
        try clear ei
        try clear ej
        try clear ek
        try clear el
        try clear em
        try clear en
        try clear eo
        try clear e3
        try clear e4
        try clear e5
        try clear e6
        try clear e7
        try clear e8
        try clear e9
        try clear fa
        try clear fb
        try clear fc
        try clear fd
        try clear fe
        try clear cS
        try clear cT
        try clear cU
        try clear cV
        try clear cW
        try clear cX
        try clear a7
        try clear a8
        try clear a9
        try clear ba
        try clear bb
        try clear bc
        try clear bd
        try clear ep
        try clear eq
        try clear er
        try clear es
        try clear et
        try clear eu
        try clear ev
        try clear ew
        try clear fF
        try clear fG
        try clear fH
        try clear fI
        try clear fJ
        try clear fK
        try clear p2
        try clear p5
        try clear p51
        try clear bq
        try clear br
        try clear fO
        try clear fP
        try clear fQ
        try clear p6
        try clear p64
        try clear fR
        try clear q5
        try clear jy
        try clear bs
        try clear bt
        try clear fS
        try clear fT
        try clear fU
        try clear fV
        obtain ⟨kq, O, ay, au, af, aa, T, d, u482002, u515002, HA, jX, HO_482002, HO_515002, b, l, y, HB⟩ := hcut
        cases kq with
        | zero => exact absurd HA.out (by simp [shutterref14_Type.j3])
        | succ bh =>
         have H := HA.out
         clear HA
         simp only [shutterref14_Type.j3] at H
         by_cases g6 : 0 ≤ a
         ·rw [if_pos g6] at H
          have kN : decide (0 ≤ a) = true := decide_eq_true g6
          clear g6
          by_cases g7 : a < (d.length : Int)
          ·rw [if_pos g7] at H
           have kO : decide (a < (d.length : Int)) = true := decide_eq_true g7
           clear g7
           obtain ⟨D, eM⟩ : ∃ y_ : List (S35), y_ = (d.set (a : Int).toNat (⟨(rd_T35 d a).f0, (⟨(rd_T35 d a).f1.f0, (rd_T35 d a).f1.f1, (rd_T35 d a).f1.f2, (rd_T35 d a).f1.f3⟩ : S33), a1⟩ : S35)) := ⟨_, rfl⟩
           replace H : ((shutterref10_Next.f r s O a false u a).bind fun z => (if 0 ≤ z then (if z < (d.length : Int) then (if (rd_T35 D z).f0 = true then (if (rd_T35 D z).f1.f0 = true then (shutterref14_Type.j4 bh z (-1) ((rd_T35 D z).f1.f1) r s O a false u F P D al X ab) else (shutterref14_Type.j4 bh z (-1) false r s O a false u F P D al X ab)) else (some (F, P, D, z, X, ab, 0, (-1)))) else (none)) else (none))) = some (r1, r2, r3, r4, r5, r6, r7, r8) := by first | (rw [eM]; with_reducible exact H) | (have fq := (Option.bind_some _ _).symm.trans H; rw [eM]; with_reducible exact fq) | (have fq := (Option.bind_some _ _).symm.trans H; with_reducible exact fq) | with_reducible exact H | (rw [eM]; exact H) | exact H
           have fm := Z eM
           clear eM
           replace H := Option.bind_eq_some_iff.mp H
           obtain ⟨z, jS, H⟩ := H
           replace H : (if 0 ≤ z then (if z < (d.length : Int) then (if (rd_T35 D z).f0 = true then (if (rd_T35 D z).f1.f0 = true then (shutterref14_Type.j4 bh z (-1) ((rd_T35 D z).f1.f1) r s O a false u F P D al X ab) else (shutterref14_Type.j4 bh z (-1) false r s O a false u F P D al X ab)) else (some (F, P, D, z, X, ab, 0, (-1)))) else (none)) else (none)) = some (r1, r2, r3, r4, r5, r6, r7, r8) := H
           have lc := Z jS
           clear jS
           by_cases g8 : 0 ≤ z
           ·rw [if_pos g8] at H
            have kP : decide (0 ≤ z) = true := decide_eq_true g8
            clear g8
            by_cases g9 : z < (d.length : Int)
            ·rw [if_pos g9] at H
             have kQ : decide (z < (d.length : Int)) = true := decide_eq_true g9
             clear g9
             obtain ⟨j1, gH⟩ : ∃ b_ : Bool, b_ = ((rd_T35 D z).f0) := ⟨_, rfl⟩
             replace H : (if j1 = true then (if (rd_T35 D z).f1.f0 = true then (shutterref14_Type.j4 bh z (-1) ((rd_T35 D z).f1.f1) r s O a false u F P D al X ab) else (shutterref14_Type.j4 bh z (-1) false r s O a false u F P D al X ab)) else (some (F, P, D, z, X, ab, 0, (-1)))) = some (r1, r2, r3, r4, r5, r6, r7, r8) := by rw [← gH] at H; exact H
             have U := Z gH
             clear gH
             by_cases ha : j1 = true
             ·subst ha
              have H1 : (if (rd_T35 D z).f1.f0 = true then (shutterref14_Type.j4 bh z (-1) ((rd_T35 D z).f1.f1) r s O a false u F P D al X ab) else (shutterref14_Type.j4 bh z (-1) false r s O a false u F P D al X ab)) = some (r1, r2, r3, r4, r5, r6, r7, r8) := by rw [if_pos rfl] at H; exact H
              clear H
              have H := H1
              clear H1
              have gt := Z H
              clear H
              have qe := aL.out
              have qP := az.out
              have qf := aW.out
              have qQ := aw.out
              obtain ⟨hC, hD, hE, hF, hG, hH, id, ie, ig, ih, ii, ij⟩ := cells6 y.out
              have eN : 0 ≤ (a : Int) := od_
              have eO : (a : Int) < ((d.length : Int) : Int) := od_
              obtain ⟨W, ap, fz, fA, hB, ls, fr⟩ := Kd.R_form HO_515002.out (by omega)
              (first | cases fz | (injection fz with ea_ en_ ec_; (first | subst ea_ | (injection ea_ with ea_; subst ea_)); subst ec_; clear en_))
              have ht := Z fA
              have lq := Z fr
              clear fA hB fr
              obtain ⟨lr, gI, fB, aO, aP⟩ := Kd.R_elem HO_515002.out z35 (a : Int) eN eO
              obtain rfl := k35_openM fB
              have hj : wc.cell? ⟨W, (a : Int).toNat * 6, none⟩ = some (.bool ((rd_T35 d a).f0)) := aO 0 _ rfl
              have hl : wc.cell? ⟨W, (a : Int).toNat * 6 + 1, none⟩ = some (.bool ((rd_T35 d a).f1.f0)) := aO 1 _ rfl
              have hm : wc.cell? ⟨W, (a : Int).toNat * 6 + 2, none⟩ = some (.bool ((rd_T35 d a).f1.f1)) := aO 2 _ rfl
              have hp : wc.cell? ⟨W, (a : Int).toNat * 6 + 3, none⟩ = some (.int .i64 ((rd_T35 d a).f1.f2)) := aO 3 _ rfl
              have hq : wc.cell? ⟨W, (a : Int).toNat * 6 + 4, none⟩ = some (.bool ((rd_T35 d a).f1.f3)) := aO 4 _ rfl
              have hs : wc.cell? ⟨W, (a : Int).toNat * 6 + 5, none⟩ = some (.int .u8 ((rd_T35 d a).f2)) := aO 5 _ rfl
              have kx : wc.frozen? ⟨W, (a : Int).toNat * 6, none⟩ = false := aP 0
              have ky : wc.frozen? ⟨W, (a : Int).toNat * 6 + 1, none⟩ = false := aP 1
              have kz : wc.frozen? ⟨W, (a : Int).toNat * 6 + 2, none⟩ = false := aP 2
              have kA : wc.frozen? ⟨W, (a : Int).toNat * 6 + 3, none⟩ = false := aP 3
              have kB : wc.frozen? ⟨W, (a : Int).toNat * 6 + 4, none⟩ = false := aP 4
              have kC : wc.frozen? ⟨W, (a : Int).toNat * 6 + 5, none⟩ = false := aP 5
              clear gI aO aP fB
              replace eN := eq_true eN
              replace eO := eq_true eO
              have jd := Z (show Kd.R k35 35 wc w.heap.size (fun k_ => (w.heap.size ≤ k_)) (.slice (some ⟨W, 0, none⟩) d.length ap) d from (by (with_reducible repeat apply pR); exact HO_515002.out))
              obtain ⟨rE, hc, ju, fD, hf⟩ := Kd.R_elem jd.out z35 (a : Int) (od_) (by have h_ : (a : Int) < ((d.length : Int) : Int) := od_; first | exact h_ | (have e_ := (Kd.R_reads' HO_515002.out).1; omega) | simpa using h_)
              obtain rfl := k35_openM ju
              have gu := Kd.R_seg jd.out (a : Int) (od_) (by have h_ : (a : Int) < ((d.length : Int) : Int) := od_; first | exact h_ | (have e_ := (Kd.R_reads' HO_515002.out).1; omega) | simpa using h_) (seg := [.int .u8 a1]) (j := 5) hc fD (show 6 ≤ 6 from by decide) (x' := (⟨(rd_T35 d a).f0, (⟨(rd_T35 d a).f1.f0, (rd_T35 d a).f1.f1, (rd_T35 d a).f1.f2, (rd_T35 d a).f1.f3⟩ : S33), a1⟩ : S35)) (k35_mkM _ _ _ (⟨(rd_T35 d a).f0, (⟨(rd_T35 d a).f1.f0, (rd_T35 d a).f1.f1, (rd_T35 d a).f1.f2, (rd_T35 d a).f1.f3⟩ : S33), a1⟩ : S35) ) (fun _ hk => hk)
              have gp := fD 5 _ rfl
              (try simp only [show (k35).sz = 6 from rfl, Nat.mul_one, Nat.add_zero] at gp)
              have jG := hf 5
              (try simp only [show (k35).sz = 6 from rfl, Nat.mul_one, Nat.add_zero] at jG)
              clear hc fD hf ju
              go_upto_region 30 with (first | ((with_reducible refine gate_store (t := 5) (p := 111) rfl ?_); refine store_event (t := 5) (p := 111) (v := ?vo_w105) (w1 := (wc.setCell ⟨W, (a : Int).toNat * 6 + 5, none⟩ (.int .u8 a1))) ?hg ?ho ?hn ?hr ?_; (case ho => rfl); (case hg => rfl); (case hn => rfl); (case hr => first | (go_simp; done) | (go_simp; rfl)); intro iR hw; have hg : wc.grownBy iR (some W) := (by rw [hw]; exact gu.2); have hp_ : Kd.R k35 35 iR w.heap.size (fun k_ => (w.heap.size ≤ k_)) (.slice (some ⟨W, 0, none⟩) d.length ap) D := (by rw [hw, fm.out]; exact gu.1); clear gu; have G := Z (Kd.V_afterv (v := (.slice (some ⟨W, 0, none⟩) d.length ap)) (v1 := (.slice (some ⟨W, 0, none⟩) d.length ap)) (ok := (fun k_ => (aV k_ ∨ w.heap.size ≤ k_) ∧ k_ ≠ Y ∧ k_ ≠ x ∧ k_ ≠ Q)) (by (with_reducible repeat apply pV); exact Kd.V_mono HO_482002.out (fun _ hk => ⟨⟨hk.1, ⟨hk.2.2.1, ⟨hk.2.2.2.1, hk.2.2.2.2⟩⟩⟩, hk.2.1⟩)) hg (.inl rfl)); have I := Z (hp_); have J := Z (blk_grown (g := Y) (o := .cells #[.int .i64 r, .int .i64 s, u482002, .int .i64 a, .bool false, .bool u] 24 (0, 0)) (by (with_reducible repeat apply pK); exact b.out) hg (Kd.R_ne HO_515002.out b.out (by decide))); have L := Z (blk_grown (g := x) (o := .cells #[.int .i64 ay, .int .i64 au, .slice none 0 0, .int .i64 af, .bool aa, .bool T] 24 (0, 0)) (by (with_reducible repeat apply pK); exact l.out) hg (Kd.R_ne HO_515002.out l.out (by decide))); have ac := Z (blk_grown (g := Q) (o := .cells #[.int .i64 F, .int .i64 P, .slice (some ⟨W, 0, none⟩) d.length ap, .int .i64 al, .bool X, .bool ab] 24 (0, 0)) (by (with_reducible repeat apply pK); exact y.out) hg (Kd.R_ne HO_515002.out y.out (by decide))); have ak := Z ((by rw [hw]; exact below_set (HB.out) ht.out : Below w.heap.size w iR)); clear HO_482002 HO_515002 b l y HB; have HO_482002 := G; have HO_515002 := I; have b := J; have l := L; have y := ac; have HB := ak; clear G I J L ac ak; clear hg hw hp_; have qg := ah.out; have qR := ai.out; obtain ⟨hI, hJ, hL, hM, hN, hO, ik, il, im, io, ip, iq⟩ := cells6 b.out; obtain ⟨eE, eK, kS⟩ := Kd.V_slice HO_482002.out; subst kS) | ((with_reducible refine gate_callee (f := 59) rfl ?_); refine goesL_ (some 114) rfl rfl Tryd.func59 (by kernel_rfl) rfl #[.agg #[.int .i64 r, .int .i64 s, .slice eE O.length eK, .int .i64 a, .bool false, .bool u], .int .i64 a] rfl ag_ ?_; (with_reducible refine (shutterref10_Next.calls r s _ _ O a false u a z _ ?side1 ?side2 lc.out).mono ?_); (case side1 => repeat (first | exact (Kd.V_reads' HO_482002.out).2.2 | (with_reducible apply pC))); (case side2 => exact (Kd.V_reads' HO_482002.out).2.1); rintro e sT ⟨rfl, hb⟩; refine ⟨_, rfl, ?_⟩; have G := Z (vb HO_482002.out hb); have I := Z (rb HO_515002.out hb); have J := Z (kb b.out hb); have L := Z (kb l.out hb); have ac := Z (kb y.out hb); have ak := Z (below_step bl_ hb); clear HO_482002 HO_515002 b l y HB; have HO_482002 := G; have HO_515002 := I; have b := J; have l := L; have y := ac; have HB := ak; clear G I J L ac ak; (try clear hb); (try clear bl); (try clear hk); (try clear hi); obtain ⟨hP, hQ, hR, hS, hT, hU, ir, it, iu, iv, iw, ix⟩ := cells6 y.out; have c0 : 0 ≤ (z : Int) := od_; have da : z < (D.length : Int) := (by have h_ : (z : Int) < ((d.length : Int) : Int) := od_; first | (have e_ := (Kd.R_reads' HO_515002.out).1; omega) | simpa only [fm.out, List.length_set] using h_); have kZ : ((z : Int) < ((d.length : Int) : Int)) = True := eq_true (od_); obtain ⟨gy, hA, aQ, aR, aS, be, aT, bf⟩ := at_T35 (Kd.R_reads' HO_515002.out).2.2 z c0 da; (try rw [← U.out] at aQ); (try rw [← U.out] at aR); (try rw [← U.out] at aS); (try rw [← U.out] at aT); obtain rfl : (⟨W, 0, none⟩ : Addr) = gy := (by injection hA); (first | simp only [add_plain] at aQ | simp only [add_at] at aQ | simp only [Addr.add, Nat.zero_add] at aQ | skip); (first | simp only [add_plain] at aR | simp only [add_at] at aR | simp only [Addr.add, Nat.zero_add] at aR | skip); (first | simp only [add_plain] at aS | simp only [add_at] at aS | simp only [Addr.add, Nat.zero_add] at aS | skip); (first | simp only [add_plain] at be | simp only [add_at] at be | simp only [Addr.add, Nat.zero_add] at be | skip); (first | simp only [add_plain] at aT | simp only [add_at] at aT | simp only [Addr.add, Nat.zero_add] at aT | skip); (first | simp only [add_plain] at bf | simp only [add_at] at bf | simp only [Addr.add, Nat.zero_add] at bf | skip); replace c0 := eq_true c0; replace da := eq_true da) | ((with_reducible refine gate_dst (N := 14) rfl ?_); refine box_event ?hg (N := 14) ?hd (cs := #[.bool false, .bool false, .bool false, .int .i64 0, .bool false, .int .u8 0]) (t := 35) ?hr ?_; (case hd => rfl); (case hg => rfl); (case hr => first | (go_simp; done) | (go_simp; rfl)); intro ae hg sU hbox hb; have G := Z (ve HO_482002.out hg hb); have I := Z (Kd.R_below (Kd.R_elderB (by (with_reducible repeat apply pR); exact HO_515002.out) ae (Nat.le_of_eq hg.symm)) hb); have J := Z (kb b.out hb); have L := Z (kb l.out hb); have ac := Z (kb y.out hb); have ak := Z (below_step bl_ hb); have ar := Z (hbox); have aZ := Z ((le_new hg (below_size bl_) : w.heap.size ≤ ae)); have fi := Z ((le_new hg (below_size bl_) : w.heap.size ≤ ae)); have fj := Z (nl b.out hg); have cY := Z (ng b.out hg); have cZ := Z (nl l.out hg); have fL := Z (ng l.out hg); have fM := Z (nl y.out hg); have fN := Z (ng y.out hg); clear HO_482002 HO_515002 b l y HB; have HO_482002 := G; have HO_515002 := I; have b := J; have l := L; have y := ac; have HB := ak; have ax := ar; have kK := aZ; have kJ := fi; have aJ := fj; have aX := cY; have an := cZ; have aM := fL; have aA := fM; have aN := fN; clear G I J L ac ak ar aZ fi fj cY cZ fL fM fN; clear hb hbox hg; have qh := aX.out; have qS := aJ.out; have qi := aM.out; have qT := an.out; have qj := aN.out; have qU := aA.out; obtain ⟨hV, hW, hX, hY, hZ, h0, iy, iz, iA, iB, iC, iD⟩ := cells6 ax.out))
              (try simp only [Act.put, sA, sB, sC])
              go_cut [129] (fun pW wc => ∃ (kq : Nat) (ex : Bool), pW = .bool ex ∧ Aside0 (shutterref14_Type.j4 kq z (-1) ex r s O a false u F P D al X ab = some (r1, r2, r3, r4, r5, r6, r7, r8)) ∧ Aside0 (kq ≤ bh) ∧ Aside0 (Kd.V k35 35 wc w.heap.size (fun k_ => (aV k_ ∨ w.heap.size ≤ k_) ∧ some k_ ≠ ((.slice (some ⟨W, 0, none⟩) d.length ap) : Value).ownBlock ∧ k_ ≠ Y ∧ k_ ≠ x ∧ k_ ≠ Q ∧ k_ ≠ ae) (.slice eE O.length eK) O) ∧ Aside0 (Kd.R k35 35 wc w.heap.size (fun k_ => (w.heap.size ≤ k_) ∧ k_ ≠ ae) (.slice (some ⟨W, 0, none⟩) d.length ap) D) ∧ Aside0 (wc.heap[Y]? = some (.cells #[.int .i64 r, .int .i64 s, (.slice eE O.length eK), .int .i64 a, .bool false, .bool u] 24 (0, 0))) ∧ Aside0 (wc.heap[x]? = some (.cells #[.int .i64 ay, .int .i64 au, (.slice none 0 0), .int .i64 af, .bool aa, .bool T] 24 (0, 0))) ∧ Aside0 (wc.heap[Q]? = some (.cells #[.int .i64 F, .int .i64 P, (.slice (some ⟨W, 0, none⟩) d.length ap), .int .i64 al, .bool X, .bool ab] 24 (0, 0))) ∧ Aside0 (wc.heap[ae]? = some (.cells #[.bool true, .bool ((rd_T35 D z).f1.f0), .bool ((rd_T35 D z).f1.f1), .int .i64 ((rd_T35 D z).f1.f2), .bool ((rd_T35 D z).f1.f3), .int .u8 ((rd_T35 D z).f2)] 35 (0, 0))) ∧ Aside0 (Below w.heap.size w wc))
              case first =>
               have H := gt.out
               clear gt
               obtain ⟨jf, fC⟩ : ∃ b_ : Bool, b_ = ((rd_T35 D z).f1.f0) := ⟨_, rfl⟩
               replace H : (if jf = true then (shutterref14_Type.j4 bh z (-1) ((rd_T35 D z).f1.f1) r s O a false u F P D al X ab) else (shutterref14_Type.j4 bh z (-1) false r s O a false u F P D al X ab)) = some (r1, r2, r3, r4, r5, r6, r7, r8) := by rw [← fC] at H; exact H
               have ft := Z fC
               clear fC
               (try rw [← ft.out])
               by_cases fu : jf = true
               ·subst fu
                have H1 : (shutterref14_Type.j4 bh z (-1) ((rd_T35 D z).f1.f1) r s O a false u F P D al X ab) = some (r1, r2, r3, r4, r5, r6, r7, r8) := by rw [if_pos rfl] at H; exact H
                clear H
                have H := H1
                clear H1
                have H' := Z H
                clear H
                have qk := aX.out
                have qV := aJ.out
                have ql := aM.out
                have qW := an.out
                have qm := aN.out
                have qX := aA.out
                obtain ⟨h1, h2, h3, h4, h5, h6, iE, iF, iG, iH, iI, iJ⟩ := cells6 ax.out
                go_wp2
                go_meet
                case rel => exact ⟨_, ((rd_T35 D z).f1.f1), (by first | rfl | (simp; done) | (simp [*]; done)), H', ⟨by have := bp.out; have := jX.out; first | omega | exact Nat.le_refl _⟩, ⟨by (with_reducible repeat apply pV); exact Kd.V_mono (Kd.V_far (p := ⟨ae, 5, none⟩) (Kd.V_far (p := ⟨ae, 4, none⟩) (Kd.V_far (p := ⟨ae, 3, none⟩) (Kd.V_far (p := ⟨ae, 2, none⟩) (Kd.V_far (p := ⟨ae, 1, none⟩) (Kd.V_far (p := ⟨ae, 0, none⟩) (Kd.V_mono HO_482002.out (fun k_ hk => (⟨hk, hk.2⟩ : _ ∧ k_ ≠ ae))) (fun _ hk => hk.2) (.bool true)) (fun _ hk => hk.2) (.bool (true))) (fun _ hk => hk.2) (.bool ((rd_T35 D z).f1.f1))) (fun _ hk => hk.2) (.int .i64 ((rd_T35 D z).f1.f2))) (fun _ hk => hk.2) (.bool ((rd_T35 D z).f1.f3))) (fun _ hk => hk.2) (.int .u8 ((rd_T35 D z).f2))) (fun _ hk => ⟨hk.1.1.1.1, ⟨hk.1.1.2, ⟨hk.1.1.1.2.1, ⟨hk.1.1.1.2.2.1, ⟨hk.1.1.1.2.2.2, hk.1.2⟩⟩⟩⟩⟩)⟩, ⟨by (with_reducible repeat apply pR); exact Kd.R_mono (Kd.R_far (p := ⟨ae, 5, none⟩) (Kd.R_far (p := ⟨ae, 4, none⟩) (Kd.R_far (p := ⟨ae, 3, none⟩) (Kd.R_far (p := ⟨ae, 2, none⟩) (Kd.R_far (p := ⟨ae, 1, none⟩) (Kd.R_far (p := ⟨ae, 0, none⟩) (Kd.R_mono HO_515002.out (fun k_ hk => (⟨hk, hk.2⟩ : _ ∧ k_ ≠ ae))) (fun _ hk => hk.2) (.bool true)) (fun _ hk => hk.2) (.bool (true))) (fun _ hk => hk.2) (.bool ((rd_T35 D z).f1.f1))) (fun _ hk => hk.2) (.int .i64 ((rd_T35 D z).f1.f2))) (fun _ hk => hk.2) (.bool ((rd_T35 D z).f1.f3))) (fun _ hk => hk.2) (.int .u8 ((rd_T35 D z).f2))) (fun _ hk => ⟨hk.1.1, hk.1.2⟩)⟩, ⟨blk_off b.out aJ.out off2_⟩, ⟨blk_off l.out an.out off2_⟩, ⟨blk_off y.out aA.out off2_⟩, ⟨by first | exact put6 ax.out | (simp only [← ft.out, ← U.out]; exact put6 ax.out)⟩, ⟨bl_⟩⟩
               ·replace fu := Bool.eq_false_iff.mpr fu
                subst fu
                have H1 : (shutterref14_Type.j4 bh z (-1) false r s O a false u F P D al X ab) = some (r1, r2, r3, r4, r5, r6, r7, r8) := by rw [if_neg (show ¬ (false = true) by decide)] at H; exact H
                clear H
                have H := H1
                clear H1
                have H' := Z H
                clear H
                have qn := aX.out
                have qY := aJ.out
                have qo := aM.out
                have qZ := an.out
                have qp := aN.out
                have q0 := aA.out
                obtain ⟨h7, h8, h9, ia, ib, ic, iK, iL, iM, iN, iO, iP⟩ := cells6 ax.out
                go_wp2
                go_meet
                case rel => exact ⟨_, (false), (by first | rfl | (simp; done) | (simp [*]; done)), H', ⟨by have := bp.out; have := jX.out; first | omega | exact Nat.le_refl _⟩, ⟨by (with_reducible repeat apply pV); exact Kd.V_mono (Kd.V_far (p := ⟨ae, 5, none⟩) (Kd.V_far (p := ⟨ae, 4, none⟩) (Kd.V_far (p := ⟨ae, 3, none⟩) (Kd.V_far (p := ⟨ae, 2, none⟩) (Kd.V_far (p := ⟨ae, 1, none⟩) (Kd.V_far (p := ⟨ae, 0, none⟩) (Kd.V_mono HO_482002.out (fun k_ hk => (⟨hk, hk.2⟩ : _ ∧ k_ ≠ ae))) (fun _ hk => hk.2) (.bool true)) (fun _ hk => hk.2) (.bool (false))) (fun _ hk => hk.2) (.bool ((rd_T35 D z).f1.f1))) (fun _ hk => hk.2) (.int .i64 ((rd_T35 D z).f1.f2))) (fun _ hk => hk.2) (.bool ((rd_T35 D z).f1.f3))) (fun _ hk => hk.2) (.int .u8 ((rd_T35 D z).f2))) (fun _ hk => ⟨hk.1.1.1.1, ⟨hk.1.1.2, ⟨hk.1.1.1.2.1, ⟨hk.1.1.1.2.2.1, ⟨hk.1.1.1.2.2.2, hk.1.2⟩⟩⟩⟩⟩)⟩, ⟨by (with_reducible repeat apply pR); exact Kd.R_mono (Kd.R_far (p := ⟨ae, 5, none⟩) (Kd.R_far (p := ⟨ae, 4, none⟩) (Kd.R_far (p := ⟨ae, 3, none⟩) (Kd.R_far (p := ⟨ae, 2, none⟩) (Kd.R_far (p := ⟨ae, 1, none⟩) (Kd.R_far (p := ⟨ae, 0, none⟩) (Kd.R_mono HO_515002.out (fun k_ hk => (⟨hk, hk.2⟩ : _ ∧ k_ ≠ ae))) (fun _ hk => hk.2) (.bool true)) (fun _ hk => hk.2) (.bool (false))) (fun _ hk => hk.2) (.bool ((rd_T35 D z).f1.f1))) (fun _ hk => hk.2) (.int .i64 ((rd_T35 D z).f1.f2))) (fun _ hk => hk.2) (.bool ((rd_T35 D z).f1.f3))) (fun _ hk => hk.2) (.int .u8 ((rd_T35 D z).f2))) (fun _ hk => ⟨hk.1.1, hk.1.2⟩)⟩, ⟨blk_off b.out aJ.out off2_⟩, ⟨blk_off l.out an.out off2_⟩, ⟨blk_off y.out aA.out off2_⟩, ⟨by first | exact put6 ax.out | (simp only [← ft.out, ← U.out]; exact put6 ax.out)⟩, ⟨bl_⟩⟩
              case rest =>
               clear gt
               try clear c1
               try clear q1
               try clear hx1
               try clear c2
               try clear p2
               try clear c3
               try clear c4
               try clear c5
               try clear p5
               try clear q5
               try clear li
               try clear c6
               try clear p6
               try clear c7
               try clear c8
               try clear p8
               try clear q8
               try clear rx
               try clear qc
               try clear c9
               try clear p9
               try clear q9
               try clear tj
               try clear ti
               try clear c10
               try clear sL
               try clear sE
               try clear tf
               try clear tk
               try clear eF
               try clear jg
               try clear eG
               try clear eH
               try clear jh
               try clear cL
               try clear bi
               try clear dc
               try clear ji
               try clear jj
               try clear j5
               try clear jk
               try clear ff
               try clear j6
               try clear j7
               try clear j8
               try clear j9
               try clear ka
               try clear kc
               try clear kd
               try clear p51
               try clear jy
               try clear kD
               try clear p52
               try clear lj
               try clear pS
               try clear p53
               try clear lk
               try clear pT
               try clear fg
               try clear ke
               try clear kf
               try clear kg
               try clear tg
               try clear eI
               try clear bo
               try clear fv
               try clear gB
               try clear fw
               try clear gC
               try clear fx
               try clear gD
               try clear p64
               try clear fy
               try clear gE
               try clear ey
               try clear fn
               try clear fo
               try clear eJ
               try clear fp
               try clear ld
               try clear le
               try clear lf
               try clear fh
               try clear gF
               try clear gg
               try clear jl
               try clear gh
               try clear jm
               try clear gi
               try clear jn
               try clear gj
               try clear jo
               try clear gl
               try clear jp
               try clear gm
               try clear jq
               try clear gn
               try clear jr
               try clear go
               try clear js
               try clear p3
               try clear fR
               try clear fV
               try clear pU
               try clear nK
               try clear p4
               try clear g6
               try clear kN
               try clear g7
               try clear kO
               try clear th
               try clear eN
               try clear eO
               try clear sM
               try clear sF
               try clear g8
               try clear kP
               try clear g9
               try clear kQ
               try clear tl
               try clear ha
               try clear sk
               try clear sl
               try clear sm
               try clear sh
               try clear rG
               try clear sn
               try clear so
               try clear sp
               try clear sq
               try clear sN
               try clear fu
               try clear sr
               try clear ss
               try clear st
               try clear su
               try clear sv
               try clear sw
               try clear hC
               try clear hD
               try clear hE
               try clear hF
               try clear hG
               try clear hH
               try clear hI
               try clear hJ
               try clear hL
               try clear hM
               try clear hN
               try clear hO
               try clear bw
               try clear bx
               try clear bz
               try clear bA
               try clear bB
               try clear bC
               try clear hP
               try clear hQ
               try clear hR
               try clear hS
               try clear hT
               try clear hU
               try clear hV
               try clear hW
               try clear hX
               try clear hY
               try clear hZ
               try clear h0
               try clear h1
               try clear h2
               try clear h3
               try clear h4
               try clear h5
               try clear h6
               try clear h7
               try clear h8
               try clear h9
               try clear ia
               try clear ib
               try clear ic
               try clear bD
               try clear bE
               try clear bF
               try clear bG
               try clear bH
               try clear bI
               try clear bJ
               try clear bK
               try clear bL
               try clear bM
               try clear bN
               try clear bO
               try clear bP
               try clear bQ
               try clear bR
               try clear bS
               try clear bT
               try clear bU
               try clear bV
               try clear bW
               try clear bX
               try clear bY
               try clear bZ
               try clear b0
               try clear b1
               try clear b2
               try clear b3
               try clear b4
               try clear b5
               try clear b6
               try clear dd
               try clear de
               try clear df
               try clear dg
               try clear dh
               try clear di
               try clear dj
               try clear dk
               try clear dl
               try clear dm
               try clear dn
               try clear dp
               try clear dq
               try clear dr
               try clear dt
               try clear du
               try clear dv
               try clear dw
               try clear dx
               try clear dy
               try clear dz
               try clear dA
               try clear dB
               try clear dC
               try clear dD
               try clear dE
               try clear dF
               try clear dG
               try clear dH
               try clear dI
               try clear dJ
               try clear dK
               try clear dL
               try clear dM
               try clear dN
               try clear dO
               try clear eR
               try clear eS
               try clear eT
               try clear eU
               try clear eV
               try clear eW
               try clear eX
               try clear eY
               try clear eZ
               try clear e0
               try clear e1
               try clear e2
               try clear cM
               try clear cN
               try clear cO
               try clear cP
               try clear cQ
               try clear cR
               try clear id
               try clear ie
               try clear ig
               try clear ih
               try clear ii
               try clear ij
               try clear ik
               try clear il
               try clear im
               try clear io
               try clear ip
               try clear iq
               try clear b7
               try clear b8
               try clear b9
               try clear ca
               try clear cb
               try clear cc
               try clear ir
               try clear it
               try clear iu
               try clear iv
               try clear iw
               try clear ix
               try clear iy
               try clear iz
               try clear iA
               try clear iB
               try clear iC
               try clear iD
               try clear iE
               try clear iF
               try clear iG
               try clear iH
               try clear iI
               try clear iJ
               try clear iK
               try clear iL
               try clear iM
               try clear iN
               try clear iO
               try clear iP
               try clear cd
               try clear ce
               try clear cf
               try clear cg
               try clear ch
               try clear ci
               try clear cj
               try clear ck
               try clear cl
               try clear cm
               try clear cn
               try clear co
               try clear cp
               try clear cq
               try clear cr
               try clear ct
               try clear cu
               try clear cv
               try clear cw
               try clear cx
               try clear cy
               try clear cz
               try clear cA
               try clear cB
               try clear cC
               try clear cD
               try clear cE
               try clear cF
               try clear cG
               try clear cH
               try clear dP
               try clear dQ
               try clear dR
               try clear dS
               try clear dT
               try clear dU
               try clear dV
               try clear dW
               try clear dX
               try clear dY
               try clear dZ
               try clear d0
               try clear d1
               try clear d2
               try clear d3
               try clear d4
               try clear d5
               try clear d6
               try clear d7
               try clear d8
               try clear d9
               try clear ea
               try clear eb
               try clear ec
               try clear ed
               try clear ee
               try clear ef
               try clear eg
               try clear eh
               try clear ei
               try clear ej
               try clear ek
               try clear el
               try clear em
               try clear en
               try clear eo
               try clear e3
               try clear e4
               try clear e5
               try clear e6
               try clear e7
               try clear e8
               try clear e9
               try clear fa
               try clear fb
               try clear fc
               try clear fd
               try clear fe
               try clear cS
               try clear cT
               try clear cU
               try clear cV
               try clear cW
               try clear cX
               try clear gp
               try clear a7
               try clear a8
               try clear a9
               try clear ba
               try clear bb
               try clear bc
               try clear bd
               try clear ep
               try clear eq
               try clear er
               try clear es
               try clear et
               try clear eu
               try clear ev
               try clear ew
               try clear aQ
               try clear aR
               try clear aS
               try clear be
               try clear aT
               try clear bf
               try clear fF
               try clear fG
               try clear fH
               try clear fI
               try clear fJ
               try clear fK
               try clear hj
               try clear hl
               try clear hm
               try clear hp
               try clear hq
               try clear hs
               try clear p2
               try clear p5
               try clear p51
               try clear bq
               try clear br
               try clear p52
               try clear fO
               try clear fP
               try clear p53
               try clear fQ
               try clear c0
               try clear p6
               try clear p64
               try clear p8
               try clear fR
               try clear eN
               try clear q5
               try clear jy
               try clear bs
               try clear bt
               try clear lj
               try clear fS
               try clear fT
               try clear lk
               try clear fU
               try clear da
               try clear q8
               try clear fV
               try clear eO
               obtain ⟨kq, ex, rfl, HA, sj, HO_482002, HO_515002, b, l, y, ax, HB⟩ := hcut
               have aK := (Kd.R_reads' HO_515002.out).1
               rw [aK] at HO_515002
               (try simp only [aK])
               (try simp only [aK] at b)
               (try simp only [aK] at l)
               (try simp only [aK] at y)
               (try simp only [aK] at ax)
               (try simp only [aK] at HO_482002)
               cases kq with
               | zero => exact absurd HA.out (by simp [shutterref14_Type.j4])
               | succ iQ =>
                have H := HA.out
                clear HA
                simp only [shutterref14_Type.j4] at H
                by_cases gz : ex = true
                ·subst gz
                 have H1 : ((shutterref11_Next.f iQ F P D al X ab z).bind fun a5 => (if a5 < 0 then ((shutterref10_Next.f r s O a false u z).bind fun bn => (some (F, P, D, bn, X, ab, 0, (-1)))) else (some (F, P, D, a5, X, ab, 0, (-1))))) = some (r1, r2, r3, r4, r5, r6, r7, r8) := by rw [if_pos rfl] at H; exact H
                 clear H
                 have H := H1
                 clear H1
                 replace H := Option.bind_eq_some_iff.mp H
                 obtain ⟨a5, iT, H⟩ := H
                 replace H : (if a5 < 0 then ((shutterref10_Next.f r s O a false u z).bind fun bn => (some (F, P, D, bn, X, ab, 0, (-1)))) else (some (F, P, D, a5, X, ab, 0, (-1)))) = some (r1, r2, r3, r4, r5, r6, r7, r8) := H
                 have jK := Z iT
                 clear iT
                 by_cases eQ : a5 < 0
                 ·rw [if_pos eQ] at H
                  have j2 : decide (a5 < 0) = true := decide_eq_true eQ
                  clear eQ
                  replace H := Option.bind_eq_some_iff.mp H
                  obtain ⟨bn, iU, H⟩ := H
                  replace H : (some (F, P, D, bn, X, ab, 0, (-1))) = some (r1, r2, r3, r4, r5, r6, r7, r8) := H
                  have lm := Z iU
                  clear iU
                  simp only [Option.some.injEq, Prod.mk.injEq] at H
                  obtain ⟨rfl, rfl, rfl, rfl, rfl, rfl, rfl, rfl⟩ := H
                  have qq := aL.out
                  have q2 := az.out
                  have qr := aW.out
                  have q3 := aw.out
                  have qs := aA.out
                  have q4 := aN.out
                  obtain ⟨lB, lC, lD, lE, lF, lG, nL, nM, nN, nO, nP, nQ⟩ := cells6 y.out
                  go_wp2_with (first | ((with_reducible refine gate_callee (f := 60) rfl ?_); refine goesL_ (some 132) rfl rfl Tryd.func60 (by kernel_rfl) rfl #[.agg #[.int .i64 F, .int .i64 P, .slice (some ⟨W, 0, none⟩) D.length ap, .int .i64 al, .bool X, .bool ab], .int .i64 z] rfl ag_ ?_; (with_reducible refine (shutterref11_Next.calls iQ F P _ _ D al X ab z a5 _ ?side1 ?side2 jK.out).mono ?_); (case side1 => repeat (first | exact (Kd.R_reads' HO_515002.out).2.2 | (with_reducible apply pC))); (case side2 => exact (Kd.R_reads' HO_515002.out).2.1); rintro e sV ⟨rfl, hb⟩; refine ⟨_, rfl, ?_⟩; have G := Z (vb HO_482002.out hb); have I := Z (rb HO_515002.out hb); have J := Z (kb b.out hb); have L := Z (kb l.out hb); have ac := Z (kb y.out hb); have ak := Z (kb ax.out hb); have ar := Z (below_step bl_ hb); clear HO_482002 HO_515002 b l y ax HB; have HO_482002 := G; have HO_515002 := I; have b := J; have l := L; have y := ac; have ax := ak; have HB := ar; clear G I J L ac ak ar; (try clear hb); (try clear bl); (try clear hk); (try clear hi); have qt := ah.out; have q6 := ai.out; have qu := aJ.out; have q7 := aX.out; obtain ⟨lH, lI, lJ, lK, lL, lM, nR, nS, nT, nU, nV, nW⟩ := cells6 b.out) | ((with_reducible refine gate_callee (f := 59) rfl ?_); refine goesL_ (some 137) rfl rfl Tryd.func59 (by kernel_rfl) rfl #[.agg #[.int .i64 r, .int .i64 s, .slice eE O.length eK, .int .i64 a, .bool false, .bool u], .int .i64 z] rfl ag_ ?_; (with_reducible refine (shutterref10_Next.calls r s _ _ O a false u z bn _ ?side1 ?side2 lm.out).mono ?_); (case side1 => repeat (first | exact (Kd.V_reads' HO_482002.out).2.2 | (with_reducible apply pC))); (case side2 => exact (Kd.V_reads' HO_482002.out).2.1); rintro e sW ⟨rfl, hb⟩; refine ⟨_, rfl, ?_⟩; have G := Z (vb HO_482002.out hb); have I := Z (rb HO_515002.out hb); have J := Z (kb b.out hb); have L := Z (kb l.out hb); have ac := Z (kb y.out hb); have ak := Z (kb ax.out hb); have ar := Z (below_step bl_ hb); clear HO_482002 HO_515002 b l y ax HB; have HO_482002 := G; have HO_515002 := I; have b := J; have l := L; have y := ac; have ax := ak; have HB := ar; clear G I J L ac ak ar; (try clear hb); (try clear bl); (try clear hk); (try clear hi); obtain ⟨lN, lO, lP, lQ, lR, lS, nX, nY, nZ, n0, n1, n2⟩ := cells6 y.out; have qv := an.out; have ra := aM.out; obtain ⟨lT, lU, lV, lW, lX, lY, n3, n4, n5, n6, n7, n8⟩ := cells6 l.out))
                  refine bodyPost_ret (results_ctt rfl _ _ x 24 #[.int .i64 F, .int .i64 P, .slice (some ⟨W, 0, none⟩) D.length ap, .int .i64 bn, .bool X, .bool ab] (0, 0) _ rfl (by (with_reducible repeat apply pK); refine blk_put (cs := #[.int .i64 F, .int .i64 P, .slice (some ⟨W, 0, none⟩) D.length ap, .int .i64 bn, .bool X, .bool T]) ?_ 5 _ (by first | rfl | (simp only [← U.out]; rfl) | (simp [← U.out]; done)); (with_reducible repeat apply pK); refine blk_put (cs := #[.int .i64 F, .int .i64 P, .slice (some ⟨W, 0, none⟩) D.length ap, .int .i64 bn, .bool aa, .bool T]) ?_ 4 _ (by first | rfl | (simp only [← U.out]; rfl) | (simp [← U.out]; done)); (with_reducible repeat apply pK); refine blk_put (cs := #[.int .i64 F, .int .i64 P, .slice (some ⟨W, 0, none⟩) D.length ap, .int .i64 af, .bool aa, .bool T]) ?_ 3 _ (by first | rfl | (simp only [← U.out]; rfl) | (simp [← U.out]; done)); (with_reducible repeat apply pK); refine blk_put (cs := #[.int .i64 F, .int .i64 P, .slice none 0 0, .int .i64 af, .bool aa, .bool T]) ?_ 2 _ (by first | rfl | (simp only [← U.out]; rfl) | (simp [← U.out]; done)); (with_reducible repeat apply pK); refine blk_put (cs := #[.int .i64 F, .int .i64 au, .slice none 0 0, .int .i64 af, .bool aa, .bool T]) ?_ 1 _ (by first | rfl | (simp only [← U.out]; rfl) | (simp [← U.out]; done)); (with_reducible repeat apply pK); refine blk_put (cs := #[.int .i64 ay, .int .i64 au, .slice none 0 0, .int .i64 af, .bool aa, .bool T]) ?_ 0 _ (by first | rfl | (simp only [← U.out]; rfl) | (simp [← U.out]; done)); (with_reducible repeat apply pK); refine blk_far ?_ aw.out _; (with_reducible repeat apply pK); exact l.out) Tryd.underlying24 rfl (by kernel_rfl)) rfl ?_
                  exact ⟨_, by first | rfl | (simp [errW_none, errW_some] <;> rfl) | (simp [*, errW_none, errW_some] <;> rfl), Kd.V_mono (Kd.R_V (by (with_reducible repeat apply pR); exact Kd.R_mono (Kd.R_far (p := ⟨x, 5, none⟩) (Kd.R_far (p := ⟨x, 4, none⟩) (Kd.R_far (p := ⟨x, 3, none⟩) (Kd.R_far (p := ⟨x, 2, none⟩) (Kd.R_far (p := ⟨x, 1, none⟩) (Kd.R_far (p := ⟨x, 0, none⟩) (Kd.R_far (p := ⟨Q, 3, none⟩) (Kd.R_types (Kd.R_types HO_515002.out y.out (by decide)) l.out (by decide)) (fun _ hk => hk.1.2) (.int .i64 bn)) (fun _ hk => hk.2) (.int .i64 F)) (fun _ hk => hk.2) (.int .i64 P)) (fun _ hk => hk.2) (.slice (some ⟨W, 0, none⟩) D.length ap)) (fun _ hk => hk.2) (.int .i64 bn)) (fun _ hk => hk.2) (.bool X)) (fun _ hk => hk.2) (.bool ab)) (fun _ hk => hk.1.1.1))) (fun k_ hk => by first | exact ⟨(.inr (hk.1)), hk.2⟩ | exact (.inr (hk))), bl_⟩
                 ·rw [if_neg eQ] at H
                  have j2 : decide (a5 < 0) = false := decide_eq_false eQ
                  clear eQ
                  simp only [Option.some.injEq, Prod.mk.injEq] at H
                  obtain ⟨rfl, rfl, rfl, rfl, rfl, rfl, rfl, rfl⟩ := H
                  have qw := aL.out
                  have rc := az.out
                  have qx := aW.out
                  have re := aw.out
                  have qy := aA.out
                  have rf := aN.out
                  obtain ⟨lZ, l2, l3, l4, l5, l6, n9, oa, ob, oc, od, oe⟩ := cells6 y.out
                  go_wp2_with (first | ((with_reducible refine gate_callee (f := 60) rfl ?_); refine goesL_ (some 132) rfl rfl Tryd.func60 (by kernel_rfl) rfl #[.agg #[.int .i64 F, .int .i64 P, .slice (some ⟨W, 0, none⟩) D.length ap, .int .i64 al, .bool X, .bool ab], .int .i64 z] rfl ag_ ?_; (with_reducible refine (shutterref11_Next.calls iQ F P _ _ D al X ab z a5 _ ?side1 ?side2 jK.out).mono ?_); (case side1 => repeat (first | exact (Kd.R_reads' HO_515002.out).2.2 | (with_reducible apply pC))); (case side2 => exact (Kd.R_reads' HO_515002.out).2.1); rintro e sX ⟨rfl, hb⟩; refine ⟨_, rfl, ?_⟩; have G := Z (vb HO_482002.out hb); have I := Z (rb HO_515002.out hb); have J := Z (kb b.out hb); have L := Z (kb l.out hb); have ac := Z (kb y.out hb); have ak := Z (kb ax.out hb); have ar := Z (below_step bl_ hb); clear HO_482002 HO_515002 b l y ax HB; have HO_482002 := G; have HO_515002 := I; have b := J; have l := L; have y := ac; have ax := ak; have HB := ar; clear G I J L ac ak ar; (try clear hb); (try clear bl); (try clear hk); (try clear hi); obtain ⟨l7, l8, l9, ma, mb, mc, of, og, oh, oi, oj, ol⟩ := cells6 y.out; have qz := ai.out; have rg := ah.out; have qA := an.out; have rh := aM.out; obtain ⟨md, me, mf, mg, mh, mi, om, on, oo, op, oq, os⟩ := cells6 l.out))
                  refine bodyPost_ret (results_ctt rfl _ _ x 24 #[.int .i64 F, .int .i64 P, .slice (some ⟨W, 0, none⟩) D.length ap, .int .i64 a5, .bool X, .bool ab] (0, 0) _ rfl (by (with_reducible repeat apply pK); refine blk_put (cs := #[.int .i64 F, .int .i64 P, .slice (some ⟨W, 0, none⟩) D.length ap, .int .i64 a5, .bool X, .bool T]) ?_ 5 _ (by first | rfl | (simp only [← U.out]; rfl) | (simp [← U.out]; done)); (with_reducible repeat apply pK); refine blk_put (cs := #[.int .i64 F, .int .i64 P, .slice (some ⟨W, 0, none⟩) D.length ap, .int .i64 a5, .bool aa, .bool T]) ?_ 4 _ (by first | rfl | (simp only [← U.out]; rfl) | (simp [← U.out]; done)); (with_reducible repeat apply pK); refine blk_put (cs := #[.int .i64 F, .int .i64 P, .slice (some ⟨W, 0, none⟩) D.length ap, .int .i64 af, .bool aa, .bool T]) ?_ 3 _ (by first | rfl | (simp only [← U.out]; rfl) | (simp [← U.out]; done)); (with_reducible repeat apply pK); refine blk_put (cs := #[.int .i64 F, .int .i64 P, .slice none 0 0, .int .i64 af, .bool aa, .bool T]) ?_ 2 _ (by first | rfl | (simp only [← U.out]; rfl) | (simp [← U.out]; done)); (with_reducible repeat apply pK); refine blk_put (cs := #[.int .i64 F, .int .i64 au, .slice none 0 0, .int .i64 af, .bool aa, .bool T]) ?_ 1 _ (by first | rfl | (simp only [← U.out]; rfl) | (simp [← U.out]; done)); (with_reducible repeat apply pK); refine blk_put (cs := #[.int .i64 ay, .int .i64 au, .slice none 0 0, .int .i64 af, .bool aa, .bool T]) ?_ 0 _ (by first | rfl | (simp only [← U.out]; rfl) | (simp [← U.out]; done)); (with_reducible repeat apply pK); refine blk_far ?_ aw.out _; (with_reducible repeat apply pK); exact l.out) Tryd.underlying24 rfl (by kernel_rfl)) rfl ?_
                  exact ⟨_, by first | rfl | (simp [errW_none, errW_some] <;> rfl) | (simp [*, errW_none, errW_some] <;> rfl), Kd.V_mono (Kd.R_V (by (with_reducible repeat apply pR); exact Kd.R_mono (Kd.R_far (p := ⟨x, 5, none⟩) (Kd.R_far (p := ⟨x, 4, none⟩) (Kd.R_far (p := ⟨x, 3, none⟩) (Kd.R_far (p := ⟨x, 2, none⟩) (Kd.R_far (p := ⟨x, 1, none⟩) (Kd.R_far (p := ⟨x, 0, none⟩) (Kd.R_far (p := ⟨Q, 3, none⟩) (Kd.R_types (Kd.R_types HO_515002.out y.out (by decide)) l.out (by decide)) (fun _ hk => hk.1.2) (.int .i64 a5)) (fun _ hk => hk.2) (.int .i64 F)) (fun _ hk => hk.2) (.int .i64 P)) (fun _ hk => hk.2) (.slice (some ⟨W, 0, none⟩) D.length ap)) (fun _ hk => hk.2) (.int .i64 a5)) (fun _ hk => hk.2) (.bool X)) (fun _ hk => hk.2) (.bool ab)) (fun _ hk => hk.1.1.1))) (fun k_ hk => by first | exact ⟨(.inr (hk.1)), hk.2⟩ | exact (.inr (hk))), bl_⟩
                ·replace gz := Bool.eq_false_iff.mpr gz
                 subst gz
                 have H1 : (if (-1) < 0 then ((shutterref10_Next.f r s O a false u z).bind fun cK => (some (F, P, D, cK, X, ab, 0, (-1)))) else (some (F, P, D, (-1), X, ab, 0, (-1)))) = some (r1, r2, r3, r4, r5, r6, r7, r8) := by rw [if_neg (show ¬ (false = true) by decide)] at H; exact H
                 clear H
                 have H := H1
                 clear H1
                 by_cases gA : (-1) < 0
                 ·rw [if_pos gA] at H
                  have p1 : decide ((-1) < 0) = true := decide_eq_true gA
                  clear gA
                  replace H := Option.bind_eq_some_iff.mp H
                  obtain ⟨cK, iV, H⟩ := H
                  replace H : (some (F, P, D, cK, X, ab, 0, (-1))) = some (r1, r2, r3, r4, r5, r6, r7, r8) := H
                  have ln := Z iV
                  clear iV
                  simp only [Option.some.injEq, Prod.mk.injEq] at H
                  obtain ⟨rfl, rfl, rfl, rfl, rfl, rfl, rfl, rfl⟩ := H
                  have qB := ah.out
                  have ri := ai.out
                  have qC := az.out
                  have rj := aL.out
                  have qD := aJ.out
                  have rk := aX.out
                  obtain ⟨mj, ml, mm, mn, mo, mq, ot, ou, ov, ow, ox, oy⟩ := cells6 b.out
                  go_wp2_with (first | ((with_reducible refine gate_callee (f := 59) rfl ?_); refine goesL_ (some 137) rfl rfl Tryd.func59 (by kernel_rfl) rfl #[.agg #[.int .i64 r, .int .i64 s, .slice eE O.length eK, .int .i64 a, .bool false, .bool u], .int .i64 z] rfl ag_ ?_; (with_reducible refine (shutterref10_Next.calls r s _ _ O a false u z cK _ ?side1 ?side2 ln.out).mono ?_); (case side1 => repeat (first | exact (Kd.V_reads' HO_482002.out).2.2 | (with_reducible apply pC))); (case side2 => exact (Kd.V_reads' HO_482002.out).2.1); rintro e sY ⟨rfl, hb⟩; refine ⟨_, rfl, ?_⟩; have G := Z (vb HO_482002.out hb); have I := Z (rb HO_515002.out hb); have J := Z (kb b.out hb); have L := Z (kb l.out hb); have ac := Z (kb y.out hb); have ak := Z (kb ax.out hb); have ar := Z (below_step bl_ hb); clear HO_482002 HO_515002 b l y ax HB; have HO_482002 := G; have HO_515002 := I; have b := J; have l := L; have y := ac; have ax := ak; have HB := ar; clear G I J L ac ak ar; (try clear hb); (try clear bl); (try clear hk); (try clear hi); have qE := aW.out; have rl := aw.out; have qF := aA.out; have rm := aN.out; obtain ⟨mr, ms, mt, mu, mv, mw, oz, oA, oB, oC, oD, oE⟩ := cells6 y.out; have qG := an.out; have rn := aM.out; obtain ⟨mx, my, mz, mA, mB, mC, oF, oG, oH, oI, oJ, oK⟩ := cells6 l.out))
                  refine bodyPost_ret (results_ctt rfl _ _ x 24 #[.int .i64 F, .int .i64 P, .slice (some ⟨W, 0, none⟩) D.length ap, .int .i64 cK, .bool X, .bool ab] (0, 0) _ rfl (by (with_reducible repeat apply pK); refine blk_put (cs := #[.int .i64 F, .int .i64 P, .slice (some ⟨W, 0, none⟩) D.length ap, .int .i64 cK, .bool X, .bool T]) ?_ 5 _ (by first | rfl | (simp only [← U.out]; rfl) | (simp [← U.out]; done)); (with_reducible repeat apply pK); refine blk_put (cs := #[.int .i64 F, .int .i64 P, .slice (some ⟨W, 0, none⟩) D.length ap, .int .i64 cK, .bool aa, .bool T]) ?_ 4 _ (by first | rfl | (simp only [← U.out]; rfl) | (simp [← U.out]; done)); (with_reducible repeat apply pK); refine blk_put (cs := #[.int .i64 F, .int .i64 P, .slice (some ⟨W, 0, none⟩) D.length ap, .int .i64 af, .bool aa, .bool T]) ?_ 3 _ (by first | rfl | (simp only [← U.out]; rfl) | (simp [← U.out]; done)); (with_reducible repeat apply pK); refine blk_put (cs := #[.int .i64 F, .int .i64 P, .slice none 0 0, .int .i64 af, .bool aa, .bool T]) ?_ 2 _ (by first | rfl | (simp only [← U.out]; rfl) | (simp [← U.out]; done)); (with_reducible repeat apply pK); refine blk_put (cs := #[.int .i64 F, .int .i64 au, .slice none 0 0, .int .i64 af, .bool aa, .bool T]) ?_ 1 _ (by first | rfl | (simp only [← U.out]; rfl) | (simp [← U.out]; done)); (with_reducible repeat apply pK); refine blk_put (cs := #[.int .i64 ay, .int .i64 au, .slice none 0 0, .int .i64 af, .bool aa, .bool T]) ?_ 0 _ (by first | rfl | (simp only [← U.out]; rfl) | (simp [← U.out]; done)); (with_reducible repeat apply pK); refine blk_far ?_ aw.out _; (with_reducible repeat apply pK); exact l.out) Tryd.underlying24 rfl (by kernel_rfl)) rfl ?_
                  exact ⟨_, by first | rfl | (simp [errW_none, errW_some] <;> rfl) | (simp [*, errW_none, errW_some] <;> rfl), Kd.V_mono (Kd.R_V (by (with_reducible repeat apply pR); exact Kd.R_mono (Kd.R_far (p := ⟨x, 5, none⟩) (Kd.R_far (p := ⟨x, 4, none⟩) (Kd.R_far (p := ⟨x, 3, none⟩) (Kd.R_far (p := ⟨x, 2, none⟩) (Kd.R_far (p := ⟨x, 1, none⟩) (Kd.R_far (p := ⟨x, 0, none⟩) (Kd.R_far (p := ⟨Q, 3, none⟩) (Kd.R_types (Kd.R_types HO_515002.out y.out (by decide)) l.out (by decide)) (fun _ hk => hk.1.2) (.int .i64 cK)) (fun _ hk => hk.2) (.int .i64 F)) (fun _ hk => hk.2) (.int .i64 P)) (fun _ hk => hk.2) (.slice (some ⟨W, 0, none⟩) D.length ap)) (fun _ hk => hk.2) (.int .i64 cK)) (fun _ hk => hk.2) (.bool X)) (fun _ hk => hk.2) (.bool ab)) (fun _ hk => hk.1.1.1))) (fun k_ hk => by first | exact ⟨(.inr (hk.1)), hk.2⟩ | exact (.inr (hk))), bl_⟩
                 ·exact absurd (by decide) gA
             ·replace ha := Bool.eq_false_iff.mpr ha
              subst ha
              have H1 : (some (F, P, D, z, X, ab, 0, (-1))) = some (r1, r2, r3, r4, r5, r6, r7, r8) := by rw [if_neg (show ¬ (false = true) by decide)] at H; exact H
              clear H
              have H := H1
              clear H1
              simp only [Option.some.injEq, Prod.mk.injEq] at H
              obtain ⟨rfl, rfl, rfl, rfl, rfl, rfl, rfl, rfl⟩ := H
              have qH := aL.out
              have ro := az.out
              have qI := aW.out
              have rp := aw.out
              obtain ⟨mD, mE, mF, mG, mH, mI, oL, oM, oN, oO, oP, oQ⟩ := cells6 y.out
              have eN : 0 ≤ (a : Int) := od_
              have eO : (a : Int) < ((d.length : Int) : Int) := od_
              obtain ⟨W, ap, fz, fA, hB, ls, fr⟩ := Kd.R_form HO_515002.out (by omega)
              (first | cases fz | (injection fz with ea_ en_ ec_; (first | subst ea_ | (injection ea_ with ea_; subst ea_)); subst ec_; clear en_))
              have ht := Z fA
              have lq := Z fr
              clear fA hB fr
              obtain ⟨lr, gI, fB, aO, aP⟩ := Kd.R_elem HO_515002.out z35 (a : Int) eN eO
              obtain rfl := k35_openM fB
              have hj : wc.cell? ⟨W, (a : Int).toNat * 6, none⟩ = some (.bool ((rd_T35 d a).f0)) := aO 0 _ rfl
              have hl : wc.cell? ⟨W, (a : Int).toNat * 6 + 1, none⟩ = some (.bool ((rd_T35 d a).f1.f0)) := aO 1 _ rfl
              have hm : wc.cell? ⟨W, (a : Int).toNat * 6 + 2, none⟩ = some (.bool ((rd_T35 d a).f1.f1)) := aO 2 _ rfl
              have hp : wc.cell? ⟨W, (a : Int).toNat * 6 + 3, none⟩ = some (.int .i64 ((rd_T35 d a).f1.f2)) := aO 3 _ rfl
              have hq : wc.cell? ⟨W, (a : Int).toNat * 6 + 4, none⟩ = some (.bool ((rd_T35 d a).f1.f3)) := aO 4 _ rfl
              have hs : wc.cell? ⟨W, (a : Int).toNat * 6 + 5, none⟩ = some (.int .u8 ((rd_T35 d a).f2)) := aO 5 _ rfl
              have kx : wc.frozen? ⟨W, (a : Int).toNat * 6, none⟩ = false := aP 0
              have ky : wc.frozen? ⟨W, (a : Int).toNat * 6 + 1, none⟩ = false := aP 1
              have kz : wc.frozen? ⟨W, (a : Int).toNat * 6 + 2, none⟩ = false := aP 2
              have kA : wc.frozen? ⟨W, (a : Int).toNat * 6 + 3, none⟩ = false := aP 3
              have kB : wc.frozen? ⟨W, (a : Int).toNat * 6 + 4, none⟩ = false := aP 4
              have kC : wc.frozen? ⟨W, (a : Int).toNat * 6 + 5, none⟩ = false := aP 5
              clear gI aO aP fB
              replace eN := eq_true eN
              replace eO := eq_true eO
              have je := Z (show Kd.R k35 35 wc w.heap.size (fun k_ => (w.heap.size ≤ k_)) (.slice (some ⟨W, 0, none⟩) d.length ap) d from (by (with_reducible repeat apply pR); exact HO_515002.out))
              obtain ⟨rF, he, jv, fE, hh⟩ := Kd.R_elem je.out z35 (a : Int) (od_) (by have h_ : (a : Int) < ((d.length : Int) : Int) := od_; first | exact h_ | (have e_ := (Kd.R_reads' HO_515002.out).1; omega) | simpa using h_)
              obtain rfl := k35_openM jv
              have gv := Kd.R_seg je.out (a : Int) (od_) (by have h_ : (a : Int) < ((d.length : Int) : Int) := od_; first | exact h_ | (have e_ := (Kd.R_reads' HO_515002.out).1; omega) | simpa using h_) (seg := [.int .u8 a1]) (j := 5) he fE (show 6 ≤ 6 from by decide) (x' := (⟨(rd_T35 d a).f0, (⟨(rd_T35 d a).f1.f0, (rd_T35 d a).f1.f1, (rd_T35 d a).f1.f2, (rd_T35 d a).f1.f3⟩ : S33), a1⟩ : S35)) (k35_mkM _ _ _ (⟨(rd_T35 d a).f0, (⟨(rd_T35 d a).f1.f0, (rd_T35 d a).f1.f1, (rd_T35 d a).f1.f2, (rd_T35 d a).f1.f3⟩ : S33), a1⟩ : S35) ) (fun _ hk => hk)
              have jI := fE 5 _ rfl
              (try simp only [show (k35).sz = 6 from rfl, Nat.mul_one, Nat.add_zero] at jI)
              have jH := hh 5
              (try simp only [show (k35).sz = 6 from rfl, Nat.mul_one, Nat.add_zero] at jH)
              clear he fE hh jv
              go_wp2_with (first | ((with_reducible refine gate_store (t := 5) (p := 111) rfl ?_); refine store_event (t := 5) (p := 111) (v := ?vo_w174) (w1 := (wc.setCell ⟨W, (a : Int).toNat * 6 + 5, none⟩ (.int .u8 a1))) ?hg ?ho ?hn ?hr ?_; (case ho => rfl); (case hg => rfl); (case hn => rfl); (case hr => first | (go_simp; done) | (go_simp; rfl)); intro iS hw; have hg : wc.grownBy iS (some W) := (by rw [hw]; exact gv.2); have hp_ : Kd.R k35 35 iS w.heap.size (fun k_ => (w.heap.size ≤ k_)) (.slice (some ⟨W, 0, none⟩) d.length ap) D := (by rw [hw, fm.out]; exact gv.1); clear gv; have G := Z (Kd.V_afterv (v := (.slice (some ⟨W, 0, none⟩) d.length ap)) (v1 := (.slice (some ⟨W, 0, none⟩) d.length ap)) (ok := (fun k_ => (aV k_ ∨ w.heap.size ≤ k_) ∧ k_ ≠ Y ∧ k_ ≠ x ∧ k_ ≠ Q)) (by (with_reducible repeat apply pV); exact Kd.V_mono HO_482002.out (fun _ hk => ⟨⟨hk.1, ⟨hk.2.2.1, ⟨hk.2.2.2.1, hk.2.2.2.2⟩⟩⟩, hk.2.1⟩)) hg (.inl rfl)); have I := Z (hp_); have J := Z (blk_grown (g := Y) (o := .cells #[.int .i64 r, .int .i64 s, u482002, .int .i64 a, .bool false, .bool u] 24 (0, 0)) (by (with_reducible repeat apply pK); exact b.out) hg (Kd.R_ne HO_515002.out b.out (by decide))); have L := Z (blk_grown (g := x) (o := .cells #[.int .i64 ay, .int .i64 au, .slice none 0 0, .int .i64 af, .bool aa, .bool T] 24 (0, 0)) (by (with_reducible repeat apply pK); exact l.out) hg (Kd.R_ne HO_515002.out l.out (by decide))); have ac := Z (blk_grown (g := Q) (o := .cells #[.int .i64 F, .int .i64 P, .slice (some ⟨W, 0, none⟩) d.length ap, .int .i64 al, .bool X, .bool ab] 24 (0, 0)) (by (with_reducible repeat apply pK); exact y.out) hg (Kd.R_ne HO_515002.out y.out (by decide))); have ak := Z ((by rw [hw]; exact below_set (HB.out) ht.out : Below w.heap.size w iS)); clear HO_482002 HO_515002 b l y HB; have HO_482002 := G; have HO_515002 := I; have b := J; have l := L; have y := ac; have HB := ak; clear G I J L ac ak; clear hg hw hp_; have qJ := ah.out; have rq := ai.out; obtain ⟨mJ, mK, mL, mM, mN, mO, oR, oS, oT, oU, oV, oW⟩ := cells6 b.out; obtain ⟨kH, kR, kT⟩ := Kd.V_slice HO_482002.out; subst kT) | ((with_reducible refine gate_callee (f := 59) rfl ?_); refine goesL_ (some 114) rfl rfl Tryd.func59 (by kernel_rfl) rfl #[.agg #[.int .i64 r, .int .i64 s, .slice kH O.length kR, .int .i64 a, .bool false, .bool u], .int .i64 a] rfl ag_ ?_; (with_reducible refine (shutterref10_Next.calls r s _ _ O a false u a z _ ?side1 ?side2 lc.out).mono ?_); (case side1 => repeat (first | exact (Kd.V_reads' HO_482002.out).2.2 | (with_reducible apply pC))); (case side2 => exact (Kd.V_reads' HO_482002.out).2.1); rintro e sZ ⟨rfl, hb⟩; refine ⟨_, rfl, ?_⟩; have G := Z (vb HO_482002.out hb); have I := Z (rb HO_515002.out hb); have J := Z (kb b.out hb); have L := Z (kb l.out hb); have ac := Z (kb y.out hb); have ak := Z (below_step bl_ hb); clear HO_482002 HO_515002 b l y HB; have HO_482002 := G; have HO_515002 := I; have b := J; have l := L; have y := ac; have HB := ak; clear G I J L ac ak; (try clear hb); (try clear bl); (try clear hk); (try clear hi); obtain ⟨mP, mQ, mR, mS, mT, mU, oX, oY, oZ, o0, o1, o2⟩ := cells6 y.out; have c0 : 0 ≤ (z : Int) := od_; have da : z < (D.length : Int) := (by have h_ : (z : Int) < ((d.length : Int) : Int) := od_; first | (have e_ := (Kd.R_reads' HO_515002.out).1; omega) | simpa only [fm.out, List.length_set] using h_); have kZ : ((z : Int) < ((d.length : Int) : Int)) = True := eq_true (od_); obtain ⟨gy, hA, aQ, aR, aS, be, aT, bf⟩ := at_T35 (Kd.R_reads' HO_515002.out).2.2 z c0 da; (try rw [← U.out] at aQ); (try rw [← U.out] at aR); (try rw [← U.out] at aS); (try rw [← U.out] at aT); obtain rfl : (⟨W, 0, none⟩ : Addr) = gy := (by injection hA); (first | simp only [add_plain] at aQ | simp only [add_at] at aQ | simp only [Addr.add, Nat.zero_add] at aQ | skip); (first | simp only [add_plain] at aR | simp only [add_at] at aR | simp only [Addr.add, Nat.zero_add] at aR | skip); (first | simp only [add_plain] at aS | simp only [add_at] at aS | simp only [Addr.add, Nat.zero_add] at aS | skip); (first | simp only [add_plain] at be | simp only [add_at] at be | simp only [Addr.add, Nat.zero_add] at be | skip); (first | simp only [add_plain] at aT | simp only [add_at] at aT | simp only [Addr.add, Nat.zero_add] at aT | skip); (first | simp only [add_plain] at bf | simp only [add_at] at bf | simp only [Addr.add, Nat.zero_add] at bf | skip); replace c0 := eq_true c0; replace da := eq_true da) | ((with_reducible refine gate_dst (N := 14) rfl ?_); refine box_event ?hg (N := 14) ?hd (cs := #[.bool false, .bool false, .bool false, .int .i64 0, .bool false, .int .u8 0]) (t := 35) ?hr ?_; (case hd => rfl); (case hg => rfl); (case hr => first | (go_simp; done) | (go_simp; rfl)); intro ae hg ta hbox hb; have G := Z (ve HO_482002.out hg hb); have I := Z (Kd.R_below (Kd.R_elderB (by (with_reducible repeat apply pR); exact HO_515002.out) ae (Nat.le_of_eq hg.symm)) hb); have J := Z (kb b.out hb); have L := Z (kb l.out hb); have ac := Z (kb y.out hb); have ak := Z (below_step bl_ hb); have ar := Z (hbox); have aZ := Z ((le_new hg (below_size bl_) : w.heap.size ≤ ae)); have fi := Z ((le_new hg (below_size bl_) : w.heap.size ≤ ae)); have fj := Z (nl b.out hg); have cY := Z (ng b.out hg); have cZ := Z (nl l.out hg); have fL := Z (ng l.out hg); have fM := Z (nl y.out hg); have fN := Z (ng y.out hg); clear HO_482002 HO_515002 b l y HB; have HO_482002 := G; have HO_515002 := I; have b := J; have l := L; have y := ac; have HB := ak; have ax := ar; have kK := aZ; have kJ := fi; have aJ := fj; have aX := cY; have an := cZ; have aM := fL; have aA := fM; have aN := fN; clear G I J L ac ak ar aZ fi fj cY cZ fL fM fN; clear hb hbox hg; have qK := aX.out; have rr := aJ.out; have qL := aM.out; have rs := an.out; have qM := aN.out; have rt := aA.out; obtain ⟨mV, mW, mX, mY, mZ, m0, o3, o4, o5, o6, o7, o8⟩ := cells6 ax.out; obtain ⟨m1, m2, m3, m4, m5, m6, o9, pa, pb, pc, pd, pe⟩ := cells6 y.out; obtain ⟨m7, m8, m9, na, nb, nc, pf, pg, ph, pi, pj, pk⟩ := cells6 l.out))
              refine bodyPost_ret (results_ctt rfl _ _ x 24 #[.int .i64 F, .int .i64 P, .slice (some ⟨W, 0, none⟩) d.length ap, .int .i64 z, .bool X, .bool ab] (0, 0) _ rfl (by (with_reducible repeat apply pK); refine blk_put (cs := #[.int .i64 F, .int .i64 P, .slice (some ⟨W, 0, none⟩) d.length ap, .int .i64 z, .bool X, .bool T]) ?_ 5 _ (by first | rfl | (simp only [← U.out]; rfl) | (simp [← U.out]; done)); (with_reducible repeat apply pK); refine blk_put (cs := #[.int .i64 F, .int .i64 P, .slice (some ⟨W, 0, none⟩) d.length ap, .int .i64 z, .bool aa, .bool T]) ?_ 4 _ (by first | rfl | (simp only [← U.out]; rfl) | (simp [← U.out]; done)); (with_reducible repeat apply pK); refine blk_put (cs := #[.int .i64 F, .int .i64 P, .slice (some ⟨W, 0, none⟩) d.length ap, .int .i64 af, .bool aa, .bool T]) ?_ 3 _ (by first | rfl | (simp only [← U.out]; rfl) | (simp [← U.out]; done)); (with_reducible repeat apply pK); refine blk_put (cs := #[.int .i64 F, .int .i64 P, .slice none 0 0, .int .i64 af, .bool aa, .bool T]) ?_ 2 _ (by first | rfl | (simp only [← U.out]; rfl) | (simp [← U.out]; done)); (with_reducible repeat apply pK); refine blk_put (cs := #[.int .i64 F, .int .i64 au, .slice none 0 0, .int .i64 af, .bool aa, .bool T]) ?_ 1 _ (by first | rfl | (simp only [← U.out]; rfl) | (simp [← U.out]; done)); (with_reducible repeat apply pK); refine blk_put (cs := #[.int .i64 ay, .int .i64 au, .slice none 0 0, .int .i64 af, .bool aa, .bool T]) ?_ 0 _ (by first | rfl | (simp only [← U.out]; rfl) | (simp [← U.out]; done)); (with_reducible repeat apply pK); refine blk_far ?_ aw.out _; (with_reducible repeat apply pK); refine blk_far ?_ an.out _; (with_reducible repeat apply pK); refine blk_far ?_ an.out _; (with_reducible repeat apply pK); refine blk_far ?_ an.out _; (with_reducible repeat apply pK); refine blk_far ?_ an.out _; (with_reducible repeat apply pK); refine blk_far ?_ an.out _; (with_reducible repeat apply pK); refine blk_far ?_ an.out _; (with_reducible repeat apply pK); exact l.out) Tryd.underlying24 rfl (by kernel_rfl)) rfl ?_
              exact ⟨_, by first | rfl | (simp [errW_none, errW_some] <;> rfl) | (simp [*, errW_none, errW_some] <;> rfl), Kd.V_mono (Kd.R_V (by (with_reducible repeat apply pR); exact Kd.R_mono (Kd.R_far (p := ⟨x, 5, none⟩) (Kd.R_far (p := ⟨x, 4, none⟩) (Kd.R_far (p := ⟨x, 3, none⟩) (Kd.R_far (p := ⟨x, 2, none⟩) (Kd.R_far (p := ⟨x, 1, none⟩) (Kd.R_far (p := ⟨x, 0, none⟩) (Kd.R_far (p := ⟨Q, 3, none⟩) (Kd.R_far (p := ⟨ae, 5, none⟩) (Kd.R_far (p := ⟨ae, 4, none⟩) (Kd.R_far (p := ⟨ae, 3, none⟩) (Kd.R_far (p := ⟨ae, 2, none⟩) (Kd.R_far (p := ⟨ae, 1, none⟩) (Kd.R_far (p := ⟨ae, 0, none⟩) (Kd.R_types (Kd.R_types (Kd.R_mono HO_515002.out (fun k_ hk => (⟨hk, hk.2⟩ : _ ∧ k_ ≠ ae))) y.out (by decide)) l.out (by decide)) (fun _ hk => hk.1.1.2) (.bool false)) (fun _ hk => hk.1.1.2) (.bool ((rd_T35 D z).f1.f0))) (fun _ hk => hk.1.1.2) (.bool ((rd_T35 D z).f1.f1))) (fun _ hk => hk.1.1.2) (.int .i64 ((rd_T35 D z).f1.f2))) (fun _ hk => hk.1.1.2) (.bool ((rd_T35 D z).f1.f3))) (fun _ hk => hk.1.1.2) (.int .u8 ((rd_T35 D z).f2))) (fun _ hk => hk.1.2) (.int .i64 z)) (fun _ hk => hk.2) (.int .i64 F)) (fun _ hk => hk.2) (.int .i64 P)) (fun _ hk => hk.2) (.slice (some ⟨W, 0, none⟩) d.length ap)) (fun _ hk => hk.2) (.int .i64 z)) (fun _ hk => hk.2) (.bool X)) (fun _ hk => hk.2) (.bool ab)) (fun _ hk => hk.1.1.1.1))) (fun k_ hk => by first | exact ⟨(.inr (hk.1)), hk.2⟩ | exact (.inr (hk))), bl_⟩
            ·rw [if_neg g9] at H
             exact absurd H (by simp)
           ·rw [if_neg g8] at H
            exact absurd H (by simp)
          ·rw [if_neg g7] at H
           exact absurd H (by simp)
         ·rw [if_neg g6] at H
          exact absurd H (by simp)
   ·replace eF := Bool.eq_false_iff.mpr eF
    subst eF
    have H1 : ((shutterref14_Deny.f r s q a false u).bind fun ag => (some (ag.1, ag.2.1, ag.2.2.1, ag.2.2.2.1, ag.2.2.2.2.1, ag.2.2.2.2.2, 8, a))) = some (r1, r2, r3, r4, r5, r6, r7, r8) := by rw [if_neg (show ¬ (false = true) by decide)] at H; exact H
    clear H
    have H := H1
    clear H1
    replace H := Option.bind_eq_some_iff.mp H
    obtain ⟨⟨gL, gM, gN, gO, gP, gQ⟩, iW, H⟩ := H
    replace H : (some (gL, gM, gN, gO, gP, gQ, 8, a)) = some (r1, r2, r3, r4, r5, r6, r7, r8) := H
    have lo := Z iW
    clear iW
    simp only [Option.some.injEq, Prod.mk.injEq] at H
    obtain ⟨rfl, rfl, rfl, rfl, rfl, rfl, rfl, rfl⟩ := H
    go_enter Tryd.func33, Tryd.ntmps33
    go_wp2_with (first | ((with_reducible refine gate_dst (N := 2) rfl ?_); refine box_event ?hg (N := 2) ?hd (cs := #[.int .i64 r, .int .i64 s, .slice aq q.length am, .int .i64 a, .bool false, .bool u]) (t := 24) ?hr ?_; (case hd => rfl); (case hg => rfl); (case hr => first | (go_simp; done) | (go_simp; rfl)); intro Y hg tb hbox hb; have G := Z (ve B.out hg hb); have I := Z (below_step bl_ hb); have J := Z (hbox); have L := Z ((le_new hg (below_size bl_) : w.heap.size ≤ Y)); have ac := Z ((le_new hg (below_size bl_) : w.heap.size ≤ Y)); clear B HB; have B := G; have HB := I; have b := J; have gr := L; have fk := ac; clear G I J L ac; clear hb hbox hg) | ((with_reducible refine gate_dst (N := 4) rfl ?_); refine box_event ?hg (N := 4) ?hd (cs := #[.int .i64 0, .int .i64 0, .slice none 0 0, .int .i64 0, .bool false, .bool false]) (t := 24) ?hr ?_; (case hd => rfl); (case hg => rfl); (case hr => first | (go_simp; done) | (go_simp; rfl)); intro x hg eC hbox hb; have G := Z (ve B.out hg hb); have I := Z (kb b.out hb); have J := Z (below_step bl_ hb); have L := Z (hbox); have ac := Z ((le_new hg (below_size bl_) : w.heap.size ≤ x)); have ak := Z ((le_new hg (below_size bl_) : w.heap.size ≤ x)); have ar := Z (nl b.out hg); have aZ := Z (ng b.out hg); clear B b HB; have B := G; have b := I; have HB := J; have l := L; have gs := ac; have fl := ak; have ah := ar; have ai := aZ; clear G I J L ac ak ar aZ; clear hb hbox hg) | ((with_reducible refine gate_callee (f := 58) rfl ?_); refine goesL_ (some 17) rfl rfl Tryd.func58 (by kernel_rfl) rfl #[.int .u8 a1] rfl ag_ ?_; (with_reducible refine (shutterref09_Letter.calls a1 true _ A3.out).mono ?_); rintro e w' ⟨rfl, ⟨nd, rfl⟩⟩; refine ⟨_, rfl, ?_⟩; (try (rw [drewN_self eC]; generalize hq_ : World.drewN eC _ = eC; have G : Aside0 (Kd.V k35 35 eC w.heap.size (fun k_ => ((((aV k_ ∨ w.heap.size ≤ k_)) ∧ k_ ≠ Y) ∧ k_ ≠ x)) (.slice aq q.length am) q) := ⟨by rw [← hq_]; exact (by (with_reducible repeat apply pV); exact B.out)⟩; have I : Aside0 (eC.heap[Y]? = some (.cells #[.int .i64 r, .int .i64 s, .slice aq q.length am, .int .i64 a, .bool false, .bool u] 24 (0, 0))) := ⟨by rw [← hq_]; exact (by (with_reducible repeat apply pK); exact b.out)⟩; have J : Aside0 (eC.heap[x]? = some (.cells #[.int .i64 0, .int .i64 0, .slice none 0 0, .int .i64 0, .bool false, .bool false] 24 (0, 0))) := ⟨by rw [← hq_]; exact (by (with_reducible repeat apply pK); exact l.out)⟩; have L : Aside0 (Below w.heap.size w eC) := ⟨by rw [← hq_]; exact bl_⟩; clear B b l HB hq_; have B := G; have b := I; have l := J; have HB := L; clear G I J L)); have qN := ah.out; have ru := ai.out; obtain ⟨ne, nf, nh, ni, nj, nk, pl, pm, pn, po, pp, pq⟩ := cells6 b.out) | ((with_reducible refine gate_callee (f := 22) rfl ?_); refine goesL_ (some 27) rfl rfl Tryd.func22 (by kernel_rfl) rfl #[.agg #[.int .i64 r, .int .i64 s, .slice aq q.length am, .int .i64 a, .bool false, .bool u], .int .i64 a] rfl ag_ ?_; (with_reducible refine (shutterref11_Open.calls k r s _ _ q a false u a false _ ?side1 ?side2 la.out).mono ?_); (case side1 => repeat (first | exact (Kd.V_reads' B.out).2.2 | (with_reducible apply pC))); (case side2 => exact (Kd.V_reads' B.out).2.1); rintro e tc ⟨rfl, hb⟩; refine ⟨_, rfl, ?_⟩; have G := Z (vb B.out hb); have I := Z (kb b.out hb); have J := Z (kb l.out hb); have L := Z (below_step bl_ hb); clear B b l HB; have B := G; have b := I; have l := J; have HB := L; clear G I J L; (try clear hb); (try clear bl); (try clear hk); (try clear hi); obtain ⟨nm, nn, no, np, nq, nr, pr, ps, pt, pu, pv, pw⟩ := cells6 b.out) | ((with_reducible refine gate_callee (f := 40) rfl ?_); refine goesL_ (some 30) rfl rfl Tryd.func40 (by kernel_rfl) rfl #[.agg #[.int .i64 r, .int .i64 s, .slice aq q.length am, .int .i64 a, .bool false, .bool u]] rfl ag_ ?_; (with_reducible refine (shutterref14_Deny.calls r s _ _ q a false u gL gM gN gO gP gQ _ ?side1 ?side2 lo.out).mono ?_); (case side1 => repeat (first | exact (Kd.V_reads' B.out).2.2 | (with_reducible apply pC))); (case side2 => exact (Kd.V_reads' B.out).2.1); rintro e td ⟨sO, rfl, a6, hb⟩; refine ⟨_, rfl, ?_⟩; have G := Z (Kd.V_elder' (by (with_reducible repeat apply pV); exact B.out) (Kd.R_base a6) hb); have I := Z (Kd.R_lower (Kd.R_newM (M := fun k_ => (w.heap.size ≤ k_)) a6 (below_size bl_) (fun k_ h_ => h_)) (below_size bl_)); have J := Z (kb b.out hb); have L := Z (kb l.out hb); have ac := Z (below_step bl_ hb); clear B b l HB; have B := G; have iZ := I; have b := J; have l := L; have HB := ac; clear G I J L ac; (try clear hb); (try clear bl); (try clear hk); (try clear hi); (try clear a6); obtain ⟨ns, nt, nu, nv, nw, nx, px, py, pz, pA, pB, pD⟩ := cells6 l.out; obtain ⟨iY, jt, kU⟩ := Kd.R_slice iZ.out; subst kU))
    refine bodyPost_ret (results_ctt rfl _ _ x 24 #[.int .i64 gL, .int .i64 gM, .slice iY gN.length jt, .int .i64 gO, .bool gP, .bool gQ] (0, 0) _ rfl (put6 l.out) Tryd.underlying24 rfl (by kernel_rfl)) rfl ?_
    exact ⟨_, by first | rfl | (simp [errW_none, errW_some] <;> rfl) | (simp [*, errW_none, errW_some] <;> rfl), Kd.V_mono (Kd.R_V (by (with_reducible repeat apply pR); exact Kd.R_mono (Kd.R_far (p := ⟨x, 5, none⟩) (Kd.R_far (p := ⟨x, 4, none⟩) (Kd.R_far (p := ⟨x, 3, none⟩) (Kd.R_far (p := ⟨x, 2, none⟩) (Kd.R_far (p := ⟨x, 1, none⟩) (Kd.R_far (p := ⟨x, 0, none⟩) (Kd.R_types iZ.out l.out (by decide)) (fun _ hk => hk.2) (.int .i64 gL)) (fun _ hk => hk.2) (.int .i64 gM)) (fun _ hk => hk.2) (.slice iY gN.length jt)) (fun _ hk => hk.2) (.int .i64 gO)) (fun _ hk => hk.2) (.bool gP)) (fun _ hk => hk.2) (.bool gQ)) (fun _ hk => hk.1.1))) (fun k_ hk => by first | exact ⟨(.inr (hk.1)), hk.2⟩ | exact (.inr (hk))), bl_⟩
 ·replace c4 := Bool.eq_false_iff.mpr c4
  subst c4
  have H1 : (some (r, s, q, a, ao, u, 3, (-1))) = some (r1, r2, r3, r4, r5, r6, r7, r8) := by rw [if_neg (show ¬ (false = true) by decide)] at H; exact H
  clear H
  have H := H1
  clear H1
  simp only [Option.some.injEq, Prod.mk.injEq] at H
  obtain ⟨rfl, rfl, rfl, rfl, rfl, rfl, rfl, rfl⟩ := H
  go_enter Tryd.func33, Tryd.ntmps33
  go_wp2_with (first | ((with_reducible refine gate_dst (N := 2) rfl ?_); refine box_event ?hg (N := 2) ?hd (cs := #[.int .i64 r, .int .i64 s, .slice aq q.length am, .int .i64 a, .bool ao, .bool u]) (t := 24) ?hr ?_; (case hd => rfl); (case hg => rfl); (case hr => first | (go_simp; done) | (go_simp; rfl)); intro Y hg te hbox hb; have G := Z (ve B.out hg hb); have I := Z (below_step bl_ hb); have J := Z (hbox); have L := Z ((le_new hg (below_size bl_) : w.heap.size ≤ Y)); have ac := Z ((le_new hg (below_size bl_) : w.heap.size ≤ Y)); clear B HB; have B := G; have HB := I; have b := J; have gr := L; have fk := ac; clear G I J L ac; clear hb hbox hg) | ((with_reducible refine gate_dst (N := 4) rfl ?_); refine box_event ?hg (N := 4) ?hd (cs := #[.int .i64 0, .int .i64 0, .slice none 0 0, .int .i64 0, .bool false, .bool false]) (t := 24) ?hr ?_; (case hd => rfl); (case hg => rfl); (case hr => first | (go_simp; done) | (go_simp; rfl)); intro x hg eD hbox hb; have G := Z (ve B.out hg hb); have I := Z (kb b.out hb); have J := Z (below_step bl_ hb); have L := Z (hbox); have ac := Z ((le_new hg (below_size bl_) : w.heap.size ≤ x)); have ak := Z ((le_new hg (below_size bl_) : w.heap.size ≤ x)); have ar := Z (nl b.out hg); have aZ := Z (ng b.out hg); clear B b HB; have B := G; have b := I; have HB := J; have l := L; have gs := ac; have fl := ak; have ah := ar; have ai := aZ; clear G I J L ac ak ar aZ; clear hb hbox hg) | ((with_reducible refine gate_callee (f := 58) rfl ?_); refine goesL_ (some 17) rfl rfl Tryd.func58 (by kernel_rfl) rfl #[.int .u8 a1] rfl ag_ ?_; (with_reducible refine (shutterref09_Letter.calls a1 false _ A3.out).mono ?_); rintro e w' ⟨rfl, ⟨nd, rfl⟩⟩; refine ⟨_, rfl, ?_⟩; (try (rw [drewN_self eD]; generalize hq_ : World.drewN eD _ = eD; have G : Aside0 (Kd.V k35 35 eD w.heap.size (fun k_ => ((((aV k_ ∨ w.heap.size ≤ k_)) ∧ k_ ≠ Y) ∧ k_ ≠ x)) (.slice aq q.length am) q) := ⟨by rw [← hq_]; exact (by (with_reducible repeat apply pV); exact B.out)⟩; have I : Aside0 (eD.heap[Y]? = some (.cells #[.int .i64 r, .int .i64 s, .slice aq q.length am, .int .i64 a, .bool ao, .bool u] 24 (0, 0))) := ⟨by rw [← hq_]; exact (by (with_reducible repeat apply pK); exact b.out)⟩; have J : Aside0 (eD.heap[x]? = some (.cells #[.int .i64 0, .int .i64 0, .slice none 0 0, .int .i64 0, .bool false, .bool false] 24 (0, 0))) := ⟨by rw [← hq_]; exact (by (with_reducible repeat apply pK); exact l.out)⟩; have L : Aside0 (Below w.heap.size w eD) := ⟨by rw [← hq_]; exact bl_⟩; clear B b l HB hq_; have B := G; have b := I; have l := J; have HB := L; clear G I J L)); have qO := ah.out; have rv := ai.out; obtain ⟨ny, nz, nA, nB, nC, nD, pE, pF, pG, pH, pI, pJ⟩ := cells6 b.out; obtain ⟨nE, nF, nG, nH, nI, nJ, pL, pM, pN, pO, pP, pQ⟩ := cells6 l.out))
  refine bodyPost_ret (results_ctt rfl _ _ x 24 #[.int .i64 r, .int .i64 s, .slice aq q.length am, .int .i64 a, .bool ao, .bool u] (0, 0) _ rfl (put6 l.out) Tryd.underlying24 rfl (by kernel_rfl)) rfl ?_
  exact ⟨_, by first | rfl | (simp [errW_none, errW_some] <;> rfl) | (simp [*, errW_none, errW_some] <;> rfl), by (with_reducible repeat apply pV); exact Kd.V_mono (Kd.V_far (p := ⟨x, 5, none⟩) (Kd.V_far (p := ⟨x, 4, none⟩) (Kd.V_far (p := ⟨x, 3, none⟩) (Kd.V_far (p := ⟨x, 2, none⟩) (Kd.V_far (p := ⟨x, 1, none⟩) (Kd.V_far (p := ⟨x, 0, none⟩) (Kd.V_mono B.out (fun k_ hk => (⟨hk, hk.2⟩ : _ ∧ k_ ≠ x))) (fun _ hk => hk.2) (.int .i64 r)) (fun _ hk => hk.2) (.int .i64 s)) (fun _ hk => hk.2) (.slice aq q.length am)) (fun _ hk => hk.2) (.int .i64 a)) (fun _ hk => hk.2) (.bool ao)) (fun _ hk => hk.2) (.bool u)) (fun _ hk => hk.1.1.1), bl_⟩

end Go.Proofs.YtggecanpjkpkiaaDoor.P
