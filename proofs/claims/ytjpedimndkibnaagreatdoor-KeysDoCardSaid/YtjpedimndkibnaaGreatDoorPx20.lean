/- pp.py and press2.py (wip/tools) wrote this text. -/
import Derived.Test.YtjpedimndkibnaaGreatDoorPx0
import Derived.Test.YtjpedimndkibnaaGreatDoorPxS
import Derived.Test.YtjpedimndkibnaaGreatDoorPxT
import Derived.Test.YtjpedimndkibnaaGreatDoorPx18
import Derived.Test.YtjpedimndkibnaaGreatDoorPx19
namespace Go.Proofs.YtjpedimndkibnaaGreatDoor.P
open Go.RowKit Go.Proofs.YtjpedimndkibnaaGreatDoorW.PrintWords Go.Proofs.YtjpedimndkibnaaGreatDoorW.PrintLast Go.Proofs.YtjpedimndkibnaaGreatDoorW.PrintMore
attribute [local go_sem] max2_int min2_int max_two min_two max_three min_three max_four min_four
attribute [local go_sem] Instr.field asAgg
set_option linter.unusedVariables false
set_option linter.unusedSimpArgs false
set_option maxHeartbeats 8000000
set_option maxRecDepth 100000

/-! ### shutterref14_Type: function 39 -/
mutual
def shutterref14_Type.j0 : Nat → Int → Int → Bool → Int → Int → List (S55) → Int → Bool → Bool → Option (Int × Int × (List (S55)) × Int × Bool × Bool × Int × Int)
 | 0, _, _, _, _, _, _, _, _, _ => none
 | k + 1, m, l, n, c, d, e, g, h, b => if n = true then ((shutterref14_Deny.f c d e g h b).bind fun i => (some (i.1, i.2.1, i.2.2.1, i.2.2.2.1, i.2.2.2.2.1, i.2.2.2.2.2, 9, l))) else ((shutterref14_Modify.f k c d e g h b l).bind fun a => (if b = true then ((shutterref14_Line.f k c d e g h b l).bind fun j => (shutterref14_Type.l0 k m l j (-1) (wrap64 ((j.length : Int) - 1)) c d e g h b a.1 a.2.1 a.2.2.1 a.2.2.2.1 a.2.2.2.2.1 a.2.2.2.2.2)) else (shutterref14_Type.j3 k m l c d e g h b a.1 a.2.1 a.2.2.1 a.2.2.2.1 a.2.2.2.2.1 a.2.2.2.2.2)))
def shutterref14_Type.j3 : Nat → Int → Int → Int → Int → List (S55) → Int → Bool → Bool → Int → Int → List (S55) → Int → Bool → Bool → Option (Int × Int × (List (S55)) × Int × Bool × Bool × Int × Int)
 | 0, _, _, _, _, _, _, _, _, _, _, _, _, _, _ => none
 | k + 1, r, q, c, d, e, g, h, i, j, l, a, p, m, n => if 0 ≤ q then (if q < (a.length : Int) then ((some (a.set (q : Int).toNat (⟨(rd_T55 a q).f0, (⟨(rd_T55 a q).f1.f0, (rd_T55 a q).f1.f1, (rd_T55 a q).f1.f2, (rd_T55 a q).f1.f3⟩ : S53), r⟩ : S55) : List (S55))).bind fun o => ((shutterref10_Next.f c d e g h i q).bind fun b => (if 0 ≤ b then (if b < (a.length : Int) then (if (rd_T55 o b).f0 = true then (if (rd_T55 o b).f1.f0 = true then (shutterref14_Type.j4 k b (-1) ((rd_T55 o b).f1.f1) c d e g h i j l o p m n) else (shutterref14_Type.j4 k b (-1) false c d e g h i j l o p m n)) else (some (j, l, o, b, m, n, 0, (-1)))) else (none)) else (none)))) else (none)) else (none)
def shutterref14_Type.j4 : Nat → Int → Int → Bool → Int → Int → List (S55) → Int → Bool → Bool → Int → Int → List (S55) → Int → Bool → Bool → Option (Int × Int × (List (S55)) × Int × Bool × Bool × Int × Int)
 | 0, _, _, _, _, _, _, _, _, _, _, _, _, _, _, _ => none
 | k + 1, p, x15, s, g, h, i, j, l, m, a, b, c, n, d, e => if s = true then ((shutterref11_Next.f k a b c n d e p).bind fun o => (if o < 0 then ((shutterref10_Next.f g h i j l m p).bind fun q => (some (a, b, c, q, d, e, 0, (-1)))) else (some (a, b, c, o, d, e, 0, (-1))))) else (if x15 < 0 then ((shutterref10_Next.f g h i j l m p).bind fun r => (some (a, b, c, r, d, e, 0, (-1)))) else (some (a, b, c, x15, d, e, 0, (-1))))
def shutterref14_Type.l0 : Nat → Int → Int → List Int → Int → Int → Int → Int → List (S55) → Int → Bool → Bool → Int → Int → List (S55) → Int → Bool → Bool → Option (Int × Int × (List (S55)) × Int × Bool × Bool × Int × Int)
 | 0, _, _, _, _, _, _, _, _, _, _, _, _, _, _, _, _, _ => none
 | k + 1, r, q, p, x10, x11, c, d, a, e, g, h, i, j, l, m, n, o => if x11 ≥ 0 then (if 0 ≤ x11 then (if x11 < (p.length : Int) then (if 0 ≤ (rd p x11) then (if (rd p x11) < (a.length : Int) then (if ((rd_T55 a (rd p x11)).f2) = 0 then (shutterref14_Type.l0 k r q p x11 (wrap64 (x11 - 1)) c d a e g h i j l m n o) else (shutterref14_Type.l0 k r q p x10 (wrap64 (x11 - 1)) c d a e g h i j l m n o)) else (none)) else (none)) else (none)) else (none)) else (if x10 < 0 then ((shutterref14_Deny.f c d a e g h).bind fun b => (some (b.1, b.2.1, b.2.2.1, b.2.2.2.1, b.2.2.2.2.1, b.2.2.2.2.2, 10, q))) else (shutterref14_Type.l1 k r q p x10 1 c d a e g h i j l m n o))
def shutterref14_Type.l1 : Nat → Int → Int → List Int → Int → Int → Int → Int → List (S55) → Int → Bool → Bool → Int → Int → List (S55) → Int → Bool → Bool → Option (Int × Int × (List (S55)) × Int × Bool × Bool × Int × Int)
 | 0, _, _, _, _, _, _, _, _, _, _, _, _, _, _, _, _, _ => none
 | k + 1, o, p, c, x10, x12, d, e, b, f, g, h, i, j, a, l, m, n => if x12 ≤ x10 then (if 0 ≤ x12 then (if x12 < (c.length : Int) then (if 0 ≤ (wrap64 (x12 - 1)) then (if (wrap64 (x12 - 1)) < (c.length : Int) then (if 0 ≤ (rd c (wrap64 (x12 - 1))) then (if (rd c (wrap64 (x12 - 1))) < (b.length : Int) then (if 0 ≤ (rd c x12) then (if (rd c x12) < (a.length : Int) then (shutterref14_Type.l1 k o p c x10 (wrap64 (x12 + 1)) d e b f g h i j (a.set ((rd c x12) : Int).toNat (⟨(rd_T55 a (rd c x12)).f0, (⟨(rd_T55 a (rd c x12)).f1.f0, (rd_T55 a (rd c x12)).f1.f1, (rd_T55 a (rd c x12)).f1.f2, (rd_T55 a (rd c x12)).f1.f3⟩ : S53), (rd_T55 b (rd c (wrap64 (x12 - 1)))).f2⟩ : S55)) l m n) else (none)) else (none)) else (none)) else (none)) else (none)) else (none)) else (none)) else (none)) else (shutterref14_Type.j3 k o p d e b f g h i j a l m n)
end
def shutterref14_Type.f (k : Nat) (c d : Int) (g : List (S55)) (a : Int) (b e : Bool) (a1 : Int) : Option (Int × Int × (List (S55)) × Int × Bool × Bool × Int × Int) := (shutterref09_Letter.f a1).bind fun j => (if j = true then (if b = true then (some (c, d, g, a, b, e, 7, (-1))) else ((shutterref11_Open.f k c d g a b e a).bind fun l => (if l = true then ((shutterref11_Of.f k c d g a b e a).bind fun i => (if i.2.1 = true then ((shutterref14_Digit.f a1).bind fun m => (if m = true then (shutterref14_Type.j0 k a1 a false c d g a b e) else (if a1 = 28 then (shutterref14_Type.j0 k a1 a false c d g a b e) else (shutterref14_Type.j0 k a1 a (a1 != 30) c d g a b e)))) else (shutterref14_Type.j0 k a1 a false c d g a b e))) else ((shutterref14_Deny.f c d g a b e).bind fun h => (some (h.1, h.2.1, h.2.2.1, h.2.2.2.1, h.2.2.2.2.1, h.2.2.2.2.2, 8, a)))))) else (some (c, d, g, a, b, e, 3, (-1))))
theorem shutterref14_Type.mono_l : ∀ k, (∀ e f g i j l m n o, LeO (shutterref14_Type.j0 k e f g i j l m n o) (shutterref14_Type.j0 (k + 1) e f g i j l m n o)) ∧ (∀ e f g i j l m n o w a b c d, LeO (shutterref14_Type.j3 k e f g i j l m n o w a b c d) (shutterref14_Type.j3 (k + 1) e f g i j l m n o w a b c d)) ∧ (∀ e f g i j l m n o w a b c d p, LeO (shutterref14_Type.j4 k e f g i j l m n o w a b c d p) (shutterref14_Type.j4 (k + 1) e f g i j l m n o w a b c d p)) ∧ (∀ e f g i j l m n o w a b c d p x y, LeO (shutterref14_Type.l0 k e f g i j l m n o w a b c d p x y) (shutterref14_Type.l0 (k + 1) e f g i j l m n o w a b c d p x y)) ∧ (∀ e f g i j l m n o w a b c d p x y, LeO (shutterref14_Type.l1 k e f g i j l m n o w a b c d p x y) (shutterref14_Type.l1 (k + 1) e f g i j l m n o w a b c d p x y))
 | 0 => ⟨fun _ _ _ _ _ _ _ _ _ r h => by simp [shutterref14_Type.j0] at h, fun _ _ _ _ _ _ _ _ _ _ _ _ _ _ r h => by simp [shutterref14_Type.j3] at h, fun _ _ _ _ _ _ _ _ _ _ _ _ _ _ _ r h => by simp [shutterref14_Type.j4] at h, fun _ _ _ _ _ _ _ _ _ _ _ _ _ _ _ _ _ r h => by simp [shutterref14_Type.l0] at h, fun _ _ _ _ _ _ _ _ _ _ _ _ _ _ _ _ _ r h => by simp [shutterref14_Type.l1] at h⟩
 | k + 1 => by
  obtain ⟨q, s, t, u, v⟩ := shutterref14_Type.mono_l k
  refine ⟨?_, ?_, ?_, ?_, ?_⟩
  ·intro e f g i j l m n o
   unfold shutterref14_Type.j0
   repeat' first
   | (with_reducible exact q _ _ _ _ _ _ _ _ _)
   | (with_reducible exact s _ _ _ _ _ _ _ _ _ _ _ _ _ _)
   | (with_reducible exact t _ _ _ _ _ _ _ _ _ _ _ _ _ _ _)
   | (with_reducible exact u _ _ _ _ _ _ _ _ _ _ _ _ _ _ _ _ _)
   | (with_reducible exact v _ _ _ _ _ _ _ _ _ _ _ _ _ _ _ _ _)
   | (with_reducible exact shutterref11_Next.mono _ _ _ _ _ _ _ _)
   | (with_reducible exact shutterref11_Of.mono _ _ _ _ _ _ _ _)
   | (with_reducible exact shutterref11_Open.mono _ _ _ _ _ _ _ _)
   | (with_reducible exact shutterref14_Line.mono _ _ _ _ _ _ _ _)
   | (with_reducible exact shutterref14_Modify.mono _ _ _ _ _ _ _ _)
   | (with_reducible exact LeO.refl _)
   | (with_reducible exact LeO.none _)
   | (with_reducible refine LeO.ite ?_ ?_)
   | (with_reducible refine LeO.bind ?_ (fun _ => ?_))
   | exact q _ _ _ _ _ _ _ _ _
   | exact s _ _ _ _ _ _ _ _ _ _ _ _ _ _
   | exact t _ _ _ _ _ _ _ _ _ _ _ _ _ _ _
   | exact u _ _ _ _ _ _ _ _ _ _ _ _ _ _ _ _ _
   | exact v _ _ _ _ _ _ _ _ _ _ _ _ _ _ _ _ _
   | exact shutterref11_Next.mono _ _ _ _ _ _ _ _
   | exact shutterref11_Of.mono _ _ _ _ _ _ _ _
   | exact shutterref11_Open.mono _ _ _ _ _ _ _ _
   | exact shutterref14_Line.mono _ _ _ _ _ _ _ _
   | exact shutterref14_Modify.mono _ _ _ _ _ _ _ _
   | exact LeO.none _
   | refine LeO.ite ?_ ?_
   | refine LeO.bind ?_ (fun _ => ?_)
  ·intro e f g i j l m n o w a b c d
   unfold shutterref14_Type.j3
   repeat' first
   | (with_reducible exact q _ _ _ _ _ _ _ _ _)
   | (with_reducible exact s _ _ _ _ _ _ _ _ _ _ _ _ _ _)
   | (with_reducible exact t _ _ _ _ _ _ _ _ _ _ _ _ _ _ _)
   | (with_reducible exact u _ _ _ _ _ _ _ _ _ _ _ _ _ _ _ _ _)
   | (with_reducible exact v _ _ _ _ _ _ _ _ _ _ _ _ _ _ _ _ _)
   | (with_reducible exact shutterref11_Next.mono _ _ _ _ _ _ _ _)
   | (with_reducible exact shutterref11_Of.mono _ _ _ _ _ _ _ _)
   | (with_reducible exact shutterref11_Open.mono _ _ _ _ _ _ _ _)
   | (with_reducible exact shutterref14_Line.mono _ _ _ _ _ _ _ _)
   | (with_reducible exact shutterref14_Modify.mono _ _ _ _ _ _ _ _)
   | (with_reducible exact LeO.refl _)
   | (with_reducible exact LeO.none _)
   | (with_reducible refine LeO.ite ?_ ?_)
   | (with_reducible refine LeO.bind ?_ (fun _ => ?_))
   | exact q _ _ _ _ _ _ _ _ _
   | exact s _ _ _ _ _ _ _ _ _ _ _ _ _ _
   | exact t _ _ _ _ _ _ _ _ _ _ _ _ _ _ _
   | exact u _ _ _ _ _ _ _ _ _ _ _ _ _ _ _ _ _
   | exact v _ _ _ _ _ _ _ _ _ _ _ _ _ _ _ _ _
   | exact shutterref11_Next.mono _ _ _ _ _ _ _ _
   | exact shutterref11_Of.mono _ _ _ _ _ _ _ _
   | exact shutterref11_Open.mono _ _ _ _ _ _ _ _
   | exact shutterref14_Line.mono _ _ _ _ _ _ _ _
   | exact shutterref14_Modify.mono _ _ _ _ _ _ _ _
   | exact LeO.none _
   | refine LeO.ite ?_ ?_
   | refine LeO.bind ?_ (fun _ => ?_)
  ·intro e f g i j l m n o w a b c d p
   unfold shutterref14_Type.j4
   repeat' first
   | (with_reducible exact q _ _ _ _ _ _ _ _ _)
   | (with_reducible exact s _ _ _ _ _ _ _ _ _ _ _ _ _ _)
   | (with_reducible exact t _ _ _ _ _ _ _ _ _ _ _ _ _ _ _)
   | (with_reducible exact u _ _ _ _ _ _ _ _ _ _ _ _ _ _ _ _ _)
   | (with_reducible exact v _ _ _ _ _ _ _ _ _ _ _ _ _ _ _ _ _)
   | (with_reducible exact shutterref11_Next.mono _ _ _ _ _ _ _ _)
   | (with_reducible exact shutterref11_Of.mono _ _ _ _ _ _ _ _)
   | (with_reducible exact shutterref11_Open.mono _ _ _ _ _ _ _ _)
   | (with_reducible exact shutterref14_Line.mono _ _ _ _ _ _ _ _)
   | (with_reducible exact shutterref14_Modify.mono _ _ _ _ _ _ _ _)
   | (with_reducible exact LeO.refl _)
   | (with_reducible exact LeO.none _)
   | (with_reducible refine LeO.ite ?_ ?_)
   | (with_reducible refine LeO.bind ?_ (fun _ => ?_))
   | exact q _ _ _ _ _ _ _ _ _
   | exact s _ _ _ _ _ _ _ _ _ _ _ _ _ _
   | exact t _ _ _ _ _ _ _ _ _ _ _ _ _ _ _
   | exact u _ _ _ _ _ _ _ _ _ _ _ _ _ _ _ _ _
   | exact v _ _ _ _ _ _ _ _ _ _ _ _ _ _ _ _ _
   | exact shutterref11_Next.mono _ _ _ _ _ _ _ _
   | exact shutterref11_Of.mono _ _ _ _ _ _ _ _
   | exact shutterref11_Open.mono _ _ _ _ _ _ _ _
   | exact shutterref14_Line.mono _ _ _ _ _ _ _ _
   | exact shutterref14_Modify.mono _ _ _ _ _ _ _ _
   | exact LeO.none _
   | refine LeO.ite ?_ ?_
   | refine LeO.bind ?_ (fun _ => ?_)
  ·intro e f g i j l m n o w a b c d p x y
   unfold shutterref14_Type.l0
   repeat' first
   | (with_reducible exact q _ _ _ _ _ _ _ _ _)
   | (with_reducible exact s _ _ _ _ _ _ _ _ _ _ _ _ _ _)
   | (with_reducible exact t _ _ _ _ _ _ _ _ _ _ _ _ _ _ _)
   | (with_reducible exact u _ _ _ _ _ _ _ _ _ _ _ _ _ _ _ _ _)
   | (with_reducible exact v _ _ _ _ _ _ _ _ _ _ _ _ _ _ _ _ _)
   | (with_reducible exact shutterref11_Next.mono _ _ _ _ _ _ _ _)
   | (with_reducible exact shutterref11_Of.mono _ _ _ _ _ _ _ _)
   | (with_reducible exact shutterref11_Open.mono _ _ _ _ _ _ _ _)
   | (with_reducible exact shutterref14_Line.mono _ _ _ _ _ _ _ _)
   | (with_reducible exact shutterref14_Modify.mono _ _ _ _ _ _ _ _)
   | (with_reducible exact LeO.refl _)
   | (with_reducible exact LeO.none _)
   | (with_reducible refine LeO.ite ?_ ?_)
   | (with_reducible refine LeO.bind ?_ (fun _ => ?_))
   | exact q _ _ _ _ _ _ _ _ _
   | exact s _ _ _ _ _ _ _ _ _ _ _ _ _ _
   | exact t _ _ _ _ _ _ _ _ _ _ _ _ _ _ _
   | exact u _ _ _ _ _ _ _ _ _ _ _ _ _ _ _ _ _
   | exact v _ _ _ _ _ _ _ _ _ _ _ _ _ _ _ _ _
   | exact shutterref11_Next.mono _ _ _ _ _ _ _ _
   | exact shutterref11_Of.mono _ _ _ _ _ _ _ _
   | exact shutterref11_Open.mono _ _ _ _ _ _ _ _
   | exact shutterref14_Line.mono _ _ _ _ _ _ _ _
   | exact shutterref14_Modify.mono _ _ _ _ _ _ _ _
   | exact LeO.none _
   | refine LeO.ite ?_ ?_
   | refine LeO.bind ?_ (fun _ => ?_)
  ·intro e f g i j l m n o w a b c d p x y
   unfold shutterref14_Type.l1
   repeat' first
   | (with_reducible exact q _ _ _ _ _ _ _ _ _)
   | (with_reducible exact s _ _ _ _ _ _ _ _ _ _ _ _ _ _)
   | (with_reducible exact t _ _ _ _ _ _ _ _ _ _ _ _ _ _ _)
   | (with_reducible exact u _ _ _ _ _ _ _ _ _ _ _ _ _ _ _ _ _)
   | (with_reducible exact v _ _ _ _ _ _ _ _ _ _ _ _ _ _ _ _ _)
   | (with_reducible exact shutterref11_Next.mono _ _ _ _ _ _ _ _)
   | (with_reducible exact shutterref11_Of.mono _ _ _ _ _ _ _ _)
   | (with_reducible exact shutterref11_Open.mono _ _ _ _ _ _ _ _)
   | (with_reducible exact shutterref14_Line.mono _ _ _ _ _ _ _ _)
   | (with_reducible exact shutterref14_Modify.mono _ _ _ _ _ _ _ _)
   | (with_reducible exact LeO.refl _)
   | (with_reducible exact LeO.none _)
   | (with_reducible refine LeO.ite ?_ ?_)
   | (with_reducible refine LeO.bind ?_ (fun _ => ?_))
   | exact q _ _ _ _ _ _ _ _ _
   | exact s _ _ _ _ _ _ _ _ _ _ _ _ _ _
   | exact t _ _ _ _ _ _ _ _ _ _ _ _ _ _ _
   | exact u _ _ _ _ _ _ _ _ _ _ _ _ _ _ _ _ _
   | exact v _ _ _ _ _ _ _ _ _ _ _ _ _ _ _ _ _
   | exact shutterref11_Next.mono _ _ _ _ _ _ _ _
   | exact shutterref11_Of.mono _ _ _ _ _ _ _ _
   | exact shutterref11_Open.mono _ _ _ _ _ _ _ _
   | exact shutterref14_Line.mono _ _ _ _ _ _ _ _
   | exact shutterref14_Modify.mono _ _ _ _ _ _ _ _
   | exact LeO.none _
   | refine LeO.ite ?_ ?_
   | refine LeO.bind ?_ (fun _ => ?_)
theorem shutterref14_Type.mono : ∀ a0 a1 g h a4 i j k, LeO (shutterref14_Type.f k a0 a1 g h a4 i j) (shutterref14_Type.f (k + 1) a0 a1 g h a4 i j) := by
 intro a0 a1 g h a4 i j k
 obtain ⟨a, b, c, d, e⟩ := shutterref14_Type.mono_l k
 unfold shutterref14_Type.f
 repeat' first
   | (with_reducible exact a _ _ _ _ _ _ _ _ _)
   | (with_reducible exact b _ _ _ _ _ _ _ _ _ _ _ _ _ _)
   | (with_reducible exact c _ _ _ _ _ _ _ _ _ _ _ _ _ _ _)
   | (with_reducible exact d _ _ _ _ _ _ _ _ _ _ _ _ _ _ _ _ _)
   | (with_reducible exact e _ _ _ _ _ _ _ _ _ _ _ _ _ _ _ _ _)
   | (with_reducible exact shutterref11_Next.mono _ _ _ _ _ _ _ _)
   | (with_reducible exact shutterref11_Of.mono _ _ _ _ _ _ _ _)
   | (with_reducible exact shutterref11_Open.mono _ _ _ _ _ _ _ _)
   | (with_reducible exact shutterref14_Line.mono _ _ _ _ _ _ _ _)
   | (with_reducible exact shutterref14_Modify.mono _ _ _ _ _ _ _ _)
   | (with_reducible exact LeO.refl _)
   | (with_reducible exact LeO.none _)
   | (with_reducible refine LeO.ite ?_ ?_)
   | (with_reducible refine LeO.bind ?_ (fun _ => ?_))
   | exact a _ _ _ _ _ _ _ _ _
   | exact b _ _ _ _ _ _ _ _ _ _ _ _ _ _
   | exact c _ _ _ _ _ _ _ _ _ _ _ _ _ _ _
   | exact d _ _ _ _ _ _ _ _ _ _ _ _ _ _ _ _ _
   | exact e _ _ _ _ _ _ _ _ _ _ _ _ _ _ _ _ _
   | exact shutterref11_Next.mono _ _ _ _ _ _ _ _
   | exact shutterref11_Of.mono _ _ _ _ _ _ _ _
   | exact shutterref11_Open.mono _ _ _ _ _ _ _ _
   | exact shutterref14_Line.mono _ _ _ _ _ _ _ _
   | exact shutterref14_Modify.mono _ _ _ _ _ _ _ _
   | exact LeO.none _
   | refine LeO.ite ?_ ?_
   | refine LeO.bind ?_ (fun _ => ?_)
def shutterref14_Type.T17 : Bool × List (List Nat × List Nat) := (true, [([], []), ([0], [0]), ([], []), ([], []), ([2, 3], [2, 3]), ([4], [4]), ([1, 5], [1, 5]), ([6], [6]), ([7], [7]), ([8], [8])])
def shutterref14_Type.B17 : List Nat := [0, 1, 0, 0, 12, 28, 63, 127, 255, 511]
theorem shutterref14_Type.tab17 : rtab .any (opsOf Tryz.f39 17) = shutterref14_Type.T17 := by kernel_rfl
theorem shutterref14_Type.bits17 : waitsOk shutterref14_Type.T17.2 shutterref14_Type.B17 = true := by kernel_rfl
def shutterref14_Type.T24 : Bool × List (List Nat × List Nat) := (true, [([], []), ([0], [0]), ([], []), ([], []), ([2, 3], [2, 3]), ([4], [4]), ([], []), ([6], [6]), ([], []), ([], []), ([9], [9]), ([8, 10], [8, 10]), ([11], [11]), ([7, 12], [7, 12]), ([13], [13]), ([14], [14]), ([1, 5, 0, 1, 2, 3, 4, 5, 6, 7, 8, 9, 10, 11, 12, 13, 14, 15], [1, 5]), ([16, 0, 1, 2, 3, 4, 5, 6, 7, 8, 9, 10, 11, 12, 13, 14, 15], [16]), ([17, 15, 0, 1, 2, 3, 4, 5, 6, 7, 8, 9, 10, 11, 12, 13, 14, 15], [15, 17])])
def shutterref14_Type.B24 : List Nat := [0, 1, 0, 0, 12, 28, 0, 64, 0, 0, 512, 1792, 3840, 8128, 16320, 32704, 65535, 131071, 262143]
theorem shutterref14_Type.tab24 : rtab .any (opsOf Tryz.f39 24) = shutterref14_Type.T24 := by kernel_rfl
theorem shutterref14_Type.bits24 : waitsOk shutterref14_Type.T24.2 shutterref14_Type.B24 = true := by kernel_rfl
theorem shutterref14_Type.calls (k : Nat) (r s : Int) (aV : Nat → Prop) (aq : Option Addr) (am : Nat) (q : List (S55)) (a : Int) (ao u : Bool) (a1 r1 r2 : Int) (r3 : List (S55)) (r4 : Int) (r5 r6 : Bool) (r7 r8 : Int) (w : World) (kS : Kd.V k55 55 w w.heap.size (fun k_ => aV k_) (.slice aq q.length am) q) (h : shutterref14_Type.f k r s q a ao u a1 = some (r1, r2, r3, r4, r5, r6, r7, r8)) :
  Calls Tryz.prog 39 #[.agg #[.int .i64 r, .int .i64 s, .slice aq q.length am, .int .i64 a, .bool ao, .bool u], .int .u8 a1] w fun e w' => ∃ lj : Value, e = .returned (.tuple #[.agg #[.int .i64 r1, .int .i64 r2, lj, .int .i64 r4, .bool r5, .bool r6], .int .i64 r7, .int .i64 r8]) ∧ Kd.V k55 55 w' w.heap.size (fun k_ => (aV k_ ∨ w.heap.size ≤ k_)) lj r3 ∧ Below w.heap.size w w' := by
 have sF := Tryz.underlying24
 have sG := Tryz.underlying53
 have sH := Tryz.underlying55
 have B := Z (show Kd.V k55 55 w w.heap.size (fun k_ => (aV k_ ∨ w.heap.size ≤ k_)) (.slice aq q.length am) q from Kd.V_mono kS (fun k_ hk => .inl hk))
 have HB := Z (Below.refl w.heap.size w)
 unfold shutterref14_Type.f at h
 have H := h
 clear h
 replace H := bn_ H
 obtain ⟨gK, A3, H⟩ := H
 cases gK
 ·rw [iF_] at H
  obtain ⟨rfl, rfl, rfl, rfl, rfl, rfl, rfl, rfl⟩ := ij8_ H
  go_enter Tryz.func39, Tryz.ntmps39
  go_wp2_with (first | ((with_reducible refine gD_ 2 rfl ?_); refine bx_ 2 24 #[.int .i64 r, .int .i64 s, .slice aq q.length am, .int .i64 a, .bool ao, .bool u] ?_; intro Y hg tc hbox hb; replace B := ve' B hg hb; have b := Z hbox; have gr := ln' w hg; replace HB := bs_ hb; clear hb hbox hg) | ((with_reducible refine gD_ 4 rfl ?_); refine bx_ 4 24 zS_ ?_; intro x hg eD hbox hb; replace B := ve' B hg hb; have l := Z hbox; have gs := ln' w hg; replace HB := bs_ hb; have ah := nl' b hg; replace b := kb' b hb; clear hb hbox hg) | ((with_reducible refine gF_ 76 rfl ?_); refine gd_ (some 17) Tryz.func76 (shutterref09_Letter.calls a1 false _ A3.out) ?_; rintro e w' ⟨rfl, ⟨nd, rfl⟩⟩; refine ⟨_, rfl, ?_⟩; (try (rw [drewN_self eD]; generalize hq_ : World.drewN eD _ = eD; replace B := Z (qV hq_ B.out); replace b := Z (qM hq_ b.out); replace l := Z (qM hq_ l.out); replace HB := Z (qB hq_ HB.out); clear hq_)); have qN := ns_ ah; have nw := cells6 b.out; have nC := cells6 l.out))
  refine rc3_ (put6 l.out) Tryz.underlying24 ?_
  exact ⟨_, er_, by (with_reducible repeat apply pV); exact Kd.V_mono (f6V x (Kd.V_mono B.out (fun k_ hk => (⟨hk, hk.2⟩ : _ ∧ k_ ≠ x))) im_) im_, bl_⟩
 rw [if_pos rfl] at H
 by_cases c5 : ao = true
 ·subst c5
  rw [if_pos rfl] at H
  obtain ⟨rfl, rfl, rfl, rfl, rfl, rfl, rfl, rfl⟩ := ij8_ H
  go_enter Tryz.func39, Tryz.ntmps39
  go_wp2_with (first | ((with_reducible refine gD_ 2 rfl ?_); refine bx_ 2 24 #[.int .i64 r, .int .i64 s, .slice aq q.length am, .int .i64 a, .bool true, .bool u] ?_; intro Y hg w6 hbox hb; replace B := ve' B hg hb; have b := Z hbox; have gr := ln' w hg; replace HB := bs_ hb; clear hb hbox hg) | ((with_reducible refine gD_ 4 rfl ?_); refine bx_ 4 24 zS_ ?_; intro x hg w7 hbox hb; replace B := ve' B hg hb; have l := Z hbox; have gs := ln' w hg; replace HB := bs_ hb; have ah := nl' b hg; replace b := kb' b hb; clear hb hbox hg) | ((with_reducible refine gF_ 76 rfl ?_); refine gd_ (some 17) Tryz.func76 (shutterref09_Letter.calls a1 true _ A3.out) ?_; rintro e w' ⟨rfl, ⟨nd, rfl⟩⟩; refine ⟨_, rfl, ?_⟩; (try (rw [drewN_self w7]; generalize hq_ : World.drewN w7 _ = w7; replace B := Z (qV hq_ B.out); replace b := Z (qM hq_ b.out); replace l := Z (qM hq_ l.out); replace HB := Z (qB hq_ HB.out); clear hq_)); have sD := ns_ ah; have cM := cells6 b.out; have bw := cells6 l.out))
  refine rc3_ (put6 l.out) Tryz.underlying24 ?_
  exact ⟨_, er_, by (with_reducible repeat apply pV); exact Kd.V_mono (f6V x (Kd.V_mono B.out (fun k_ hk => (⟨hk, hk.2⟩ : _ ∧ k_ ≠ x))) im_) im_, bl_⟩
 replace c5 := Bool.eq_false_iff.mpr c5
 subst c5
 rw [iF_] at H
 replace H := bn_ H
 obtain ⟨bu, kV, H⟩ := H
 cases bu
 ·rw [iF_] at H
  replace H := bn_ H
  obtain ⟨⟨gL, gM, gN, gO, gP, gQ⟩, lm, H⟩ := H
  try dsimp only at H
  obtain ⟨rfl, rfl, rfl, rfl, rfl, rfl, rfl, rfl⟩ := ij8_ H
  go_enter Tryz.func39, Tryz.ntmps39
  go_wp2_with (first | ((with_reducible refine gD_ 2 rfl ?_); refine bx_ 2 24 #[.int .i64 r, .int .i64 s, .slice aq q.length am, .int .i64 a, .bool false, .bool u] ?_; intro Y hg sZ hbox hb; replace B := ve' B hg hb; have b := Z hbox; have gr := ln' w hg; replace HB := bs_ hb; clear hb hbox hg) | ((with_reducible refine gD_ 4 rfl ?_); refine bx_ 4 24 zS_ ?_; intro x hg eC hbox hb; replace B := ve' B hg hb; have l := Z hbox; have gs := ln' w hg; replace HB := bs_ hb; have ah := nl' b hg; replace b := kb' b hb; clear hb hbox hg) | ((with_reducible refine gF_ 76 rfl ?_); refine gd_ (some 17) Tryz.func76 (shutterref09_Letter.calls a1 true _ A3.out) ?_; rintro e w' ⟨rfl, ⟨nd, rfl⟩⟩; refine ⟨_, rfl, ?_⟩; (try (rw [drewN_self eC]; generalize hq_ : World.drewN eC _ = eC; replace B := Z (qV hq_ B.out); replace b := Z (qM hq_ b.out); replace l := Z (qM hq_ l.out); replace HB := Z (qB hq_ HB.out); clear hq_)); have qL := ns_ ah; have nb := cells6 b.out) | ((with_reducible refine gF_ 34 rfl ?_); refine gd_ (some 27) Tryz.func34 (shutterref11_Open.calls k r s _ _ q a false u a false _ (vC_ B) (vL_ B) kV.out) ?_; rintro e ta ⟨rfl, hb⟩; refine ⟨_, rfl, ?_⟩; replace B := vb' B hb; replace b := kb' b hb; replace l := kb' l hb; replace HB := bs_ hb; (try clear hb); (try clear hk); have nj := cells6 b.out) | ((with_reducible refine gF_ 77 rfl ?_); refine gd_ (some 30) Tryz.func77 (shutterref14_Deny.calls r s _ _ q a false u gL gM gN gO gP gQ _ (vC_ B) (vL_ B) lm.out) ?_; rintro e tb ⟨sL, rfl, a6, hb⟩; refine ⟨_, rfl, ?_⟩; replace B := Z (Kd.V_elder' (vV B.out) (Kd.R_base a6) hb); have iZ := Z (Kd.R_lower (Kd.R_newM (M := fun k_ => (w.heap.size ≤ k_)) a6 (below_size bl_) (fun k_ h_ => h_)) (below_size bl_)); replace b := kb' b hb; replace l := kb' l hb; replace HB := bs_ hb; (try clear hb); (try clear hk); (try clear a6); have nq := cells6 l.out; obtain ⟨iY, ju, kP⟩ := Kd.R_slice iZ.out; subst kP))
  refine rc3_ (put6 l.out) Tryz.underlying24 ?_
  exact ⟨_, er_, Kd.V_mono (Kd.R_V (by (with_reducible repeat apply pR); exact Kd.R_mono (f6R x (Kd.R_types iZ.out l.out (by decide)) im_) (fun _ hk => hk.1.1))) (fun k_ hk => by first | exact ⟨(.inr (hk.1)), hk.2⟩ | exact (.inr (hk))), bl_⟩
 rw [if_pos rfl] at H
 have hu := Z H
 clear H
 go_enter Tryz.func39, Tryz.ntmps39
 go_upto_region 8 with (first | ((with_reducible refine gD_ 2 rfl ?_); refine bx_ 2 24 #[.int .i64 r, .int .i64 s, .slice aq q.length am, .int .i64 a, .bool false, .bool u] ?_; intro Y hg tk hbox hb; replace B := ve' B hg hb; have b := Z hbox; have gr := ln' w hg; replace HB := bs_ hb; clear hb hbox hg) | ((with_reducible refine gD_ 4 rfl ?_); refine bx_ 4 24 zS_ ?_; intro x hg tl hbox hb; replace B := ve' B hg hb; have l := Z hbox; have gs := ln' w hg; replace HB := bs_ hb; have ah := nl' b hg; replace b := kb' b hb; clear hb hbox hg) | ((with_reducible refine gF_ 76 rfl ?_); refine gd_ (some 17) Tryz.func76 (shutterref09_Letter.calls a1 true _ A3.out) ?_; rintro e w' ⟨rfl, ⟨nd, rfl⟩⟩; refine ⟨_, rfl, ?_⟩; have rE := ns_ ah; have bD := cells6 b.out) | ((with_reducible refine gF_ 34 rfl ?_); refine gd_ (some 27) Tryz.func34 (shutterref11_Open.calls k r s _ _ q a false u a true _ (vC_ B) (vL_ B) kV.out) ?_; rintro e tm ⟨rfl, hb⟩; refine ⟨_, rfl, ?_⟩; replace B := vb' B hb; replace b := kb' b hb; replace l := kb' l hb; replace HB := bs_ hb; (try clear hb); (try clear hk)))
 (try simp only [Act.put, sA, sB, sC])
 go_cut [48] (fun rz wc => ∃ (kq : Nat) (eP : Bool), rz = .bool eP ∧ Aside0 (shutterref14_Type.j0 kq a1 a eP r s q a false u = some (r1, r2, r3, r4, r5, r6, r7, r8)) ∧ Aside0 (kq ≤ k) ∧ Aside0 (Kd.V k55 55 wc w.heap.size (fun k_ => (aV k_ ∨ w.heap.size ≤ k_) ∧ k_ ≠ Y ∧ k_ ≠ x) (.slice aq q.length am) q) ∧ Aside0 (wc.heap[Y]? = some (.cells #[.int .i64 r, .int .i64 s, (.slice aq q.length am), .int .i64 a, .bool false, .bool u] 24 (0, 0))) ∧ Aside0 (wc.heap[x]? = some (.cells zS_ 24 (0, 0))) ∧ Aside0 (Below w.heap.size w wc))
 case first =>
  have H := hu.out
  clear hu
  replace H := bn_ H
  obtain ⟨⟨gR, kz, gS, gT⟩, iX, H⟩ := H
  try dsimp only at H
  cases kz
  ·rw [iF_] at H
   have H' := Z H
   clear H
   have rI := ns_ ah
   have b1 := cells6 b.out
   go_wp2_with (first | ((with_reducible refine gF_ 64 rfl ?_); refine gd_ (some 34) Tryz.func64 (shutterref11_Of.calls k r s _ _ q a false u a gR false gS gT _ (vC_ B) (vL_ B) iX.out) ?_; rintro e tr ⟨rfl, hb⟩; refine ⟨_, rfl, ?_⟩; replace B := vb' B hb; replace b := kb' b hb; replace l := kb' l hb; replace HB := bs_ hb; (try clear hb); (try clear hk)))
   go_meet
   case rel => exact ⟨_, (false), (dn_), H', ⟨by first | omega | exact Nat.le_refl _⟩, ⟨by (with_reducible repeat apply pV); exact Kd.V_mono B.out im_⟩, ⟨vK b.out⟩, ⟨vK l.out⟩, ⟨bl_⟩⟩
  rw [if_pos rfl] at H
  replace H := bn_ H
  obtain ⟨aU, jM, H⟩ := H
  by_cases eH : aU = true
  ·subst eH
   rw [if_pos rfl] at H
   have H' := Z H
   clear H
   have rF := ns_ ah
   have bJ := cells6 b.out
   go_wp2_with (first | ((with_reducible refine gF_ 64 rfl ?_); refine gd_ (some 34) Tryz.func64 (shutterref11_Of.calls k r s _ _ q a false u a gR true gS gT _ (vC_ B) (vL_ B) iX.out) ?_; rintro e tn ⟨rfl, hb⟩; refine ⟨_, rfl, ?_⟩; replace B := vb' B hb; replace b := kb' b hb; replace l := kb' l hb; replace HB := bs_ hb; (try clear hb); (try clear hk)) | (go_at_call 78; (with_reducible refine (shutterref14_Digit.calls a1 true _ jM.out).mono ?_); rintro e w' ⟨rfl, ⟨nd, rfl⟩⟩))
   go_meet
   case rel => exact ⟨_, (false), (dn_), H', ⟨by first | omega | exact Nat.le_refl _⟩, ⟨by (with_reducible repeat apply pV); exact Kd.V_mono B.out im_⟩, ⟨vK b.out⟩, ⟨vK l.out⟩, ⟨bl_⟩⟩
  replace eH := Bool.eq_false_iff.mpr eH
  subst eH
  rw [iF_] at H
  by_cases cL : a1 = 28
  ·rw [if_pos cL] at H
   obtain ⟨bi, dc⟩ := eT_ cL
   clear cL
   (first | rw [bi] | (simp only [i64_w, i32_w]; rw [bi]) | skip)
   have H' := Z H
   clear H
   have rG := ns_ ah
   have bP := cells6 b.out
   go_wp2_with (first | ((with_reducible refine gF_ 64 rfl ?_); refine gd_ (some 34) Tryz.func64 (shutterref11_Of.calls k r s _ _ q a false u a gR true gS gT _ (vC_ B) (vL_ B) iX.out) ?_; rintro e tp ⟨rfl, hb⟩; refine ⟨_, rfl, ?_⟩; replace B := vb' B hb; replace b := kb' b hb; replace l := kb' l hb; replace HB := bs_ hb; (try clear hb); (try clear hk)) | (go_at_call 78; (with_reducible refine (shutterref14_Digit.calls a1 false _ jM.out).mono ?_); rintro e w' ⟨rfl, ⟨nd, rfl⟩⟩))
   go_meet
   case rel => exact ⟨_, (false), (dn_), H', ⟨by first | omega | exact Nat.le_refl _⟩, ⟨by (with_reducible repeat apply pV); exact Kd.V_mono B.out im_⟩, ⟨vK b.out⟩, ⟨vK l.out⟩, ⟨bl_⟩⟩
  rw [if_neg cL] at H
  obtain ⟨bi, dc⟩ := eF_ cL
  (first | rw [bi] | (simp only [i64_w, i32_w]; rw [bi]) | skip)
  have H' := Z H
  clear H
  have rH := ns_ ah
  have bV := cells6 b.out
  go_wp2_with (first | ((with_reducible refine gF_ 64 rfl ?_); refine gd_ (some 34) Tryz.func64 (shutterref11_Of.calls k r s _ _ q a false u a gR true gS gT _ (vC_ B) (vL_ B) iX.out) ?_; rintro e tq ⟨rfl, hb⟩; refine ⟨_, rfl, ?_⟩; replace B := vb' B hb; replace b := kb' b hb; replace l := kb' l hb; replace HB := bs_ hb; (try clear hb); (try clear hk)) | (go_at_call 78; (with_reducible refine (shutterref14_Digit.calls a1 false _ jM.out).mono ?_); rintro e w' ⟨rfl, ⟨nd, rfl⟩⟩))
  go_meet
  case rel => exact ⟨_, ((a1 != 30)), (dn_), H', ⟨by first | omega | exact Nat.le_refl _⟩, ⟨by (with_reducible repeat apply pV); exact Kd.V_mono B.out im_⟩, ⟨vK b.out⟩, ⟨vK l.out⟩, ⟨bl_⟩⟩
 clear hu
 try clear c4
 try clear c5
 try clear eF
 try clear bD
 obtain ⟨kq, eP, rfl, HA, bp, GA, b, l, HB⟩ := hcut
 cases kq with
 | zero => exact absurd HA.out (by simp [shutterref14_Type.j0])
 | succ a3 =>
  have H := HA.out
  clear HA
  simp only [shutterref14_Type.j0] at H
  by_cases ff : eP = true
  ·subst ff
   rw [if_pos rfl] at H
   replace H := bn_ H
   obtain ⟨⟨gU, gV, gW, gX, gY, gZ⟩, pU, H⟩ := H
   try dsimp only at H
   obtain ⟨rfl, rfl, rfl, rfl, rfl, rfl, rfl, rfl⟩ := ij8_ H
   have rJ := ns_ ah
   have dd := cells6 b.out
   go_wp2_with (first | ((with_reducible refine gF_ 77 rfl ?_); refine gd_ (some 50) Tryz.func77 (shutterref14_Deny.calls r s _ _ q a false u gU gV gW gX gY gZ _ (vC_ GA) (vL_ GA) pU.out) ?_; rintro e ts ⟨sN, rfl, a6, hb⟩; refine ⟨_, rfl, ?_⟩; replace GA := Z (Kd.V_elder' (vV GA.out) (Kd.R_base a6) hb); have ja := Z (Kd.R_lower (Kd.R_newM (M := fun k_ => (w.heap.size ≤ k_)) a6 (below_size bl_) (fun k_ h_ => h_)) (below_size bl_)); replace b := kb' b hb; replace l := kb' l hb; replace HB := bs_ hb; (try clear hb); (try clear hk); (try clear a6); have dj := cells6 l.out; obtain ⟨jT, kd, lu⟩ := Kd.R_slice ja.out; subst lu))
   refine rc3_ (put6 l.out) Tryz.underlying24 ?_
   exact ⟨_, er_, Kd.V_mono (Kd.R_V (by (with_reducible repeat apply pR); exact Kd.R_mono (f6R x (Kd.R_types ja.out l.out (by decide)) im_) (fun _ hk => hk.1.1))) (fun k_ hk => by first | exact ⟨(.inr (hk.1)), hk.2⟩ | exact (.inr (hk))), bl_⟩
  replace ff := Bool.eq_false_iff.mpr ff
  subst ff
  rw [iF_] at H
  replace H := bn_ H
  obtain ⟨⟨F, P, aI, al, X, ab⟩, pW, H⟩ := H
  try dsimp only at H
  have hv := Z H
  clear H
  have rK := ns_ ah
  have dq := cells6 b.out
  go_upto_if 56 with (first | ((with_reducible refine gF_ 79 rfl ?_); refine gd_ (some 54) Tryz.func79 (shutterref14_Modify.calls a3 r s _ _ q a false u a F P aI al X ab _ (vC_ GA) (vL_ GA) pW.out) ?_; rintro e tt ⟨sO, rfl, a6, hb⟩; refine ⟨_, rfl, ?_⟩; replace GA := Z (Kd.V_elder' (vV GA.out) (Kd.R_base a6) hb); have bm := Z (Kd.R_lower (Kd.R_newM (M := fun k_ => (w.heap.size ≤ k_)) a6 (below_size bl_) (fun k_ h_ => h_)) (below_size bl_)); replace b := kb' b hb; replace l := kb' l hb; replace HB := bs_ hb; (try clear hb); (try clear hk); (try clear a6)) | ((with_reducible refine gD_ 8 rfl ?_); refine bx_ 8 24 zS_ ?_; intro Q hg tu hbox hb; replace GA := ve' GA hg hb; replace bm := rb' bm hb; have y := Z hbox; have rA := ln' w hg; replace HB := bs_ hb; have az := nl' b hg; replace b := kb' b hb; have aw := nl' l hg; replace l := kb' l hb; clear hb hbox hg; have rL := ns_ az; have rM := ns_ aw; have dx := cells6 y.out; obtain ⟨bj, bk, lv⟩ := Kd.R_slice bm.out; subst lv; have dD := cells6 b.out))
  (try simp only [Act.put, sA, sB, sC])
  go_cut [] (fun wc => ∃ (kq : Nat) (O : List (S55)) (ay : Int) (au : Int) (af : Int) (aa : Bool) (T : Bool) (d : List (S55)) (GD : Value) (GE : Value), Aside0 (shutterref14_Type.j3 kq a1 a r s O a false u F P d al X ab = some (r1, r2, r3, r4, r5, r6, r7, r8)) ∧ Aside0 (kq ≤ a3) ∧ Aside0 (Kd.V k55 55 wc w.heap.size (fun k_ => (aV k_ ∨ w.heap.size ≤ k_) ∧ some k_ ≠ (GE : Value).ownBlock ∧ k_ ≠ Y ∧ k_ ≠ x ∧ k_ ≠ Q) GD O) ∧ Aside0 (Kd.R k55 55 wc w.heap.size (fun k_ => (w.heap.size ≤ k_)) GE d) ∧ Aside0 (wc.heap[Y]? = some (.cells #[.int .i64 r, .int .i64 s, GD, .int .i64 a, .bool false, .bool u] 24 (0, 0))) ∧ Aside0 (wc.heap[x]? = some (.cells #[.int .i64 ay, .int .i64 au, (.slice none 0 0), .int .i64 af, .bool aa, .bool T] 24 (0, 0))) ∧ Aside0 (wc.heap[Q]? = some (.cells #[.int .i64 F, .int .i64 P, GE, .int .i64 al, .bool X, .bool ab] 24 (0, 0))) ∧ Aside0 (Below w.heap.size w wc))
  case first =>
   have H := hv.out
   clear hv
   cases u
   ·rw [iF_] at H
    have H' := Z H
    clear H
    go_wp2
    go_meet
    case rel => exact ⟨_, (q), (0), (0), (0), (false), (false), (aI), (.slice aq q.length am), (.slice bj aI.length bk), H', ⟨by have := bp.out; first | omega | exact Nat.le_refl _⟩, ⟨by (with_reducible repeat apply pV); exact Kd.V_mono (f6V Q (Kd.V_mono GA.out (fun k_ hk => (⟨hk, hk.2⟩ : _ ∧ k_ ≠ Q))) im_) im_⟩, ⟨by (with_reducible repeat apply pR); exact Kd.R_mono (f6R Q (Kd.R_types bm.out y.out (by decide)) im_) im_⟩, ⟨blk_off b.out az.out off2_⟩, ⟨blk_off l.out aw.out off2_⟩, ⟨put6 y.out⟩, ⟨bl_⟩⟩
   rw [if_pos rfl] at H
   replace H := bn_ H
   obtain ⟨m, pX, H⟩ := H
   have H' := Z H
   clear H
   have rN := ns_ ah
   have rO := ns_ az
   have dJ := cells6 b.out
   go_wp2_with (first | ((with_reducible refine gF_ 80 rfl ?_); refine gd_ (some 59) Tryz.func80 (shutterref14_Line.calls a3 r s _ _ q a false true a m _ ?side1 (vL_ GA) pX.out) ?_; (case side1 => refine (Kd.V_reads' (e := 55) (base := w.heap.size) (ok := fun k_ => (((((aV k_ ∨ w.heap.size ≤ k_)) ∧ (k_ ≠ Y ∧ k_ ≠ x)) ∧ some k_ ≠ (.slice bj aI.length bk : Value).ownBlock) ∧ k_ ≠ Q)) (n := q.length) (c := am) ?_).2.2; exact (by (with_reducible repeat apply pV); exact (Kd.V_mono (f6V Q (Kd.V_mono GA.out (fun k_ hk => (⟨hk, hk.2⟩ : _ ∧ k_ ≠ Q))) (fun _ hk => hk.2)) (fun _ h_ => h_.1)))); rintro e tv ⟨sP, rfl, a6, hb⟩; refine ⟨_, rfl, ?_⟩; replace GA := Z (Kd.V_elder' (by (with_reducible repeat apply pV); exact (Kd.V_mono (f6V Q (Kd.V_mono GA.out (fun k_ hk => (⟨hk, hk.2⟩ : _ ∧ k_ ≠ Q))) (fun _ hk => hk.2)) (fun _ h_ => h_.1))) (Kd.R_base a6) hb); replace bm := Z (Kd.R_below (by (with_reducible repeat apply pR); exact (Kd.R_mono (f6R Q (Kd.R_types bm.out y.out (by decide)) (fun _ hk => hk.2)) (fun _ h_ => h_.1))) hb); have jb := Z (Kd.R_lower (Kd.R_newM (M := fun k_ => (w.heap.size ≤ k_)) a6 (below_size bl_) (fun k_ h_ => h_)) (below_size bl_)); replace b := Z (blk_below (g := Y) (o := .cells #[.int .i64 r, .int .i64 s, .slice aq q.length am, .int .i64 a, .bool false, .bool true] 24 (0, 0)) (blk_off b.out az.out off2_) hb); replace l := Z (blk_below (g := x) (o := .cells zS_ 24 (0, 0)) (blk_off l.out aw.out off2_) hb); replace y := Z (blk_below (g := Q) (o := .cells #[.int .i64 F, .int .i64 P, .slice bj aI.length bk, .int .i64 al, .bool X, .bool ab] 24 (0, 0)) (put6 y.out) hb); replace HB := bs_ hb; (try clear hb); (try clear hk); (try clear a6); obtain ⟨gq, gG, lw⟩ := Kd.R_slice jb.out; subst lw))
   go_loopg [10, 11] a3 (fun kq rv rx w' => ∃ (a2 : Int) (E : Int), rv = .int .i64 a2 ∧ rx = .int .i64 E ∧ Aside0 (shutterref14_Type.l0 kq a1 a m a2 E r s q a false true F P aI al X ab = some (r1, r2, r3, r4, r5, r6, r7, r8)) ∧ Aside0 (kq ≤ a3) ∧ Aside0 (Kd.R (Kd.int .i64) 3 w' w.heap.size (fun k_ => (w.heap.size ≤ k_)) (.slice gq m.length gG) m) ∧ Aside0 (Kd.V k55 55 w' w.heap.size (fun k_ => (aV k_ ∨ w.heap.size ≤ k_) ∧ some k_ ≠ ((.slice gq m.length gG) : Value).ownBlock ∧ some k_ ≠ ((.slice bj aI.length bk) : Value).ownBlock ∧ k_ ≠ Y ∧ k_ ≠ x ∧ k_ ≠ Q) (.slice aq q.length am) q) ∧ Aside0 (Kd.R k55 55 w' w.heap.size (fun k_ => (w.heap.size ≤ k_)) (.slice bj aI.length bk) aI) ∧ Aside0 (w'.heap[Y]? = some (.cells #[.int .i64 r, .int .i64 s, (.slice aq q.length am), .int .i64 a, .bool false, .bool true] 24 (0, 0))) ∧ Aside0 (w'.heap[x]? = some (.cells zS_ 24 (0, 0))) ∧ Aside0 (w'.heap[Q]? = some (.cells #[.int .i64 F, .int .i64 P, (.slice bj aI.length bk), .int .i64 al, .bool X, .bool ab] 24 (0, 0))) ∧ Aside0 (Below w.heap.size w w'))
   case atStart => exact ⟨((-1)), (wrap64 ((m.length : Int) - 1)), (dn_), (dn_), H', ⟨Nat.le_refl _⟩, ⟨by (with_reducible repeat apply pR); exact Kd.R_mono jb.out im_⟩, ⟨by (with_reducible repeat apply pV); exact Kd.V_mono GA.out im_⟩, ⟨by (with_reducible repeat apply pR); exact Kd.R_mono bm.out im_⟩, ⟨vK b.out⟩, ⟨vK l.out⟩, ⟨vK y.out⟩, ⟨bl_⟩⟩
   case round =>
    clear H'
    try clear c4
    try clear c5
    try clear eF
    try clear ff
    try clear fg
    try clear bD
    try clear dq
    try clear dx
    try clear dD
    try clear dJ
    obtain ⟨a2, E, rfl, rfl, HA, fs, GC, GA, GB, b, l, y, HB⟩ := hrel
    cases gk with
    | zero => exact absurd HA.out (by simp [shutterref14_Type.l0])
    | succ k2 =>
     have H := HA.out
     clear HA
     simp only [shutterref14_Type.l0] at H
     by_cases eI : E ≥ 0
     ·rw [if_pos eI] at H
      have bo : decide (0 ≤ E) = true := decide_eq_true eI
      clear eI
      (first | rw [bo] | (simp only [i64_w, i32_w]; rw [bo]) | skip)
      obtain ⟨fv, H⟩ := gt_ H
      have gB := decide_eq_true fv
      clear fv
      obtain ⟨fw, H⟩ := gt_ H
      have gC := decide_eq_true fw
      clear fw
      obtain ⟨fx, H⟩ := gt_ H
      have gD := decide_eq_true fx
      clear fx
      obtain ⟨fy, H⟩ := gt_ H
      have gE := decide_eq_true fy
      clear fy
      by_cases ey : ((rd_T55 q (rd m E)).f2) = 0
      ·rw [if_pos ey] at H
       obtain ⟨fn, fo⟩ := eT_ ey
       clear ey
       have H' := Z H
       clear H
       try go_wp2
       replace GC := Z (Kd.R_drew GC.out)
       replace GA := Z (Kd.V_drew GA.out)
       replace GB := Z (Kd.R_drew GB.out)
       replace b := Z (blk_drew b.out)
       replace l := Z (blk_drew l.out)
       replace y := Z (blk_drew y.out)
       replace HB := Z (below_drew1 HB.out)
       have bq : 0 ≤ (E : Int) := od_
       have bs : E < (m.length : Int) := od_
       obtain ⟨gw, hy, a7⟩ := Kd.at_int (Kd.R_reads' GC.out).2.2 E bq bs
       cases hy
       replace bq := eq_true bq
       replace bs := eq_true bs
       have br : 0 ≤ ((rd m E) : Int) := od_
       have bt : (rd m E) < (q.length : Int) := od_
       obtain ⟨av, hz, a8, a9, ba, bb, bc, bd⟩ := at_T55 (Kd.V_reads' GA.out).2.2 (rd m E) br bt
       cases hz
       replace br := eq_true br
       replace bt := eq_true bt
       refine start_ (n := 10) (S := fun w' => w'.cell? ⟨Y, 0, none⟩ = some (.int .i64 r) ∧ w'.cell? ⟨Y, 1, none⟩ = some (.int .i64 s) ∧ w'.cell? ⟨Y, 2, none⟩ = some (.slice (some av) q.length am) ∧ w'.cell? ⟨Y, 3, none⟩ = some (.int .i64 a) ∧ w'.cell? ⟨Y, 4, none⟩ = some (.bool false) ∧ w'.cell? ⟨Y, 5, none⟩ = some (.bool true) ∧ w'.cell? (gw.add (E).toNat) = some (.int .i64 (rd m E)) ∧ w'.cell? (av.add (((rd m E)).toNat * 6)) = some (.bool ((rd_T55 q (rd m E)).f0)) ∧ w'.cell? ⟨(av.add (((rd m E)).toNat * 6)).block, (av.add (((rd m E)).toNat * 6)).off + 1, none⟩ = some (.bool ((rd_T55 q (rd m E)).f1.f0)) ∧ w'.cell? ⟨(av.add (((rd m E)).toNat * 6)).block, (av.add (((rd m E)).toNat * 6)).off + 2, none⟩ = some (.bool ((rd_T55 q (rd m E)).f1.f1)) ∧ w'.cell? ⟨(av.add (((rd m E)).toNat * 6)).block, (av.add (((rd m E)).toNat * 6)).off + 3, none⟩ = some (.int .i64 ((rd_T55 q (rd m E)).f1.f2)) ∧ w'.cell? ⟨(av.add (((rd m E)).toNat * 6)).block, (av.add (((rd m E)).toNat * 6)).off + 4, none⟩ = some (.bool ((rd_T55 q (rd m E)).f1.f3)) ∧ w'.cell? ⟨(av.add (((rd m E)).toNat * 6)).block, (av.add (((rd m E)).toNat * 6)).off + 5, none⟩ = some (.int .u8 ((rd_T55 q (rd m E)).f2))) (ds := []) (bv 10 0) (by kernel_rfl) rfl rfl ⟨(blk_cell b.out 0).trans rfl, (blk_cell b.out 1).trans rfl, (blk_cell b.out 2).trans rfl, (blk_cell b.out 3).trans rfl, (blk_cell b.out 4).trans rfl, (blk_cell b.out 5).trans rfl, a7, a8, a9, ba, bb, bc, bd⟩ (fun hHeld => ?_); refine with_tabW shutterref14_Type.tab17 shutterref14_Type.bits17 (fun HT_ HW_ => ?_)
       generalize wr.drew = tw at GC GA GB b l y HB a7 a8 a9 ba bb bc bd hHeld ⊢
       refine pT_ HT_ 0 10 1 (some 67) ?_
       refine pT_ HT_ 2 10 5 (some 69) ?_
       refine pT_ HT_ 3 10 13 (some 70) ?_
       refine pT_ HT_ 4 10 29 (some 71) ?_
       refine tT_ HT_ HW_ hHeld 1 10 31 (some 68) ?_
       refine tT_ HT_ HW_ hHeld 5 10 63 (some 72) ?_
       refine pT_ HT_ 6 10 127 (some 73) ?_
       refine pT_ HT_ 7 10 255 (some 74) ?_
       refine tT_ HT_ HW_ hHeld 8 10 511 (some 75) ?_
       refine pT_ HT_ 9 10 1023 (some 76) ?_
       refine done_ (done_of HT_.out (by kernel_rfl)) ?_
       try go_wp2
       go_roundg k2
       case measure => have := bp.out; have := fs.out; omega
       case rel => exact ⟨(E), (wrap64 (E - 1)), (dn_), (dn_), H', ⟨by have := bp.out; have := fs.out; omega⟩, ⟨by (with_reducible repeat apply pR); exact GC.out⟩, ⟨vV GA.out⟩, ⟨by (with_reducible repeat apply pR); exact GB.out⟩, ⟨vK b.out⟩, ⟨vK l.out⟩, ⟨vK y.out⟩, ⟨bl_⟩⟩
      rw [if_neg ey] at H
      obtain ⟨fn, fo⟩ := eF_ ey
      have H' := Z H
      clear H
      try go_wp2
      replace GC := Z (Kd.R_drew GC.out)
      replace GA := Z (Kd.V_drew GA.out)
      replace GB := Z (Kd.R_drew GB.out)
      replace b := Z (blk_drew b.out)
      replace l := Z (blk_drew l.out)
      replace y := Z (blk_drew y.out)
      replace HB := Z (below_drew1 HB.out)
      have bq : 0 ≤ (E : Int) := od_
      have bs : E < (m.length : Int) := od_
      obtain ⟨gw, hy, a7⟩ := Kd.at_int (Kd.R_reads' GC.out).2.2 E bq bs
      cases hy
      replace bq := eq_true bq
      replace bs := eq_true bs
      have br : 0 ≤ ((rd m E) : Int) := od_
      have bt : (rd m E) < (q.length : Int) := od_
      obtain ⟨av, hz, a8, a9, ba, bb, bc, bd⟩ := at_T55 (Kd.V_reads' GA.out).2.2 (rd m E) br bt
      cases hz
      replace br := eq_true br
      replace bt := eq_true bt
      refine start_ (n := 10) (S := fun w' => w'.cell? ⟨Y, 0, none⟩ = some (.int .i64 r) ∧ w'.cell? ⟨Y, 1, none⟩ = some (.int .i64 s) ∧ w'.cell? ⟨Y, 2, none⟩ = some (.slice (some av) q.length am) ∧ w'.cell? ⟨Y, 3, none⟩ = some (.int .i64 a) ∧ w'.cell? ⟨Y, 4, none⟩ = some (.bool false) ∧ w'.cell? ⟨Y, 5, none⟩ = some (.bool true) ∧ w'.cell? (gw.add (E).toNat) = some (.int .i64 (rd m E)) ∧ w'.cell? (av.add (((rd m E)).toNat * 6)) = some (.bool ((rd_T55 q (rd m E)).f0)) ∧ w'.cell? ⟨(av.add (((rd m E)).toNat * 6)).block, (av.add (((rd m E)).toNat * 6)).off + 1, none⟩ = some (.bool ((rd_T55 q (rd m E)).f1.f0)) ∧ w'.cell? ⟨(av.add (((rd m E)).toNat * 6)).block, (av.add (((rd m E)).toNat * 6)).off + 2, none⟩ = some (.bool ((rd_T55 q (rd m E)).f1.f1)) ∧ w'.cell? ⟨(av.add (((rd m E)).toNat * 6)).block, (av.add (((rd m E)).toNat * 6)).off + 3, none⟩ = some (.int .i64 ((rd_T55 q (rd m E)).f1.f2)) ∧ w'.cell? ⟨(av.add (((rd m E)).toNat * 6)).block, (av.add (((rd m E)).toNat * 6)).off + 4, none⟩ = some (.bool ((rd_T55 q (rd m E)).f1.f3)) ∧ w'.cell? ⟨(av.add (((rd m E)).toNat * 6)).block, (av.add (((rd m E)).toNat * 6)).off + 5, none⟩ = some (.int .u8 ((rd_T55 q (rd m E)).f2))) (ds := []) (bv 10 0) (by kernel_rfl) rfl rfl ⟨(blk_cell b.out 0).trans rfl, (blk_cell b.out 1).trans rfl, (blk_cell b.out 2).trans rfl, (blk_cell b.out 3).trans rfl, (blk_cell b.out 4).trans rfl, (blk_cell b.out 5).trans rfl, a7, a8, a9, ba, bb, bc, bd⟩ (fun hHeld => ?_); refine with_tabW shutterref14_Type.tab17 shutterref14_Type.bits17 (fun HT_ HW_ => ?_)
      generalize wr.drew = tx at GC GA GB b l y HB a7 a8 a9 ba bb bc bd hHeld ⊢
      refine pT_ HT_ 0 10 1 (some 67) ?_
      refine pT_ HT_ 2 10 5 (some 69) ?_
      refine pT_ HT_ 3 10 13 (some 70) ?_
      refine pT_ HT_ 4 10 29 (some 71) ?_
      refine tT_ HT_ HW_ hHeld 1 10 31 (some 68) ?_
      refine tT_ HT_ HW_ hHeld 5 10 63 (some 72) ?_
      refine pT_ HT_ 6 10 127 (some 73) ?_
      refine pT_ HT_ 7 10 255 (some 74) ?_
      refine tT_ HT_ HW_ hHeld 8 10 511 (some 75) ?_
      refine pT_ HT_ 9 10 1023 (some 76) ?_
      refine done_ (done_of HT_.out (by kernel_rfl)) ?_
      try go_wp2
      go_roundg k2
      case measure => have := bp.out; have := fs.out; omega
      case rel => exact ⟨(a2), (wrap64 (E - 1)), (dn_), (dn_), H', ⟨by have := bp.out; have := fs.out; omega⟩, ⟨by (with_reducible repeat apply pR); exact GC.out⟩, ⟨vV GA.out⟩, ⟨by (with_reducible repeat apply pR); exact GB.out⟩, ⟨vK b.out⟩, ⟨vK l.out⟩, ⟨vK y.out⟩, ⟨bl_⟩⟩
     rw [if_neg eI] at H
     have bo : decide (0 ≤ E) = false := decide_eq_false eI
     clear eI
     (first | rw [bo] | (simp only [i64_w, i32_w]; rw [bo]) | skip)
     by_cases eJ : a2 < 0
     ·rw [if_pos eJ] at H
      have fp := decide_eq_true eJ
      clear eJ
      replace H := bn_ H
      obtain ⟨⟨g0, g1, g2, g3, g4, g5⟩, pY, H⟩ := H
      try dsimp only at H
      obtain ⟨rfl, rfl, rfl, rfl, rfl, rfl, rfl, rfl⟩ := ij8_ H
      have rP := ns_ ah
      have rQ := ns_ az
      have eR := cells6 b.out
      go_wp2_with (first | ((with_reducible refine gF_ 77 rfl ?_); refine gd_ (some 81) Tryz.func77 (shutterref14_Deny.calls r s _ _ q a false true g0 g1 g2 g3 g4 g5 _ (vC_ GA) (vL_ GA) pY.out) ?_; rintro e ty ⟨sQ, rfl, a6, hb⟩; refine ⟨_, rfl, ?_⟩; replace GC := rb' GC hb; replace GA := Z (Kd.V_elder' (vV GA.out) (Kd.R_base a6) hb); have jc := Z (Kd.R_lower (Kd.R_new' (Kd.R_newM (M := fun k_ => (w.heap.size ≤ k_)) a6 (below_size bl_) (fun k_ h_ => h_)) (Kd.R_lt (by (with_reducible repeat apply pR); exact GB.out))) (below_size bl_)); replace GB := Z (Kd.R_elder' (by (with_reducible repeat apply pR); exact GB.out) (Kd.R_base a6) hb); replace b := kb' b hb; replace l := kb' l hb; replace y := kb' y hb; replace HB := bs_ hb; (try clear hb); (try clear hk); (try clear a6); have rR := ns_ aw; have eX := cells6 l.out; obtain ⟨jU, ke, lx⟩ := Kd.R_slice jc.out; subst lx))
      refine rc3_ (put6 l.out) Tryz.underlying24 ?_
      exact ⟨_, er_, Kd.V_mono (Kd.R_V (by (with_reducible repeat apply pR); exact Kd.R_mono (f6R x (Kd.R_types jc.out l.out (by decide)) im_) (fun _ hk => hk.1.1.1))) (fun k_ hk => by first | exact ⟨(.inr (hk.1)), hk.2⟩ | exact (.inr (hk))), bl_⟩
     rw [if_neg eJ] at H
     have fp := decide_eq_false eJ
     clear eJ
     have H' := Z H
     clear H
     go_wp2
     go_loopg [12] k2 (fun kq ry w' => ∃ (A : Int) (ad : List (S55)) (C : List (S55)) (GD : Value) (GE : Value), ry = .int .i64 A ∧ Aside0 (shutterref14_Type.l1 kq a1 a m a2 A r s ad a false true F P C al X ab = some (r1, r2, r3, r4, r5, r6, r7, r8)) ∧ Aside0 (kq ≤ k2) ∧ Aside0 (Kd.R (Kd.int .i64) 3 w' w.heap.size (fun k_ => (w.heap.size ≤ k_)) (.slice gq m.length gG) m) ∧ Aside0 (Kd.V k55 55 w' w.heap.size (fun k_ => (aV k_ ∨ w.heap.size ≤ k_) ∧ some k_ ≠ ((.slice gq m.length gG) : Value).ownBlock ∧ some k_ ≠ (GE : Value).ownBlock ∧ k_ ≠ Y ∧ k_ ≠ x ∧ k_ ≠ Q) GD ad) ∧ Aside0 (Kd.R k55 55 w' w.heap.size (fun k_ => (w.heap.size ≤ k_)) GE C) ∧ Aside0 (w'.heap[Y]? = some (.cells #[.int .i64 r, .int .i64 s, GD, .int .i64 a, .bool false, .bool true] 24 (0, 0))) ∧ Aside0 (w'.heap[x]? = some (.cells zS_ 24 (0, 0))) ∧ Aside0 (w'.heap[Q]? = some (.cells #[.int .i64 F, .int .i64 P, GE, .int .i64 al, .bool X, .bool ab] 24 (0, 0))) ∧ Aside0 (Below w.heap.size w w'))
     case atStart => exact ⟨(1), (q), (aI), (.slice aq q.length am), (.slice bj aI.length bk), (dn_), H', ⟨Nat.le_refl _⟩, ⟨by (with_reducible repeat apply pR); exact GC.out⟩, ⟨vV GA.out⟩, ⟨by (with_reducible repeat apply pR); exact GB.out⟩, ⟨vK b.out⟩, ⟨vK l.out⟩, ⟨vK y.out⟩, ⟨bl_⟩⟩
     case round =>
      clear H'
      try clear c4
      try clear c5
      try clear eF
      try clear ff
      try clear fg
      try clear eI
      try clear bo
      try clear eJ
      try clear fp
      try clear bD
      try clear dq
      try clear dx
      try clear dD
      try clear dJ
      obtain ⟨A, ad, C, GD, GE, rfl, HA, jY, GC, GA, GB, b, l, y, HB⟩ := hrel
      cases gk with
      | zero => exact absurd HA.out (by simp [shutterref14_Type.l1])
      | succ k3 =>
       have H := HA.out
       clear HA
       simp only [shutterref14_Type.l1] at H
       by_cases fh : A ≤ a2
       rotate_left
       ·rw [if_neg fh] at H
        have gF := decide_eq_false fh
        clear fh
        have H' := Z H
        clear H
        go_wp2
        go_meet
        case rel => exact ⟨_, (ad), (0), (0), (0), (false), (false), (C), (GD), (GE), H', ⟨by have := bp.out; have := fs.out; have := jY.out; first | omega | exact Nat.le_refl _⟩, ⟨by (with_reducible repeat apply pV); exact Kd.V_mono GA.out im_⟩, ⟨by (with_reducible repeat apply pR); exact GB.out⟩, ⟨vK b.out⟩, ⟨vK l.out⟩, ⟨vK y.out⟩, ⟨bl_⟩⟩
       rw [if_pos fh] at H
       have gF := decide_eq_true fh
       clear fh
       obtain ⟨gg, H⟩ := gt_ H
       have jm := decide_eq_true gg
       clear gg
       obtain ⟨gh, H⟩ := gt_ H
       have jn := decide_eq_true gh
       clear gh
       obtain ⟨aj, gJ⟩ : ∃ j_ : Int, (wrap64 (A - 1)) = j_ := ⟨_, rfl⟩
       replace H : (if 0 ≤ (aj) then (if (aj) < (m.length : Int) then (if 0 ≤ (rd m (aj)) then (if (rd m (aj)) < (ad.length : Int) then (if 0 ≤ (rd m A) then (if (rd m A) < (C.length : Int) then (shutterref14_Type.l1 k3 a1 a m a2 (wrap64 (A + 1)) r s ad a false true F P (C.set ((rd m A) : Int).toNat (⟨(rd_T55 C (rd m A)).f0, (⟨(rd_T55 C (rd m A)).f1.f0, (rd_T55 C (rd m A)).f1.f1, (rd_T55 C (rd m A)).f1.f2, (rd_T55 C (rd m A)).f1.f3⟩ : S53), (rd_T55 ad (rd m (aj))).f2⟩ : S55)) al X ab) else (none)) else (none)) else (none)) else (none)) else (none)) else (none)) = some (r1, r2, r3, r4, r5, r6, r7, r8) := by first | (rw [gJ] at H; exact H) | (simp only [gJ] at H ⊢; exact H)
       have qa : (IntKind.i64.wrap (A - 1)) = aj := (i64_w _).trans gJ
       obtain ⟨gi, H⟩ := gt_ H
       have jo := decide_eq_true gi
       clear gi
       obtain ⟨gj, H⟩ := gt_ H
       have jp := decide_eq_true gj
       clear gj
       obtain ⟨gl, H⟩ := gt_ H
       have jq := decide_eq_true gl
       clear gl
       obtain ⟨gm, H⟩ := gt_ H
       have jr := decide_eq_true gm
       clear gm
       obtain ⟨gn, H⟩ := gt_ H
       have js := decide_eq_true gn
       clear gn
       obtain ⟨go, H⟩ := gt_ H
       have jt := decide_eq_true go
       clear go
       obtain ⟨kA, eL⟩ : ∃ y_ : List (S55), y_ = (C.set ((rd m A) : Int).toNat (⟨(rd_T55 C (rd m A)).f0, (⟨(rd_T55 C (rd m A)).f1.f0, (rd_T55 C (rd m A)).f1.f1, (rd_T55 C (rd m A)).f1.f2, (rd_T55 C (rd m A)).f1.f3⟩ : S53), (rd_T55 ad (rd m (aj))).f2⟩ : S55)) := ⟨_, rfl⟩
       replace H : (shutterref14_Type.l1 k3 a1 a m a2 (wrap64 (A + 1)) r s ad a false true F P kA al X ab) = some (r1, r2, r3, r4, r5, r6, r7, r8) := by first | (rw [eL]; with_reducible exact H) | (have fq := (Option.bind_some _ _).symm.trans H; rw [eL]; with_reducible exact fq) | (have fq := (Option.bind_some _ _).symm.trans H; with_reducible exact fq) | with_reducible exact H | (rw [eL]; exact H) | exact H
       have kG := Z eL
       clear eL
       have H' := Z H
       clear H
       try go_wp2
       replace GC := Z (Kd.R_drew GC.out)
       replace GA := Z (Kd.V_drew GA.out)
       replace GB := Z (Kd.R_drew GB.out)
       replace b := Z (blk_drew b.out)
       replace l := Z (blk_drew l.out)
       replace y := Z (blk_drew y.out)
       replace HB := Z (below_drew1 HB.out)
       have fO : 0 ≤ (A : Int) := od_
       have fS : A < (m.length : Int) := od_
       obtain ⟨gx, lr, ep⟩ := Kd.at_int (Kd.R_reads' GC.out).2.2 A fO fS
       cases lr
       replace fO := eq_true fO
       replace fS := eq_true fS
       have fP : 0 ≤ ((aj) : Int) := od_
       have fT : (aj) < (m.length : Int) := od_
       obtain ⟨kH, ls, eq⟩ := Kd.at_int (Kd.R_reads' GC.out).2.2 (aj) fP fT
       obtain rfl : gx = kH := (by injection ls)
       replace fP := eq_true fP
       replace fT := eq_true fT
       obtain ⟨sf, kg, ki⟩ := Kd.V_slice GA.out
       (first | subst ki | (injection ki with lc p3 ld; have p4 := lc.symm; have p5 := ld.symm; clear lc p3 ld; subst p4; subst p5))
       have fQ : 0 ≤ ((rd m (aj)) : Int) := od_
       have fU : (rd m (aj)) < (ad.length : Int) := od_
       obtain ⟨a0, lt, er, es, et, eu, ev, ew⟩ := at_T55 (Kd.V_reads' GA.out).2.2 (rd m (aj)) fQ fU
       cases lt
       replace fQ := eq_true fQ
       replace fU := eq_true fU
       have fR : 0 ≤ ((rd m A) : Int) := od_
       have fV : ((rd m A) : Int) < ((C.length : Int) : Int) := od_
       obtain ⟨aY, kf, kh, kj, ly, sw, jW⟩ := Kd.R_form GB.out (by omega)
       (first | cases kh | (injection kh with ea_ en_ ec_; (first | subst ea_ | (injection ea_ with ea_; subst ea_)); subst ec_; clear en_))
       have ln := Z kj
       have jV := Z jW
       clear kj ly jW
       obtain ⟨su, kQ, kk, cI, cJ⟩ := Kd.R_elem GB.out z55 ((rd m A) : Int) fR fV
       obtain rfl := k55_openM kk
       have fF : World.cell? _ ⟨aY, ((rd m A) : Int).toNat * 6, none⟩ = some (.bool ((rd_T55 C (rd m A)).f0)) := cI 0 _ rfl
       have fG : World.cell? _ ⟨aY, ((rd m A) : Int).toNat * 6 + 1, none⟩ = some (.bool ((rd_T55 C (rd m A)).f1.f0)) := cI 1 _ rfl
       have fH : World.cell? _ ⟨aY, ((rd m A) : Int).toNat * 6 + 2, none⟩ = some (.bool ((rd_T55 C (rd m A)).f1.f1)) := cI 2 _ rfl
       have fI : World.cell? _ ⟨aY, ((rd m A) : Int).toNat * 6 + 3, none⟩ = some (.int .i64 ((rd_T55 C (rd m A)).f1.f2)) := cI 3 _ rfl
       have fJ : World.cell? _ ⟨aY, ((rd m A) : Int).toNat * 6 + 4, none⟩ = some (.bool ((rd_T55 C (rd m A)).f1.f3)) := cI 4 _ rfl
       have fK : World.cell? _ ⟨aY, ((rd m A) : Int).toNat * 6 + 5, none⟩ = some (.int .u8 ((rd_T55 C (rd m A)).f2)) := cI 5 _ rfl
       have km : World.frozen? _ ⟨aY, ((rd m A) : Int).toNat * 6, none⟩ = false := cJ 0
       have kn : World.frozen? _ ⟨aY, ((rd m A) : Int).toNat * 6 + 1, none⟩ = false := cJ 1
       have ko : World.frozen? _ ⟨aY, ((rd m A) : Int).toNat * 6 + 2, none⟩ = false := cJ 2
       have kp : World.frozen? _ ⟨aY, ((rd m A) : Int).toNat * 6 + 3, none⟩ = false := cJ 3
       have kr : World.frozen? _ ⟨aY, ((rd m A) : Int).toNat * 6 + 4, none⟩ = false := cJ 4
       have ks : World.frozen? _ ⟨aY, ((rd m A) : Int).toNat * 6 + 5, none⟩ = false := cJ 5
       clear kQ cI cJ kk
       replace fR := eq_true fR
       replace fV := eq_true fV
       obtain ⟨sv, jy, kl, jx, kR⟩ := Kd.R_elem GB.out z55 ((rd m A) : Int) (od_) (by have h_ : ((rd m A) : Int) < ((C.length : Int) : Int) := od_; first | exact h_ | (have e_ := (Kd.R_reads' GB.out).1; omega) | simpa using h_)
       obtain rfl := k55_openM kl
       have hx := (Kd.R_seg GB.out ((rd m A) : Int) (od_) (by have h_ : ((rd m A) : Int) < ((C.length : Int) : Int) := od_; first | exact h_ | (have e_ := (Kd.R_reads' GB.out).1; omega) | simpa using h_) (seg := [.int .u8 ((rd_T55 ad (rd m (aj))).f2)]) (j := 5) jy jx (show 6 ≤ 6 from by decide) (x' := (⟨(rd_T55 C (rd m A)).f0, (⟨(rd_T55 C (rd m A)).f1.f0, (rd_T55 C (rd m A)).f1.f1, (rd_T55 C (rd m A)).f1.f2, (rd_T55 C (rd m A)).f1.f3⟩ : S53), (rd_T55 ad (rd m (aj))).f2⟩ : S55)) (k55_mkM _ _ _ (⟨(rd_T55 C (rd m A)).f0, (⟨(rd_T55 C (rd m A)).f1.f0, (rd_T55 C (rd m A)).f1.f1, (rd_T55 C (rd m A)).f1.f2, (rd_T55 C (rd m A)).f1.f3⟩ : S53), (rd_T55 ad (rd m (aj))).f2⟩ : S55) ) (fun _ hk => hk)).1
       rw [← kG.out] at hx
       have jZ := Z hx
       clear jy jx kR kl hx
       refine start_ (n := 19) (S := fun w' => w'.cell? ⟨Q, 0, none⟩ = some (.int .i64 F) ∧ w'.cell? ⟨Q, 1, none⟩ = some (.int .i64 P) ∧ w'.cell? ⟨Q, 2, none⟩ = some (.slice (some ⟨aY, 0, none⟩) C.length kf) ∧ w'.cell? ⟨Q, 3, none⟩ = some (.int .i64 al) ∧ w'.cell? ⟨Q, 4, none⟩ = some (.bool X) ∧ w'.cell? ⟨Q, 5, none⟩ = some (.bool ab) ∧ w'.cell? ⟨Y, 0, none⟩ = some (.int .i64 r) ∧ w'.cell? ⟨Y, 1, none⟩ = some (.int .i64 s) ∧ w'.cell? ⟨Y, 2, none⟩ = some (.slice (some a0) ad.length kg) ∧ w'.cell? ⟨Y, 3, none⟩ = some (.int .i64 a) ∧ w'.cell? ⟨Y, 4, none⟩ = some (.bool false) ∧ w'.cell? ⟨Y, 5, none⟩ = some (.bool true) ∧ w'.cell? (gx.add (A).toNat) = some (.int .i64 (rd m A)) ∧ w'.cell? (gx.add ((aj)).toNat) = some (.int .i64 (rd m (aj))) ∧ w'.cell? (a0.add (((rd m (aj))).toNat * 6)) = some (.bool ((rd_T55 ad (rd m (aj))).f0)) ∧ w'.cell? ⟨(a0.add (((rd m (aj))).toNat * 6)).block, (a0.add (((rd m (aj))).toNat * 6)).off + 1, none⟩ = some (.bool ((rd_T55 ad (rd m (aj))).f1.f0)) ∧ w'.cell? ⟨(a0.add (((rd m (aj))).toNat * 6)).block, (a0.add (((rd m (aj))).toNat * 6)).off + 2, none⟩ = some (.bool ((rd_T55 ad (rd m (aj))).f1.f1)) ∧ w'.cell? ⟨(a0.add (((rd m (aj))).toNat * 6)).block, (a0.add (((rd m (aj))).toNat * 6)).off + 3, none⟩ = some (.int .i64 ((rd_T55 ad (rd m (aj))).f1.f2)) ∧ w'.cell? ⟨(a0.add (((rd m (aj))).toNat * 6)).block, (a0.add (((rd m (aj))).toNat * 6)).off + 4, none⟩ = some (.bool ((rd_T55 ad (rd m (aj))).f1.f3)) ∧ w'.cell? ⟨(a0.add (((rd m (aj))).toNat * 6)).block, (a0.add (((rd m (aj))).toNat * 6)).off + 5, none⟩ = some (.int .u8 ((rd_T55 ad (rd m (aj))).f2))) (ds := [18]) (bv 19 0) (by kernel_rfl) rfl rfl ⟨(blk_cell y.out 0).trans rfl, (blk_cell y.out 1).trans rfl, (blk_cell y.out 2).trans rfl, (blk_cell y.out 3).trans rfl, (blk_cell y.out 4).trans rfl, (blk_cell y.out 5).trans rfl, (blk_cell b.out 0).trans rfl, (blk_cell b.out 1).trans rfl, (blk_cell b.out 2).trans rfl, (blk_cell b.out 3).trans rfl, (blk_cell b.out 4).trans rfl, (blk_cell b.out 5).trans rfl, ep, eq, er, es, et, eu, ev, ew⟩ (fun hHeld => ?_); refine with_tabW shutterref14_Type.tab24 shutterref14_Type.bits24 (fun HT_ HW_ => ?_)
       generalize wr.drew = tz at GC GA GB b l y HB jV jZ km kn ko kp kr ks ep eq er es et eu ev ew fF fG fH fI fJ fK hHeld ⊢
       refine pT_ HT_ 0 19 1 (some 88) ?_
       refine pT_ HT_ 2 19 5 (some 90) ?_
       refine pT_ HT_ 3 19 13 (some 91) ?_
       refine pT_ HT_ 4 19 29 (some 92) ?_
       refine pT_ HT_ 6 19 93 (some 94) ?_
       refine pT_ HT_ 8 19 349 (some 96) ?_
       refine pT_ HT_ 9 19 861 (some 97) ?_
       refine pT_ HT_ 10 19 1885 (some 98) ?_
       refine pT_ HT_ 11 19 3933 (some 99) ?_
       refine tT_ HT_ HW_ hHeld 1 19 3935 (some 89) ?_
       refine tT_ HT_ HW_ hHeld 5 19 3967 (some 93) ?_
       refine tT_ HT_ HW_ hHeld 7 19 4095 (some 95) ?_
       refine tT_ HT_ HW_ hHeld 12 19 8191 (some 100) ?_
       refine pT_ HT_ 13 19 16383 (some 101) ?_
       refine pT_ HT_ 14 19 32767 (some 102) ?_
       refine tT_ HT_ HW_ hHeld 15 19 65535 (some 103) ?_
       refine pT_ HT_ 16 19 131071 (some 104) ?_
       refine pT_ HT_ 17 19 262143 (some 105) ?_
       refine last_ (i := 18) (N := none) (bv 19 524287) rfl rfl (one_of HT_.out (by kernel_rfl)) (by decide) (fun K hK => ?_)
       refine skip_ (w1 := ?_) (by rfl) rfl ?_ ?_
       rotate_left
       ·go_simp
        rfl
       refine hK.out _ _ ?_
       clear hK K
       refine done_ (done_of HT_.out (by kernel_rfl)) ?_
       try go_wp2
       go_roundg k3
       case measure => have := bp.out; have := fs.out; have := jY.out; omega
       case rel => exact ⟨(wrap64 (A + 1)), (ad), (kA), (.slice (some a0) ad.length kg), (.slice (some ⟨aY, 0, none⟩) C.length kf), (dn_), H', ⟨by have := bp.out; have := fs.out; have := jY.out; omega⟩, ⟨by (with_reducible repeat apply pR); exact Kd.R_mono (Kd.R_far (p := ⟨aY, ((rd m A) : Int).toNat * 6 + 5, none⟩) (Kd.R_types GC.out jV.out (by decide)) im_ (.int .u8 ((rd_T55 ad (rd m (aj))).f2))) im_⟩, ⟨by (with_reducible repeat apply pV); exact Kd.V_mono (Kd.V_far (p := ⟨aY, ((rd m A) : Int).toNat * 6 + 5, none⟩) (Kd.V_mono GA.out (fun k_ hk => (⟨hk, fun e_ => hk.2.2.1 (by rw [e_]; rfl)⟩ : _ ∧ k_ ≠ aY))) im_ (.int .u8 ((rd_T55 ad (rd m (aj))).f2))) im_⟩, ⟨by (with_reducible repeat apply pR); exact jZ.out⟩, ⟨by (with_reducible repeat apply pK); refine blk_far ?_ (by have h_ := Kd.R_ne GB.out b.out (by decide); intro e_; exact h_ (by rw [e_]; rfl)) _; (with_reducible repeat apply pK); exact b.out⟩, ⟨by (with_reducible repeat apply pK); refine blk_far ?_ (by have h_ := Kd.R_ne GB.out l.out (by decide); intro e_; exact h_ (by rw [e_]; rfl)) _; (with_reducible repeat apply pK); exact l.out⟩, ⟨by (with_reducible repeat apply pK); refine blk_far ?_ (by have h_ := Kd.R_ne GB.out y.out (by decide); intro e_; exact h_ (by rw [e_]; rfl)) _; (with_reducible repeat apply pK); exact y.out⟩, ⟨by repeat (first | (with_reducible first | exact HB.out | apply below_alloc | apply pw_below_drewN | apply below_drew1 | refine below_set ?_ ln.out | refine below_set ?_ gr.out | refine below_set ?_ gs.out | refine below_set ?_ rA.out) | exact HB.out)⟩⟩
  clear hv
  try clear c4
  try clear c5
  try clear eF
  try clear ff
  try clear bD
  try clear dq
  try clear dx
  try clear dD
  obtain ⟨kq, O, ay, au, af, aa, T, d, GD, GE, HA, jX, GA, GB, b, l, y, HB⟩ := hcut
  cases kq with
  | zero => exact absurd HA.out (by simp [shutterref14_Type.j3])
  | succ bh =>
   have H := HA.out
   clear HA
   simp only [shutterref14_Type.j3] at H
   obtain ⟨g6, H⟩ := gt_ H
   have kI := decide_eq_true g6
   clear g6
   obtain ⟨g7, H⟩ := gt_ H
   have kJ := decide_eq_true g7
   clear g7
   obtain ⟨D, eM⟩ : ∃ y_ : List (S55), y_ = (d.set (a : Int).toNat (⟨(rd_T55 d a).f0, (⟨(rd_T55 d a).f1.f0, (rd_T55 d a).f1.f1, (rd_T55 d a).f1.f2, (rd_T55 d a).f1.f3⟩ : S53), a1⟩ : S55)) := ⟨_, rfl⟩
   replace H : ((shutterref10_Next.f r s O a false u a).bind fun z => (if 0 ≤ z then (if z < (d.length : Int) then (if (rd_T55 D z).f0 = true then (if (rd_T55 D z).f1.f0 = true then (shutterref14_Type.j4 bh z (-1) ((rd_T55 D z).f1.f1) r s O a false u F P D al X ab) else (shutterref14_Type.j4 bh z (-1) false r s O a false u F P D al X ab)) else (some (F, P, D, z, X, ab, 0, (-1)))) else (none)) else (none))) = some (r1, r2, r3, r4, r5, r6, r7, r8) := by first | (rw [eM]; with_reducible exact H) | (have fq := (Option.bind_some _ _).symm.trans H; rw [eM]; with_reducible exact fq) | (have fq := (Option.bind_some _ _).symm.trans H; with_reducible exact fq) | with_reducible exact H | (rw [eM]; exact H) | exact H
   have fm := Z eM
   clear eM
   replace H := bn_ H
   obtain ⟨z, kX, H⟩ := H
   obtain ⟨g8, H⟩ := gt_ H
   have kK := decide_eq_true g8
   clear g8
   obtain ⟨g9, H⟩ := gt_ H
   have kL := decide_eq_true g9
   clear g9
   obtain ⟨j1, gH⟩ : ∃ b_ : Bool, b_ = ((rd_T55 D z).f0) := ⟨_, rfl⟩
   replace H : (if j1 = true then (if (rd_T55 D z).f1.f0 = true then (shutterref14_Type.j4 bh z (-1) ((rd_T55 D z).f1.f1) r s O a false u F P D al X ab) else (shutterref14_Type.j4 bh z (-1) false r s O a false u F P D al X ab)) else (some (F, P, D, z, X, ab, 0, (-1)))) = some (r1, r2, r3, r4, r5, r6, r7, r8) := by rw [← gH] at H; exact H
   have U := Z gH
   clear gH
   cases j1
   ·rw [iF_] at H
    obtain ⟨rfl, rfl, rfl, rfl, rfl, rfl, rfl, rfl⟩ := ij8_ H
    have qF := ns_ az
    have qG := ns_ aw
    have mB := cells6 y.out
    have eN : 0 ≤ (a : Int) := od_
    have eO : (a : Int) < ((d.length : Int) : Int) := od_
    obtain ⟨W, ap, fz, fA, hB, lq, fr⟩ := Kd.R_form GB.out (by omega)
    (first | cases fz | (injection fz with ea_ en_ ec_; (first | subst ea_ | (injection ea_ with ea_; subst ea_)); subst ec_; clear en_))
    have ht := Z fA
    have lo := Z fr
    clear fA hB fr
    obtain ⟨lp, gI, fB, aO, aP⟩ := Kd.R_elem GB.out z55 (a : Int) eN eO
    obtain rfl := k55_openM fB
    have hj : wc.cell? ⟨W, (a : Int).toNat * 6, none⟩ = some (.bool ((rd_T55 d a).f0)) := aO 0 _ rfl
    have hl : wc.cell? ⟨W, (a : Int).toNat * 6 + 1, none⟩ = some (.bool ((rd_T55 d a).f1.f0)) := aO 1 _ rfl
    have hm : wc.cell? ⟨W, (a : Int).toNat * 6 + 2, none⟩ = some (.bool ((rd_T55 d a).f1.f1)) := aO 2 _ rfl
    have hp : wc.cell? ⟨W, (a : Int).toNat * 6 + 3, none⟩ = some (.int .i64 ((rd_T55 d a).f1.f2)) := aO 3 _ rfl
    have hq : wc.cell? ⟨W, (a : Int).toNat * 6 + 4, none⟩ = some (.bool ((rd_T55 d a).f1.f3)) := aO 4 _ rfl
    have hs : wc.cell? ⟨W, (a : Int).toNat * 6 + 5, none⟩ = some (.int .u8 ((rd_T55 d a).f2)) := aO 5 _ rfl
    have kt : wc.frozen? ⟨W, (a : Int).toNat * 6, none⟩ = false := aP 0
    have ku : wc.frozen? ⟨W, (a : Int).toNat * 6 + 1, none⟩ = false := aP 1
    have kv : wc.frozen? ⟨W, (a : Int).toNat * 6 + 2, none⟩ = false := aP 2
    have kw : wc.frozen? ⟨W, (a : Int).toNat * 6 + 3, none⟩ = false := aP 3
    have kx : wc.frozen? ⟨W, (a : Int).toNat * 6 + 4, none⟩ = false := aP 4
    have ky : wc.frozen? ⟨W, (a : Int).toNat * 6 + 5, none⟩ = false := aP 5
    clear gI aO aP fB
    replace eN := eq_true eN
    replace eO := eq_true eO
    have je := Z (show Kd.R k55 55 wc w.heap.size (fun k_ => (w.heap.size ≤ k_)) (.slice (some ⟨W, 0, none⟩) d.length ap) d from (by (with_reducible repeat apply pR); exact GB.out))
    obtain ⟨rC, he, jw, fE, hh⟩ := Kd.R_elem je.out z55 (a : Int) (od_) (by have h_ : (a : Int) < ((d.length : Int) : Int) := od_; first | exact h_ | (have e_ := (Kd.R_reads' GB.out).1; omega) | simpa using h_)
    obtain rfl := k55_openM jw
    have gv := Kd.R_seg je.out (a : Int) (od_) (by have h_ : (a : Int) < ((d.length : Int) : Int) := od_; first | exact h_ | (have e_ := (Kd.R_reads' GB.out).1; omega) | simpa using h_) (seg := [.int .u8 a1]) (j := 5) he fE (show 6 ≤ 6 from by decide) (x' := (⟨(rd_T55 d a).f0, (⟨(rd_T55 d a).f1.f0, (rd_T55 d a).f1.f1, (rd_T55 d a).f1.f2, (rd_T55 d a).f1.f3⟩ : S53), a1⟩ : S55)) (k55_mkM _ _ _ (⟨(rd_T55 d a).f0, (⟨(rd_T55 d a).f1.f0, (rd_T55 d a).f1.f1, (rd_T55 d a).f1.f2, (rd_T55 d a).f1.f3⟩ : S53), a1⟩ : S55) ) (fun _ hk => hk)
    have jI := fE 5 _ rfl
    (try simp only [show (k55).sz = 6 from rfl, Nat.mul_one, Nat.add_zero] at jI)
    have jH := hh 5
    (try simp only [show (k55).sz = 6 from rfl, Nat.mul_one, Nat.add_zero] at jH)
    clear he fE hh jw
    go_wp2_with (first | ((with_reducible refine gate_store (t := 5) (p := 111) rfl ?_); refine sx_ 5 111 (wc.setCell ⟨W, (a : Int).toNat * 6 + 5, none⟩ (.int .u8 a1)) ?_; intro iS hw; have hg : wc.grownBy iS (some W) := (by rw [hw]; exact gv.2); have hp_ : Kd.R k55 55 iS w.heap.size (fun k_ => (w.heap.size ≤ k_)) (.slice (some ⟨W, 0, none⟩) d.length ap) D := (by rw [hw, fm.out]; exact gv.1); clear gv; replace GA := Z (Kd.V_afterv (v := (.slice (some ⟨W, 0, none⟩) d.length ap)) (v1 := (.slice (some ⟨W, 0, none⟩) d.length ap)) (ok := (fun k_ => (aV k_ ∨ w.heap.size ≤ k_) ∧ k_ ≠ Y ∧ k_ ≠ x ∧ k_ ≠ Q)) (by (with_reducible repeat apply pV); exact Kd.V_mono GA.out (fun _ hk => ⟨⟨hk.1, ⟨hk.2.2.1, ⟨hk.2.2.2.1, hk.2.2.2.2⟩⟩⟩, hk.2.1⟩)) hg (.inl rfl)); replace b := gw_ ⟨vK b.out⟩ hg (Kd.R_ne GB.out b.out (by decide)); replace l := gw_ ⟨vK l.out⟩ hg (Kd.R_ne GB.out l.out (by decide)); replace y := gw_ ⟨vK y.out⟩ hg (Kd.R_ne GB.out y.out (by decide)); replace GB := Z (hp_); replace HB := Z ((by rw [hw]; exact below_set (HB.out) ht.out : Below w.heap.size w iS)); clear hg hw hp_; have qH := ns_ ah; have mH := cells6 b.out; obtain ⟨kC, kM, kO⟩ := Kd.V_slice GA.out; subst kO) | ((with_reducible refine gF_ 81 rfl ?_); refine gd_ (some 114) Tryz.func81 (shutterref10_Next.calls r s _ _ O a false u a z _ (vC_ GA) (vL_ GA) kX.out) ?_; rintro e sX ⟨rfl, hb⟩; refine ⟨_, rfl, ?_⟩; replace GA := vb' GA hb; replace GB := rb' GB hb; replace b := kb' b hb; replace l := kb' l hb; replace y := kb' y hb; replace HB := bs_ hb; (try clear hb); (try clear hk); have mN := cells6 y.out; have c0 : 0 ≤ (z : Int) := od_; have da : z < (D.length : Int) := (by have h_ : (z : Int) < ((d.length : Int) : Int) := od_; first | (have e_ := (Kd.R_reads' GB.out).1; omega) | simpa only [fm.out, List.length_set] using h_); have kU : ((z : Int) < ((d.length : Int) : Int)) = True := eq_true (od_); obtain ⟨gy, hA, aQ, aR, aS, be, aT, bf⟩ := at_T55 (Kd.R_reads' GB.out).2.2 z c0 da; (try rw [← U.out] at aQ); (try rw [← U.out] at aR); (try rw [← U.out] at aS); (try rw [← U.out] at aT); obtain rfl : (⟨W, 0, none⟩ : Addr) = gy := (by injection hA); (first | simp only [add_plain] at aQ | simp only [add_at] at aQ | simp only [Addr.add, Nat.zero_add] at aQ | skip); (first | simp only [add_plain] at aR | simp only [add_at] at aR | simp only [Addr.add, Nat.zero_add] at aR | skip); (first | simp only [add_plain] at aS | simp only [add_at] at aS | simp only [Addr.add, Nat.zero_add] at aS | skip); (first | simp only [add_plain] at be | simp only [add_at] at be | simp only [Addr.add, Nat.zero_add] at be | skip); (first | simp only [add_plain] at aT | simp only [add_at] at aT | simp only [Addr.add, Nat.zero_add] at aT | skip); (first | simp only [add_plain] at bf | simp only [add_at] at bf | simp only [Addr.add, Nat.zero_add] at bf | skip); replace c0 := eq_true c0; replace da := eq_true da) | ((with_reducible refine gD_ 14 rfl ?_); refine bx_ 14 55 #[.bool false, .bool false, .bool false, .int .i64 0, .bool false, .int .u8 0] ?_; intro ae hg sY hbox hb; replace GA := ve' GA hg hb; replace GB := Z (Kd.R_below (Kd.R_elderB (by (with_reducible repeat apply pR); exact GB.out) ae (Nat.le_of_eq hg.symm)) hb); have ax := Z hbox; have kF := ln' w hg; replace HB := bs_ hb; have aJ := nl' b hg; replace b := kb' b hb; have an := nl' l hg; replace l := kb' l hb; have aA := nl' y hg; replace y := kb' y hb; clear hb hbox hg; have qI := ns_ aJ; have qJ := ns_ an; have qK := ns_ aA; have mT := cells6 ax.out; have mZ := cells6 y.out; have m5 := cells6 l.out))
    refine bodyPost_ret (results_ctt rfl _ _ x 24 #[.int .i64 F, .int .i64 P, .slice (some ⟨W, 0, none⟩) d.length ap, .int .i64 z, .bool X, .bool ab] (0, 0) _ rfl (by (with_reducible repeat apply pK); refine blk_put (cs := #[.int .i64 F, .int .i64 P, .slice (some ⟨W, 0, none⟩) d.length ap, .int .i64 z, .bool X, .bool T]) ?_ 5 _ (by first | rfl | (simp only [← U.out]; rfl) | (simp [← U.out]; done)); (with_reducible repeat apply pK); refine blk_put (cs := #[.int .i64 F, .int .i64 P, .slice (some ⟨W, 0, none⟩) d.length ap, .int .i64 z, .bool aa, .bool T]) ?_ 4 _ (by first | rfl | (simp only [← U.out]; rfl) | (simp [← U.out]; done)); (with_reducible repeat apply pK); refine blk_put (cs := #[.int .i64 F, .int .i64 P, .slice (some ⟨W, 0, none⟩) d.length ap, .int .i64 af, .bool aa, .bool T]) ?_ 3 _ (by first | rfl | (simp only [← U.out]; rfl) | (simp [← U.out]; done)); (with_reducible repeat apply pK); refine blk_put (cs := #[.int .i64 F, .int .i64 P, .slice none 0 0, .int .i64 af, .bool aa, .bool T]) ?_ 2 _ (by first | rfl | (simp only [← U.out]; rfl) | (simp [← U.out]; done)); (with_reducible repeat apply pK); refine blk_put (cs := #[.int .i64 F, .int .i64 au, .slice none 0 0, .int .i64 af, .bool aa, .bool T]) ?_ 1 _ (by first | rfl | (simp only [← U.out]; rfl) | (simp [← U.out]; done)); (with_reducible repeat apply pK); refine blk_put (cs := #[.int .i64 ay, .int .i64 au, .slice none 0 0, .int .i64 af, .bool aa, .bool T]) ?_ 0 _ (by first | rfl | (simp only [← U.out]; rfl) | (simp [← U.out]; done)); (with_reducible repeat apply pK); refine blk_far ?_ aw.out _; (with_reducible repeat apply pK); refine blk_far ?_ an.out _; (with_reducible repeat apply pK); refine blk_far ?_ an.out _; (with_reducible repeat apply pK); refine blk_far ?_ an.out _; (with_reducible repeat apply pK); refine blk_far ?_ an.out _; (with_reducible repeat apply pK); refine blk_far ?_ an.out _; (with_reducible repeat apply pK); refine blk_far ?_ an.out _; (with_reducible repeat apply pK); exact l.out) Tryz.underlying24 rfl (by kernel_rfl)) rfl ?_
    exact ⟨_, er_, Kd.V_mono (Kd.R_V (by (with_reducible repeat apply pR); exact Kd.R_mono (f6R x (Kd.R_far (p := ⟨Q, 3, none⟩) (f6R ae (Kd.R_types (Kd.R_types (Kd.R_mono GB.out (fun k_ hk => (⟨hk, hk.2⟩ : _ ∧ k_ ≠ ae))) y.out (by decide)) l.out (by decide)) im_) im_ (.int .i64 z)) im_) (fun _ hk => hk.1.1.1.1))) (fun k_ hk => by first | exact ⟨(.inr (hk.1)), hk.2⟩ | exact (.inr (hk))), bl_⟩
   rw [if_pos rfl] at H
   have gt := Z H
   clear H
   have qb := ns_ az
   have qc := ns_ aw
   have hC := cells6 y.out
   have eN : 0 ≤ (a : Int) := od_
   have eO : (a : Int) < ((d.length : Int) : Int) := od_
   obtain ⟨W, ap, fz, fA, hB, lq, fr⟩ := Kd.R_form GB.out (by omega)
   (first | cases fz | (injection fz with ea_ en_ ec_; (first | subst ea_ | (injection ea_ with ea_; subst ea_)); subst ec_; clear en_))
   have ht := Z fA
   have lo := Z fr
   clear fA hB fr
   obtain ⟨lp, gI, fB, aO, aP⟩ := Kd.R_elem GB.out z55 (a : Int) eN eO
   obtain rfl := k55_openM fB
   have hj : wc.cell? ⟨W, (a : Int).toNat * 6, none⟩ = some (.bool ((rd_T55 d a).f0)) := aO 0 _ rfl
   have hl : wc.cell? ⟨W, (a : Int).toNat * 6 + 1, none⟩ = some (.bool ((rd_T55 d a).f1.f0)) := aO 1 _ rfl
   have hm : wc.cell? ⟨W, (a : Int).toNat * 6 + 2, none⟩ = some (.bool ((rd_T55 d a).f1.f1)) := aO 2 _ rfl
   have hp : wc.cell? ⟨W, (a : Int).toNat * 6 + 3, none⟩ = some (.int .i64 ((rd_T55 d a).f1.f2)) := aO 3 _ rfl
   have hq : wc.cell? ⟨W, (a : Int).toNat * 6 + 4, none⟩ = some (.bool ((rd_T55 d a).f1.f3)) := aO 4 _ rfl
   have hs : wc.cell? ⟨W, (a : Int).toNat * 6 + 5, none⟩ = some (.int .u8 ((rd_T55 d a).f2)) := aO 5 _ rfl
   have kt : wc.frozen? ⟨W, (a : Int).toNat * 6, none⟩ = false := aP 0
   have ku : wc.frozen? ⟨W, (a : Int).toNat * 6 + 1, none⟩ = false := aP 1
   have kv : wc.frozen? ⟨W, (a : Int).toNat * 6 + 2, none⟩ = false := aP 2
   have kw : wc.frozen? ⟨W, (a : Int).toNat * 6 + 3, none⟩ = false := aP 3
   have kx : wc.frozen? ⟨W, (a : Int).toNat * 6 + 4, none⟩ = false := aP 4
   have ky : wc.frozen? ⟨W, (a : Int).toNat * 6 + 5, none⟩ = false := aP 5
   clear gI aO aP fB
   replace eN := eq_true eN
   replace eO := eq_true eO
   have jd := Z (show Kd.R k55 55 wc w.heap.size (fun k_ => (w.heap.size ≤ k_)) (.slice (some ⟨W, 0, none⟩) d.length ap) d from (by (with_reducible repeat apply pR); exact GB.out))
   obtain ⟨rB, hc, jv, fD, hf⟩ := Kd.R_elem jd.out z55 (a : Int) (od_) (by have h_ : (a : Int) < ((d.length : Int) : Int) := od_; first | exact h_ | (have e_ := (Kd.R_reads' GB.out).1; omega) | simpa using h_)
   obtain rfl := k55_openM jv
   have gu := Kd.R_seg jd.out (a : Int) (od_) (by have h_ : (a : Int) < ((d.length : Int) : Int) := od_; first | exact h_ | (have e_ := (Kd.R_reads' GB.out).1; omega) | simpa using h_) (seg := [.int .u8 a1]) (j := 5) hc fD (show 6 ≤ 6 from by decide) (x' := (⟨(rd_T55 d a).f0, (⟨(rd_T55 d a).f1.f0, (rd_T55 d a).f1.f1, (rd_T55 d a).f1.f2, (rd_T55 d a).f1.f3⟩ : S53), a1⟩ : S55)) (k55_mkM _ _ _ (⟨(rd_T55 d a).f0, (⟨(rd_T55 d a).f1.f0, (rd_T55 d a).f1.f1, (rd_T55 d a).f1.f2, (rd_T55 d a).f1.f3⟩ : S53), a1⟩ : S55) ) (fun _ hk => hk)
   have gp := fD 5 _ rfl
   (try simp only [show (k55).sz = 6 from rfl, Nat.mul_one, Nat.add_zero] at gp)
   have jG := hf 5
   (try simp only [show (k55).sz = 6 from rfl, Nat.mul_one, Nat.add_zero] at jG)
   clear hc fD hf jv
   go_upto_region 30 with (first | ((with_reducible refine gate_store (t := 5) (p := 111) rfl ?_); refine sx_ 5 111 (wc.setCell ⟨W, (a : Int).toNat * 6 + 5, none⟩ (.int .u8 a1)) ?_; intro iR hw; have hg : wc.grownBy iR (some W) := (by rw [hw]; exact gu.2); have hp_ : Kd.R k55 55 iR w.heap.size (fun k_ => (w.heap.size ≤ k_)) (.slice (some ⟨W, 0, none⟩) d.length ap) D := (by rw [hw, fm.out]; exact gu.1); clear gu; replace GA := Z (Kd.V_afterv (v := (.slice (some ⟨W, 0, none⟩) d.length ap)) (v1 := (.slice (some ⟨W, 0, none⟩) d.length ap)) (ok := (fun k_ => (aV k_ ∨ w.heap.size ≤ k_) ∧ k_ ≠ Y ∧ k_ ≠ x ∧ k_ ≠ Q)) (by (with_reducible repeat apply pV); exact Kd.V_mono GA.out (fun _ hk => ⟨⟨hk.1, ⟨hk.2.2.1, ⟨hk.2.2.2.1, hk.2.2.2.2⟩⟩⟩, hk.2.1⟩)) hg (.inl rfl)); replace b := gw_ ⟨vK b.out⟩ hg (Kd.R_ne GB.out b.out (by decide)); replace l := gw_ ⟨vK l.out⟩ hg (Kd.R_ne GB.out l.out (by decide)); replace y := gw_ ⟨vK y.out⟩ hg (Kd.R_ne GB.out y.out (by decide)); replace GB := Z (hp_); replace HB := Z ((by rw [hw]; exact below_set (HB.out) ht.out : Below w.heap.size w iR)); clear hg hw hp_; have qd := ns_ ah; have hI := cells6 b.out; obtain ⟨eE, eK, kN⟩ := Kd.V_slice GA.out; subst kN) | ((with_reducible refine gF_ 81 rfl ?_); refine gd_ (some 114) Tryz.func81 (shutterref10_Next.calls r s _ _ O a false u a z _ (vC_ GA) (vL_ GA) kX.out) ?_; rintro e sR ⟨rfl, hb⟩; refine ⟨_, rfl, ?_⟩; replace GA := vb' GA hb; replace GB := rb' GB hb; replace b := kb' b hb; replace l := kb' l hb; replace y := kb' y hb; replace HB := bs_ hb; (try clear hb); (try clear hk); have hP := cells6 y.out; have c0 : 0 ≤ (z : Int) := od_; have da : z < (D.length : Int) := (by have h_ : (z : Int) < ((d.length : Int) : Int) := od_; first | (have e_ := (Kd.R_reads' GB.out).1; omega) | simpa only [fm.out, List.length_set] using h_); have kU : ((z : Int) < ((d.length : Int) : Int)) = True := eq_true (od_); obtain ⟨gy, hA, aQ, aR, aS, be, aT, bf⟩ := at_T55 (Kd.R_reads' GB.out).2.2 z c0 da; (try rw [← U.out] at aQ); (try rw [← U.out] at aR); (try rw [← U.out] at aS); (try rw [← U.out] at aT); obtain rfl : (⟨W, 0, none⟩ : Addr) = gy := (by injection hA); (first | simp only [add_plain] at aQ | simp only [add_at] at aQ | simp only [Addr.add, Nat.zero_add] at aQ | skip); (first | simp only [add_plain] at aR | simp only [add_at] at aR | simp only [Addr.add, Nat.zero_add] at aR | skip); (first | simp only [add_plain] at aS | simp only [add_at] at aS | simp only [Addr.add, Nat.zero_add] at aS | skip); (first | simp only [add_plain] at be | simp only [add_at] at be | simp only [Addr.add, Nat.zero_add] at be | skip); (first | simp only [add_plain] at aT | simp only [add_at] at aT | simp only [Addr.add, Nat.zero_add] at aT | skip); (first | simp only [add_plain] at bf | simp only [add_at] at bf | simp only [Addr.add, Nat.zero_add] at bf | skip); replace c0 := eq_true c0; replace da := eq_true da) | ((with_reducible refine gD_ 14 rfl ?_); refine bx_ 14 55 #[.bool false, .bool false, .bool false, .int .i64 0, .bool false, .int .u8 0] ?_; intro ae hg sS hbox hb; replace GA := ve' GA hg hb; replace GB := Z (Kd.R_below (Kd.R_elderB (by (with_reducible repeat apply pR); exact GB.out) ae (Nat.le_of_eq hg.symm)) hb); have ax := Z hbox; have kF := ln' w hg; replace HB := bs_ hb; have aJ := nl' b hg; replace b := kb' b hb; have an := nl' l hg; replace l := kb' l hb; have aA := nl' y hg; replace y := kb' y hb; clear hb hbox hg; have qe := ns_ aJ; have qf := ns_ an; have qg := ns_ aA; have hV := cells6 ax.out))
   (try simp only [Act.put, sA, sB, sC])
   go_cut [129] (fun pT wc => ∃ (kq : Nat) (ex : Bool), pT = .bool ex ∧ Aside0 (shutterref14_Type.j4 kq z (-1) ex r s O a false u F P D al X ab = some (r1, r2, r3, r4, r5, r6, r7, r8)) ∧ Aside0 (kq ≤ bh) ∧ Aside0 (Kd.V k55 55 wc w.heap.size (fun k_ => (aV k_ ∨ w.heap.size ≤ k_) ∧ some k_ ≠ ((.slice (some ⟨W, 0, none⟩) d.length ap) : Value).ownBlock ∧ k_ ≠ Y ∧ k_ ≠ x ∧ k_ ≠ Q ∧ k_ ≠ ae) (.slice eE O.length eK) O) ∧ Aside0 (Kd.R k55 55 wc w.heap.size (fun k_ => (w.heap.size ≤ k_) ∧ k_ ≠ ae) (.slice (some ⟨W, 0, none⟩) d.length ap) D) ∧ Aside0 (wc.heap[Y]? = some (.cells #[.int .i64 r, .int .i64 s, (.slice eE O.length eK), .int .i64 a, .bool false, .bool u] 24 (0, 0))) ∧ Aside0 (wc.heap[x]? = some (.cells #[.int .i64 ay, .int .i64 au, (.slice none 0 0), .int .i64 af, .bool aa, .bool T] 24 (0, 0))) ∧ Aside0 (wc.heap[Q]? = some (.cells #[.int .i64 F, .int .i64 P, (.slice (some ⟨W, 0, none⟩) d.length ap), .int .i64 al, .bool X, .bool ab] 24 (0, 0))) ∧ Aside0 (wc.heap[ae]? = some (.cells #[.bool true, .bool ((rd_T55 D z).f1.f0), .bool ((rd_T55 D z).f1.f1), .int .i64 ((rd_T55 D z).f1.f2), .bool ((rd_T55 D z).f1.f3), .int .u8 ((rd_T55 D z).f2)] 55 (0, 0))) ∧ Aside0 (Below w.heap.size w wc))
   case first =>
    have H := gt.out
    clear gt
    obtain ⟨jf, fC⟩ : ∃ b_ : Bool, b_ = ((rd_T55 D z).f1.f0) := ⟨_, rfl⟩
    replace H : (if jf = true then (shutterref14_Type.j4 bh z (-1) ((rd_T55 D z).f1.f1) r s O a false u F P D al X ab) else (shutterref14_Type.j4 bh z (-1) false r s O a false u F P D al X ab)) = some (r1, r2, r3, r4, r5, r6, r7, r8) := by rw [← fC] at H; exact H
    have ft := Z fC
    clear fC
    (try rw [← ft.out])
    by_cases fu : jf = true
    ·subst fu
     rw [if_pos rfl] at H
     have H' := Z H
     clear H
     have qh := ns_ aJ
     have qi := ns_ an
     have qj := ns_ aA
     have h1 := cells6 ax.out
     go_wp2
     go_meet
     case rel => exact ⟨_, ((rd_T55 D z).f1.f1), (dn_), H', ⟨by have := bp.out; have := jX.out; first | omega | exact Nat.le_refl _⟩, ⟨by (with_reducible repeat apply pV); exact Kd.V_mono (f6V ae (Kd.V_mono GA.out (fun k_ hk => (⟨hk, hk.2⟩ : _ ∧ k_ ≠ ae))) im_) im_⟩, ⟨by (with_reducible repeat apply pR); exact Kd.R_mono (f6R ae (Kd.R_mono GB.out (fun k_ hk => (⟨hk, hk.2⟩ : _ ∧ k_ ≠ ae))) im_) im_⟩, ⟨blk_off b.out aJ.out off2_⟩, ⟨blk_off l.out an.out off2_⟩, ⟨blk_off y.out aA.out off2_⟩, ⟨by first | exact put6 ax.out | (simp only [← ft.out, ← U.out]; exact put6 ax.out)⟩, ⟨bl_⟩⟩
    replace fu := Bool.eq_false_iff.mpr fu
    subst fu
    rw [iF_] at H
    have H' := Z H
    clear H
    have qk := ns_ aJ
    have ql := ns_ an
    have qm := ns_ aA
    have h7 := cells6 ax.out
    go_wp2
    go_meet
    case rel => exact ⟨_, (false), (dn_), H', ⟨by have := bp.out; have := jX.out; first | omega | exact Nat.le_refl _⟩, ⟨by (with_reducible repeat apply pV); exact Kd.V_mono (f6V ae (Kd.V_mono GA.out (fun k_ hk => (⟨hk, hk.2⟩ : _ ∧ k_ ≠ ae))) im_) im_⟩, ⟨by (with_reducible repeat apply pR); exact Kd.R_mono (f6R ae (Kd.R_mono GB.out (fun k_ hk => (⟨hk, hk.2⟩ : _ ∧ k_ ≠ ae))) im_) im_⟩, ⟨blk_off b.out aJ.out off2_⟩, ⟨blk_off l.out an.out off2_⟩, ⟨blk_off y.out aA.out off2_⟩, ⟨by first | exact put6 ax.out | (simp only [← ft.out, ← U.out]; exact put6 ax.out)⟩, ⟨bl_⟩⟩
   clear gt
   try clear c4
   try clear c5
   try clear eF
   try clear ff
   try clear g6
   try clear kI
   try clear g7
   try clear kJ
   try clear eN
   try clear eO
   try clear g8
   try clear kK
   try clear g9
   try clear kL
   try clear ha
   try clear hC
   try clear hI
   try clear hP
   try clear hV
   try clear bD
   try clear dq
   try clear dx
   try clear dD
   try clear gp
   try clear aQ
   try clear aR
   try clear aS
   try clear be
   try clear aT
   try clear bf
   try clear hj
   try clear hl
   try clear hm
   try clear hp
   try clear hq
   try clear hs
   try clear c0
   try clear eN
   try clear da
   try clear eO
   obtain ⟨kq, ex, rfl, HA, sg, GA, GB, b, l, y, ax, HB⟩ := hcut
   have aK := (Kd.R_reads' GB.out).1
   rw [aK] at GB
   (try simp only [aK])
   (try simp only [aK] at b)
   (try simp only [aK] at l)
   (try simp only [aK] at y)
   (try simp only [aK] at ax)
   (try simp only [aK] at GA)
   cases kq with
   | zero => exact absurd HA.out (by simp [shutterref14_Type.j4])
   | succ iQ =>
    have H := HA.out
    clear HA
    simp only [shutterref14_Type.j4] at H
    by_cases gz : ex = true
    ·subst gz
     rw [if_pos rfl] at H
     replace H := bn_ H
     obtain ⟨a5, jK, H⟩ := H
     by_cases eQ : a5 < 0
     ·rw [if_pos eQ] at H
      have j2 := decide_eq_true eQ
      clear eQ
      replace H := bn_ H
      obtain ⟨bn, lk, H⟩ := H
      obtain ⟨rfl, rfl, rfl, rfl, rfl, rfl, rfl, rfl⟩ := ij8_ H
      have qn := ns_ az
      have qo := ns_ aw
      have qp := ns_ aA
      have lz := cells6 y.out
      go_wp2_with (first | ((with_reducible refine gF_ 35 rfl ?_); refine gd_ (some 132) Tryz.func35 (shutterref11_Next.calls iQ F P _ _ D al X ab z a5 _ (rC_ GB) (rL_ GB) jK.out) ?_; rintro e sT ⟨rfl, hb⟩; refine ⟨_, rfl, ?_⟩; replace GA := vb' GA hb; replace GB := rb' GB hb; replace b := kb' b hb; replace l := kb' l hb; replace y := kb' y hb; replace ax := kb' ax hb; replace HB := bs_ hb; (try clear hb); (try clear hk); have qq := ns_ ah; have qr := ns_ aJ; have lF := cells6 b.out) | ((with_reducible refine gF_ 81 rfl ?_); refine gd_ (some 137) Tryz.func81 (shutterref10_Next.calls r s _ _ O a false u z bn _ (vC_ GA) (vL_ GA) lk.out) ?_; rintro e sU ⟨rfl, hb⟩; refine ⟨_, rfl, ?_⟩; replace GA := vb' GA hb; replace GB := rb' GB hb; replace b := kb' b hb; replace l := kb' l hb; replace y := kb' y hb; replace ax := kb' ax hb; replace HB := bs_ hb; (try clear hb); (try clear hk); have lL := cells6 y.out; have qs := ns_ an; have lR := cells6 l.out))
      refine bodyPost_ret (results_ctt rfl _ _ x 24 #[.int .i64 F, .int .i64 P, .slice (some ⟨W, 0, none⟩) D.length ap, .int .i64 bn, .bool X, .bool ab] (0, 0) _ rfl (by (with_reducible repeat apply pK); refine blk_put (cs := #[.int .i64 F, .int .i64 P, .slice (some ⟨W, 0, none⟩) D.length ap, .int .i64 bn, .bool X, .bool T]) ?_ 5 _ (by first | rfl | (simp only [← U.out]; rfl) | (simp [← U.out]; done)); (with_reducible repeat apply pK); refine blk_put (cs := #[.int .i64 F, .int .i64 P, .slice (some ⟨W, 0, none⟩) D.length ap, .int .i64 bn, .bool aa, .bool T]) ?_ 4 _ (by first | rfl | (simp only [← U.out]; rfl) | (simp [← U.out]; done)); (with_reducible repeat apply pK); refine blk_put (cs := #[.int .i64 F, .int .i64 P, .slice (some ⟨W, 0, none⟩) D.length ap, .int .i64 af, .bool aa, .bool T]) ?_ 3 _ (by first | rfl | (simp only [← U.out]; rfl) | (simp [← U.out]; done)); (with_reducible repeat apply pK); refine blk_put (cs := #[.int .i64 F, .int .i64 P, .slice none 0 0, .int .i64 af, .bool aa, .bool T]) ?_ 2 _ (by first | rfl | (simp only [← U.out]; rfl) | (simp [← U.out]; done)); (with_reducible repeat apply pK); refine blk_put (cs := #[.int .i64 F, .int .i64 au, .slice none 0 0, .int .i64 af, .bool aa, .bool T]) ?_ 1 _ (by first | rfl | (simp only [← U.out]; rfl) | (simp [← U.out]; done)); (with_reducible repeat apply pK); refine blk_put (cs := #[.int .i64 ay, .int .i64 au, .slice none 0 0, .int .i64 af, .bool aa, .bool T]) ?_ 0 _ (by first | rfl | (simp only [← U.out]; rfl) | (simp [← U.out]; done)); (with_reducible repeat apply pK); refine blk_far ?_ aw.out _; (with_reducible repeat apply pK); exact l.out) Tryz.underlying24 rfl (by kernel_rfl)) rfl ?_
      exact ⟨_, er_, Kd.V_mono (Kd.R_V (by (with_reducible repeat apply pR); exact Kd.R_mono (f6R x (Kd.R_far (p := ⟨Q, 3, none⟩) (Kd.R_types (Kd.R_types GB.out y.out (by decide)) l.out (by decide)) im_ (.int .i64 bn)) im_) (fun _ hk => hk.1.1.1))) (fun k_ hk => by first | exact ⟨(.inr (hk.1)), hk.2⟩ | exact (.inr (hk))), bl_⟩
     rw [if_neg eQ] at H
     have j2 := decide_eq_false eQ
     clear eQ
     obtain ⟨rfl, rfl, rfl, rfl, rfl, rfl, rfl, rfl⟩ := ij8_ H
     have qt := ns_ az
     have qu := ns_ aw
     have qv := ns_ aA
     have lX := cells6 y.out
     go_wp2_with (first | ((with_reducible refine gF_ 35 rfl ?_); refine gd_ (some 132) Tryz.func35 (shutterref11_Next.calls iQ F P _ _ D al X ab z a5 _ (rC_ GB) (rL_ GB) jK.out) ?_; rintro e sV ⟨rfl, hb⟩; refine ⟨_, rfl, ?_⟩; replace GA := vb' GA hb; replace GB := rb' GB hb; replace b := kb' b hb; replace l := kb' l hb; replace y := kb' y hb; replace ax := kb' ax hb; replace HB := bs_ hb; (try clear hb); (try clear hk); have l5 := cells6 y.out; have qw := ns_ ah; have qx := ns_ an; have mb := cells6 l.out))
     refine bodyPost_ret (results_ctt rfl _ _ x 24 #[.int .i64 F, .int .i64 P, .slice (some ⟨W, 0, none⟩) D.length ap, .int .i64 a5, .bool X, .bool ab] (0, 0) _ rfl (by (with_reducible repeat apply pK); refine blk_put (cs := #[.int .i64 F, .int .i64 P, .slice (some ⟨W, 0, none⟩) D.length ap, .int .i64 a5, .bool X, .bool T]) ?_ 5 _ (by first | rfl | (simp only [← U.out]; rfl) | (simp [← U.out]; done)); (with_reducible repeat apply pK); refine blk_put (cs := #[.int .i64 F, .int .i64 P, .slice (some ⟨W, 0, none⟩) D.length ap, .int .i64 a5, .bool aa, .bool T]) ?_ 4 _ (by first | rfl | (simp only [← U.out]; rfl) | (simp [← U.out]; done)); (with_reducible repeat apply pK); refine blk_put (cs := #[.int .i64 F, .int .i64 P, .slice (some ⟨W, 0, none⟩) D.length ap, .int .i64 af, .bool aa, .bool T]) ?_ 3 _ (by first | rfl | (simp only [← U.out]; rfl) | (simp [← U.out]; done)); (with_reducible repeat apply pK); refine blk_put (cs := #[.int .i64 F, .int .i64 P, .slice none 0 0, .int .i64 af, .bool aa, .bool T]) ?_ 2 _ (by first | rfl | (simp only [← U.out]; rfl) | (simp [← U.out]; done)); (with_reducible repeat apply pK); refine blk_put (cs := #[.int .i64 F, .int .i64 au, .slice none 0 0, .int .i64 af, .bool aa, .bool T]) ?_ 1 _ (by first | rfl | (simp only [← U.out]; rfl) | (simp [← U.out]; done)); (with_reducible repeat apply pK); refine blk_put (cs := #[.int .i64 ay, .int .i64 au, .slice none 0 0, .int .i64 af, .bool aa, .bool T]) ?_ 0 _ (by first | rfl | (simp only [← U.out]; rfl) | (simp [← U.out]; done)); (with_reducible repeat apply pK); refine blk_far ?_ aw.out _; (with_reducible repeat apply pK); exact l.out) Tryz.underlying24 rfl (by kernel_rfl)) rfl ?_
     exact ⟨_, er_, Kd.V_mono (Kd.R_V (by (with_reducible repeat apply pR); exact Kd.R_mono (f6R x (Kd.R_far (p := ⟨Q, 3, none⟩) (Kd.R_types (Kd.R_types GB.out y.out (by decide)) l.out (by decide)) im_ (.int .i64 a5)) im_) (fun _ hk => hk.1.1.1))) (fun k_ hk => by first | exact ⟨(.inr (hk.1)), hk.2⟩ | exact (.inr (hk))), bl_⟩
    replace gz := Bool.eq_false_iff.mpr gz
    subst gz
    rw [iF_] at H
    by_cases gA : (-1) < 0
    ·rw [if_pos gA] at H
     have pZ := decide_eq_true gA
     clear gA
     replace H := bn_ H
     obtain ⟨cK, ll, H⟩ := H
     obtain ⟨rfl, rfl, rfl, rfl, rfl, rfl, rfl, rfl⟩ := ij8_ H
     have qy := ns_ ah
     have qz := ns_ az
     have qA := ns_ aJ
     have mh := cells6 b.out
     go_wp2_with (first | ((with_reducible refine gF_ 81 rfl ?_); refine gd_ (some 137) Tryz.func81 (shutterref10_Next.calls r s _ _ O a false u z cK _ (vC_ GA) (vL_ GA) ll.out) ?_; rintro e sW ⟨rfl, hb⟩; refine ⟨_, rfl, ?_⟩; replace GA := vb' GA hb; replace GB := rb' GB hb; replace b := kb' b hb; replace l := kb' l hb; replace y := kb' y hb; replace ax := kb' ax hb; replace HB := bs_ hb; (try clear hb); (try clear hk); have qC := ns_ aw; have qD := ns_ aA; have mo := cells6 y.out; have qE := ns_ an; have mv := cells6 l.out))
     refine bodyPost_ret (results_ctt rfl _ _ x 24 #[.int .i64 F, .int .i64 P, .slice (some ⟨W, 0, none⟩) D.length ap, .int .i64 cK, .bool X, .bool ab] (0, 0) _ rfl (by (with_reducible repeat apply pK); refine blk_put (cs := #[.int .i64 F, .int .i64 P, .slice (some ⟨W, 0, none⟩) D.length ap, .int .i64 cK, .bool X, .bool T]) ?_ 5 _ (by first | rfl | (simp only [← U.out]; rfl) | (simp [← U.out]; done)); (with_reducible repeat apply pK); refine blk_put (cs := #[.int .i64 F, .int .i64 P, .slice (some ⟨W, 0, none⟩) D.length ap, .int .i64 cK, .bool aa, .bool T]) ?_ 4 _ (by first | rfl | (simp only [← U.out]; rfl) | (simp [← U.out]; done)); (with_reducible repeat apply pK); refine blk_put (cs := #[.int .i64 F, .int .i64 P, .slice (some ⟨W, 0, none⟩) D.length ap, .int .i64 af, .bool aa, .bool T]) ?_ 3 _ (by first | rfl | (simp only [← U.out]; rfl) | (simp [← U.out]; done)); (with_reducible repeat apply pK); refine blk_put (cs := #[.int .i64 F, .int .i64 P, .slice none 0 0, .int .i64 af, .bool aa, .bool T]) ?_ 2 _ (by first | rfl | (simp only [← U.out]; rfl) | (simp [← U.out]; done)); (with_reducible repeat apply pK); refine blk_put (cs := #[.int .i64 F, .int .i64 au, .slice none 0 0, .int .i64 af, .bool aa, .bool T]) ?_ 1 _ (by first | rfl | (simp only [← U.out]; rfl) | (simp [← U.out]; done)); (with_reducible repeat apply pK); refine blk_put (cs := #[.int .i64 ay, .int .i64 au, .slice none 0 0, .int .i64 af, .bool aa, .bool T]) ?_ 0 _ (by first | rfl | (simp only [← U.out]; rfl) | (simp [← U.out]; done)); (with_reducible repeat apply pK); refine blk_far ?_ aw.out _; (with_reducible repeat apply pK); exact l.out) Tryz.underlying24 rfl (by kernel_rfl)) rfl ?_
     exact ⟨_, er_, Kd.V_mono (Kd.R_V (by (with_reducible repeat apply pR); exact Kd.R_mono (f6R x (Kd.R_far (p := ⟨Q, 3, none⟩) (Kd.R_types (Kd.R_types GB.out y.out (by decide)) l.out (by decide)) im_ (.int .i64 cK)) im_) (fun _ hk => hk.1.1.1))) (fun k_ hk => by first | exact ⟨(.inr (hk.1)), hk.2⟩ | exact (.inr (hk))), bl_⟩
    exact absurd (by decide) gA

end Go.Proofs.YtjpedimndkibnaaGreatDoor.P
