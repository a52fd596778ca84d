/- pp.py and press2.py (wip/tools) wrote this text. -/
import Derived.Test.YtjpedimndkibnaaGreatDoorPx0
import Derived.Test.YtjpedimndkibnaaGreatDoorPxS
import Derived.Test.YtjpedimndkibnaaGreatDoorPxT
import Derived.Test.YtjpedimndkibnaaGreatDoorPx17
import Derived.Test.YtjpedimndkibnaaGreatDoorPx18
import Derived.Test.YtjpedimndkibnaaGreatDoorPx20
import Derived.Test.YtjpedimndkibnaaGreatDoorPx23
import Derived.Test.YtjpedimndkibnaaGreatDoorPx27
import Derived.Test.YtjpedimndkibnaaGreatDoorPx28
namespace Go.Proofs.YtjpedimndkibnaaGreatDoor.P
open Go.RowKit Go.Proofs.YtjpedimndkibnaaGreatDoorW.PrintWords Go.Proofs.YtjpedimndkibnaaGreatDoorW.PrintLast Go.Proofs.YtjpedimndkibnaaGreatDoorW.PrintMore
attribute [local go_sem] max2_int min2_int max_two min_two max_three min_three max_four min_four
attribute [local go_sem] Instr.field asAgg
set_option linter.unusedVariables false
set_option linter.unusedSimpArgs false
set_option maxHeartbeats 8000000
set_option maxRecDepth 100000

/-! ### shutterref17_Do: function 16 -/
mutual
def shutterref17_Do.j0 : Nat → Bool → Int → Int → List (S55) → Int → Bool → Bool → Int → Int → Option (Int × Int × (List (S55)) × Int × Bool × Bool × Bool × Int × Int)
 | 0, _, _, _, _, _, _, _, _, _ => none
 | k + 1, i, c, d, e, f, g, h, a, b => if i = true then (if a = 10 then (shutterref17_Do.j1 k 28 c d e f g h a b) else (shutterref17_Do.j1 k b c d e f g h a b)) else (if a ≥ 2 then (shutterref17_Do.j4 k (decide (a ≤ 9)) c d e f g h a b) else (shutterref17_Do.j4 k false c d e f g h a b))
def shutterref17_Do.j1 : Nat → Int → Int → Int → List (S55) → Int → Bool → Bool → Int → Int → Option (Int × Int × (List (S55)) × Int × Bool × Bool × Bool × Int × Int)
 | 0, _, _, _, _, _, _, _, _, _ => none
 | k + 1, i, b, c, d, e, f, g, a, h => if a = 11 then (shutterref17_Do.j2 k 30 b c d e f g a h) else (shutterref17_Do.j2 k i b c d e f g a h)
def shutterref17_Do.j2 : Nat → Int → Int → Int → List (S55) → Int → Bool → Bool → Int → Int → Option (Int × Int × (List (S55)) × Int × Bool × Bool × Bool × Int × Int)
 | 0, _, _, _, _, _, _, _, _, _ => none
 | k + 1, l, b, c, d, e, g, h, i, j => (shutterref14_Type.f k b c d e g h l).bind fun a => (if i = 10 then (shutterref17_Do.j3 k a.2.2.2.2.2.2.1 a.2.2.2.2.2.2.2 (a.2.2.2.2.2.2.1 == 0) b c d e g h a.1 a.2.1 a.2.2.1 a.2.2.2.1 a.2.2.2.2.1 a.2.2.2.2.2.1) else (shutterref17_Do.j3 k a.2.2.2.2.2.2.1 a.2.2.2.2.2.2.2 false b c d e g h a.1 a.2.1 a.2.2.1 a.2.2.2.1 a.2.2.2.2.1 a.2.2.2.2.2.1))
def shutterref17_Do.j3 : Nat → Int → Int → Bool → Int → Int → List (S55) → Int → Bool → Bool → Int → Int → List (S55) → Int → Bool → Bool → Option (Int × Int × (List (S55)) × Int × Bool × Bool × Bool × Int × Int)
 | 0, _, _, _, _, _, _, _, _, _, _, _, _, _, _, _ => none
 | k + 1, x10, x11, p, j, l, m, h, n, o, a, b, c, g, d, e => if p = true then ((shutterref11_Next.f k a b c g d e h).bind fun i => (if i < 0 then (some (a, b, c, 0, d, e, false, x10, x11)) else (some (a, b, c, i, d, e, false, x10, x11)))) else (some (a, b, c, g, d, e, false, x10, x11))
def shutterref17_Do.j4 : Nat → Bool → Int → Int → List (S55) → Int → Bool → Bool → Int → Int → Option (Int × Int × (List (S55)) × Int × Bool × Bool × Bool × Int × Int)
 | 0, _, _, _, _, _, _, _, _, _ => none
 | k + 1, l, c, d, e, g, h, i, b, j => if l = true then ((shutterref15_Do.f k c d e g h i b).bind fun a => (some (a.1, a.2.1, a.2.2.1, a.2.2.2.1, a.2.2.2.2.1, a.2.2.2.2.2.1, false, a.2.2.2.2.2.2, (-1)))) else (if b ≥ 12 then (shutterref17_Do.j5 k (decide (b ≤ 14)) c d e g h i b j) else (shutterref17_Do.j5 k false c d e g h i b j))
def shutterref17_Do.j5 : Nat → Bool → Int → Int → List (S55) → Int → Bool → Bool → Int → Int → Option (Int × Int × (List (S55)) × Int × Bool × Bool × Bool × Int × Int)
 | 0, _, _, _, _, _, _, _, _, _ => none
 | k + 1, m, d, e, g, h, i, j, b, l => if m = true then ((shutterref16_Do.f k d e g h i j b).bind fun c => (some (c.1, c.2.1, c.2.2.1, c.2.2.2.1, c.2.2.2.2.1, c.2.2.2.2.2.1, false, c.2.2.2.2.2.2.1, c.2.2.2.2.2.2.2))) else ((shutterref10_Copy.f d e g h i j).bind fun a => (if b = 16 then (some (a.1, a.2.1, a.2.2.1, a.2.2.2.1, false, false, false, 0, (-1))) else (if b = 15 then (shutterref17_Do.j6 k false d e g h i j b l a.1 a.2.1 a.2.2.1 a.2.2.2.1 a.2.2.2.2.1 a.2.2.2.2.2) else (shutterref17_Do.j6 k (b != 17) d e g h i j b l a.1 a.2.1 a.2.2.1 a.2.2.2.1 a.2.2.2.2.1 a.2.2.2.2.2))))
def shutterref17_Do.j6 : Nat → Bool → Int → Int → List (S55) → Int → Bool → Bool → Int → Int → Int → Int → List (S55) → Int → Bool → Bool → Option (Int × Int × (List (S55)) × Int × Bool × Bool × Bool × Int × Int)
 | 0, _, _, _, _, _, _, _, _, _, _, _, _, _, _, _ => none
 | k + 1, r, a, b, c, d, e, g, h, i, j, l, m, n, o, p => if r = true then (some (a, b, c, d, e, g, false, 1, (-1))) else (if h = 17 then ((shutterref05_Aid.f i).bind fun q => (shutterref17_Do.j7 k (!q) a b c d e g h i j l m n o p)) else (shutterref17_Do.j7 k false a b c d e g h i j l m n o p))
def shutterref17_Do.j7 : Nat → Bool → Int → Int → List (S55) → Int → Bool → Bool → Int → Int → Int → Int → List (S55) → Int → Bool → Bool → Option (Int × Int × (List (S55)) × Int × Bool × Bool × Bool × Int × Int)
 | 0, _, _, _, _, _, _, _, _, _, _, _, _, _, _, _ => none
 | k + 1, p, e, f, a, g, b, h, l, m, c, d, i, j, n, o => if p = true then (some (e, f, a, g, b, h, false, 3, (-1))) else (if b = true then (some (e, f, a, g, b, h, false, 7, (-1))) else (if l = 15 then (some (c, d, i, j, n, true, false, 0, (-1))) else (if m = 109 then (if 0 ≤ (a.length : Int) then (if ((a.length : Int) : Int).toNat ≤ 7036874417766 then (some (c, d, (List.replicate ((a.length : Int) : Int).toNat z55), 0, true, false, true, 0, (-1))) else (none)) else (none)) else (some (c, d, i, j, true, false, true, 0, (-1))))))
end
def shutterref17_Do.f (k : Nat) (b c : Int) (i : List (S55)) (d : Int) (e g : Bool) (a h : Int) : Option (Int × Int × (List (S55)) × Int × Bool × Bool × Bool × Int × Int) := if a = 1 then (shutterref17_Do.j0 k true b c i d e g a h) else (if a = 10 then (shutterref17_Do.j0 k true b c i d e g a h) else (shutterref17_Do.j0 k (a == 11) b c i d e g a h))
theorem shutterref17_Do.mono_l : ∀ k, (∀ a b c d e f g i j, LeO (shutterref17_Do.j0 k a b c d e f g i j) (shutterref17_Do.j0 (k + 1) a b c d e f g i j)) ∧ (∀ a b c d e f g i j, LeO (shutterref17_Do.j1 k a b c d e f g i j) (shutterref17_Do.j1 (k + 1) a b c d e f g i j)) ∧ (∀ a b c d e f g i j, LeO (shutterref17_Do.j2 k a b c d e f g i j) (shutterref17_Do.j2 (k + 1) a b c d e f g i j)) ∧ (∀ a b c d e f g i j z u v w x y, LeO (shutterref17_Do.j3 k a b c d e f g i j z u v w x y) (shutterref17_Do.j3 (k + 1) a b c d e f g i j z u v w x y)) ∧ (∀ a b c d e f g i j, LeO (shutterref17_Do.j4 k a b c d e f g i j) (shutterref17_Do.j4 (k + 1) a b c d e f g i j)) ∧ (∀ a b c d e f g i j, LeO (shutterref17_Do.j5 k a b c d e f g i j) (shutterref17_Do.j5 (k + 1) a b c d e f g i j)) ∧ (∀ a b c d e f g i j z u v w x y, LeO (shutterref17_Do.j6 k a b c d e f g i j z u v w x y) (shutterref17_Do.j6 (k + 1) a b c d e f g i j z u v w x y)) ∧ (∀ a b c d e f g i j z u v w x y, LeO (shutterref17_Do.j7 k a b c d e f g i j z u v w x y) (shutterref17_Do.j7 (k + 1) a b c d e f g i j z u v w x y))
 | 0 => ⟨fun _ _ _ _ _ _ _ _ _ r h => by simp [shutterref17_Do.j0] at h, fun _ _ _ _ _ _ _ _ _ r h => by simp [shutterref17_Do.j1] at h, fun _ _ _ _ _ _ _ _ _ r h => by simp [shutterref17_Do.j2] at h, fun _ _ _ _ _ _ _ _ _ _ _ _ _ _ _ r h => by simp [shutterref17_Do.j3] at h, fun _ _ _ _ _ _ _ _ _ r h => by simp [shutterref17_Do.j4] at h, fun _ _ _ _ _ _ _ _ _ r h => by simp [shutterref17_Do.j5] at h, fun _ _ _ _ _ _ _ _ _ _ _ _ _ _ _ r h => by simp [shutterref17_Do.j6] at h, fun _ _ _ _ _ _ _ _ _ _ _ _ _ _ _ r h => by simp [shutterref17_Do.j7] at h⟩
 | k + 1 => by
  obtain ⟨l, m, n, o, p, q, s, t⟩ := shutterref17_Do.mono_l k
  refine ⟨?_, ?_, ?_, ?_, ?_, ?_, ?_, ?_⟩
  ·intro a b c d e f g i j
   unfold shutterref17_Do.j0
   repeat' first
   | (with_reducible exact l _ _ _ _ _ _ _ _ _)
   | (with_reducible exact m _ _ _ _ _ _ _ _ _)
   | (with_reducible exact n _ _ _ _ _ _ _ _ _)
   | (with_reducible exact o _ _ _ _ _ _ _ _ _ _ _ _ _ _ _)
   | (with_reducible exact p _ _ _ _ _ _ _ _ _)
   | (with_reducible exact q _ _ _ _ _ _ _ _ _)
   | (with_reducible exact s _ _ _ _ _ _ _ _ _ _ _ _ _ _ _)
   | (with_reducible exact t _ _ _ _ _ _ _ _ _ _ _ _ _ _ _)
   | (with_reducible exact shutterref11_Next.mono _ _ _ _ _ _ _ _)
   | (with_reducible exact shutterref14_Type.mono _ _ _ _ _ _ _ _)
   | (with_reducible exact shutterref15_Do.mono _ _ _ _ _ _ _ _)
   | (with_reducible exact shutterref16_Do.mono _ _ _ _ _ _ _ _)
   | (with_reducible exact LeO.refl _)
   | (with_reducible exact LeO.none _)
   | (with_reducible refine LeO.ite ?_ ?_)
   | (with_reducible refine LeO.bind ?_ (fun _ => ?_))
   | exact l _ _ _ _ _ _ _ _ _
   | exact m _ _ _ _ _ _ _ _ _
   | exact n _ _ _ _ _ _ _ _ _
   | exact o _ _ _ _ _ _ _ _ _ _ _ _ _ _ _
   | exact p _ _ _ _ _ _ _ _ _
   | exact q _ _ _ _ _ _ _ _ _
   | exact s _ _ _ _ _ _ _ _ _ _ _ _ _ _ _
   | exact t _ _ _ _ _ _ _ _ _ _ _ _ _ _ _
   | exact shutterref11_Next.mono _ _ _ _ _ _ _ _
   | exact shutterref14_Type.mono _ _ _ _ _ _ _ _
   | exact shutterref15_Do.mono _ _ _ _ _ _ _ _
   | exact shutterref16_Do.mono _ _ _ _ _ _ _ _
   | exact LeO.none _
   | refine LeO.ite ?_ ?_
   | refine LeO.bind ?_ (fun _ => ?_)
  ·intro a b c d e f g i j
   unfold shutterref17_Do.j1
   repeat' first
   | (with_reducible exact l _ _ _ _ _ _ _ _ _)
   | (with_reducible exact m _ _ _ _ _ _ _ _ _)
   | (with_reducible exact n _ _ _ _ _ _ _ _ _)
   | (with_reducible exact o _ _ _ _ _ _ _ _ _ _ _ _ _ _ _)
   | (with_reducible exact p _ _ _ _ _ _ _ _ _)
   | (with_reducible exact q _ _ _ _ _ _ _ _ _)
   | (with_reducible exact s _ _ _ _ _ _ _ _ _ _ _ _ _ _ _)
   | (with_reducible exact t _ _ _ _ _ _ _ _ _ _ _ _ _ _ _)
   | (with_reducible exact shutterref11_Next.mono _ _ _ _ _ _ _ _)
   | (with_reducible exact shutterref14_Type.mono _ _ _ _ _ _ _ _)
   | (with_reducible exact shutterref15_Do.mono _ _ _ _ _ _ _ _)
   | (with_reducible exact shutterref16_Do.mono _ _ _ _ _ _ _ _)
   | (with_reducible exact LeO.refl _)
   | (with_reducible exact LeO.none _)
   | (with_reducible refine LeO.ite ?_ ?_)
   | (with_reducible refine LeO.bind ?_ (fun _ => ?_))
   | exact l _ _ _ _ _ _ _ _ _
   | exact m _ _ _ _ _ _ _ _ _
   | exact n _ _ _ _ _ _ _ _ _
   | exact o _ _ _ _ _ _ _ _ _ _ _ _ _ _ _
   | exact p _ _ _ _ _ _ _ _ _
   | exact q _ _ _ _ _ _ _ _ _
   | exact s _ _ _ _ _ _ _ _ _ _ _ _ _ _ _
   | exact t _ _ _ _ _ _ _ _ _ _ _ _ _ _ _
   | exact shutterref11_Next.mono _ _ _ _ _ _ _ _
   | exact shutterref14_Type.mono _ _ _ _ _ _ _ _
   | exact shutterref15_Do.mono _ _ _ _ _ _ _ _
   | exact shutterref16_Do.mono _ _ _ _ _ _ _ _
   | exact LeO.none _
   | refine LeO.ite ?_ ?_
   | refine LeO.bind ?_ (fun _ => ?_)
  ·intro a b c d e f g i j
   unfold shutterref17_Do.j2
   repeat' first
   | (with_reducible exact l _ _ _ _ _ _ _ _ _)
   | (with_reducible exact m _ _ _ _ _ _ _ _ _)
   | (with_reducible exact n _ _ _ _ _ _ _ _ _)
   | (with_reducible exact o _ _ _ _ _ _ _ _ _ _ _ _ _ _ _)
   | (with_reducible exact p _ _ _ _ _ _ _ _ _)
   | (with_reducible exact q _ _ _ _ _ _ _ _ _)
   | (with_reducible exact s _ _ _ _ _ _ _ _ _ _ _ _ _ _ _)
   | (with_reducible exact t _ _ _ _ _ _ _ _ _ _ _ _ _ _ _)
   | (with_reducible exact shutterref11_Next.mono _ _ _ _ _ _ _ _)
   | (with_reducible exact shutterref14_Type.mono _ _ _ _ _ _ _ _)
   | (with_reducible exact shutterref15_Do.mono _ _ _ _ _ _ _ _)
   | (with_reducible exact shutterref16_Do.mono _ _ _ _ _ _ _ _)
   | (with_reducible exact LeO.refl _)
   | (with_reducible exact LeO.none _)
   | (with_reducible refine LeO.ite ?_ ?_)
   | (with_reducible refine LeO.bind ?_ (fun _ => ?_))
   | exact l _ _ _ _ _ _ _ _ _
   | exact m _ _ _ _ _ _ _ _ _
   | exact n _ _ _ _ _ _ _ _ _
   | exact o _ _ _ _ _ _ _ _ _ _ _ _ _ _ _
   | exact p _ _ _ _ _ _ _ _ _
   | exact q _ _ _ _ _ _ _ _ _
   | exact s _ _ _ _ _ _ _ _ _ _ _ _ _ _ _
   | exact t _ _ _ _ _ _ _ _ _ _ _ _ _ _ _
   | exact shutterref11_Next.mono _ _ _ _ _ _ _ _
   | exact shutterref14_Type.mono _ _ _ _ _ _ _ _
   | exact shutterref15_Do.mono _ _ _ _ _ _ _ _
   | exact shutterref16_Do.mono _ _ _ _ _ _ _ _
   | exact LeO.none _
   | refine LeO.ite ?_ ?_
   | refine LeO.bind ?_ (fun _ => ?_)
  ·intro a b c d e f g i j z u v w x y
   unfold shutterref17_Do.j3
   repeat' first
   | (with_reducible exact l _ _ _ _ _ _ _ _ _)
   | (with_reducible exact m _ _ _ _ _ _ _ _ _)
   | (with_reducible exact n _ _ _ _ _ _ _ _ _)
   | (with_reducible exact o _ _ _ _ _ _ _ _ _ _ _ _ _ _ _)
   | (with_reducible exact p _ _ _ _ _ _ _ _ _)
   | (with_reducible exact q _ _ _ _ _ _ _ _ _)
   | (with_reducible exact s _ _ _ _ _ _ _ _ _ _ _ _ _ _ _)
   | (with_reducible exact t _ _ _ _ _ _ _ _ _ _ _ _ _ _ _)
   | (with_reducible exact shutterref11_Next.mono _ _ _ _ _ _ _ _)
   | (with_reducible exact shutterref14_Type.mono _ _ _ _ _ _ _ _)
   | (with_reducible exact shutterref15_Do.mono _ _ _ _ _ _ _ _)
   | (with_reducible exact shutterref16_Do.mono _ _ _ _ _ _ _ _)
   | (with_reducible exact LeO.refl _)
   | (with_reducible exact LeO.none _)
   | (with_reducible refine LeO.ite ?_ ?_)
   | (with_reducible refine LeO.bind ?_ (fun _ => ?_))
   | exact l _ _ _ _ _ _ _ _ _
   | exact m _ _ _ _ _ _ _ _ _
   | exact n _ _ _ _ _ _ _ _ _
   | exact o _ _ _ _ _ _ _ _ _ _ _ _ _ _ _
   | exact p _ _ _ _ _ _ _ _ _
   | exact q _ _ _ _ _ _ _ _ _
   | exact s _ _ _ _ _ _ _ _ _ _ _ _ _ _ _
   | exact t _ _ _ _ _ _ _ _ _ _ _ _ _ _ _
   | exact shutterref11_Next.mono _ _ _ _ _ _ _ _
   | exact shutterref14_Type.mono _ _ _ _ _ _ _ _
   | exact shutterref15_Do.mono _ _ _ _ _ _ _ _
   | exact shutterref16_Do.mono _ _ _ _ _ _ _ _
   | exact LeO.none _
   | refine LeO.ite ?_ ?_
   | refine LeO.bind ?_ (fun _ => ?_)
  ·intro a b c d e f g i j
   unfold shutterref17_Do.j4
   repeat' first
   | (with_reducible exact l _ _ _ _ _ _ _ _ _)
   | (with_reducible exact m _ _ _ _ _ _ _ _ _)
   | (with_reducible exact n _ _ _ _ _ _ _ _ _)
   | (with_reducible exact o _ _ _ _ _ _ _ _ _ _ _ _ _ _ _)
   | (with_reducible exact p _ _ _ _ _ _ _ _ _)
   | (with_reducible exact q _ _ _ _ _ _ _ _ _)
   | (with_reducible exact s _ _ _ _ _ _ _ _ _ _ _ _ _ _ _)
   | (with_reducible exact t _ _ _ _ _ _ _ _ _ _ _ _ _ _ _)
   | (with_reducible exact shutterref11_Next.mono _ _ _ _ _ _ _ _)
   | (with_reducible exact shutterref14_Type.mono _ _ _ _ _ _ _ _)
   | (with_reducible exact shutterref15_Do.mono _ _ _ _ _ _ _ _)
   | (with_reducible exact shutterref16_Do.mono _ _ _ _ _ _ _ _)
   | (with_reducible exact LeO.refl _)
   | (with_reducible exact LeO.none _)
   | (with_reducible refine LeO.ite ?_ ?_)
   | (with_reducible refine LeO.bind ?_ (fun _ => ?_))
   | exact l _ _ _ _ _ _ _ _ _
   | exact m _ _ _ _ _ _ _ _ _
   | exact n _ _ _ _ _ _ _ _ _
   | exact o _ _ _ _ _ _ _ _ _ _ _ _ _ _ _
   | exact p _ _ _ _ _ _ _ _ _
   | exact q _ _ _ _ _ _ _ _ _
   | exact s _ _ _ _ _ _ _ _ _ _ _ _ _ _ _
   | exact t _ _ _ _ _ _ _ _ _ _ _ _ _ _ _
   | exact shutterref11_Next.mono _ _ _ _ _ _ _ _
   | exact shutterref14_Type.mono _ _ _ _ _ _ _ _
   | exact shutterref15_Do.mono _ _ _ _ _ _ _ _
   | exact shutterref16_Do.mono _ _ _ _ _ _ _ _
   | exact LeO.none _
   | refine LeO.ite ?_ ?_
   | refine LeO.bind ?_ (fun _ => ?_)
  ·intro a b c d e f g i j
   unfold shutterref17_Do.j5
   repeat' first
   | (with_reducible exact l _ _ _ _ _ _ _ _ _)
   | (with_reducible exact m _ _ _ _ _ _ _ _ _)
   | (with_reducible exact n _ _ _ _ _ _ _ _ _)
   | (with_reducible exact o _ _ _ _ _ _ _ _ _ _ _ _ _ _ _)
   | (with_reducible exact p _ _ _ _ _ _ _ _ _)
   | (with_reducible exact q _ _ _ _ _ _ _ _ _)
   | (with_reducible exact s _ _ _ _ _ _ _ _ _ _ _ _ _ _ _)
   | (with_reducible exact t _ _ _ _ _ _ _ _ _ _ _ _ _ _ _)
   | (with_reducible exact shutterref11_Next.mono _ _ _ _ _ _ _ _)
   | (with_reducible exact shutterref14_Type.mono _ _ _ _ _ _ _ _)
   | (with_reducible exact shutterref15_Do.mono _ _ _ _ _ _ _ _)
   | (with_reducible exact shutterref16_Do.mono _ _ _ _ _ _ _ _)
   | (with_reducible exact LeO.refl _)
   | (with_reducible exact LeO.none _)
   | (with_reducible refine LeO.ite ?_ ?_)
   | (with_reducible refine LeO.bind ?_ (fun _ => ?_))
   | exact l _ _ _ _ _ _ _ _ _
   | exact m _ _ _ _ _ _ _ _ _
   | exact n _ _ _ _ _ _ _ _ _
   | exact o _ _ _ _ _ _ _ _ _ _ _ _ _ _ _
   | exact p _ _ _ _ _ _ _ _ _
   | exact q _ _ _ _ _ _ _ _ _
   | exact s _ _ _ _ _ _ _ _ _ _ _ _ _ _ _
   | exact t _ _ _ _ _ _ _ _ _ _ _ _ _ _ _
   | exact shutterref11_Next.mono _ _ _ _ _ _ _ _
   | exact shutterref14_Type.mono _ _ _ _ _ _ _ _
   | exact shutterref15_Do.mono _ _ _ _ _ _ _ _
   | exact shutterref16_Do.mono _ _ _ _ _ _ _ _
   | exact LeO.none _
   | refine LeO.ite ?_ ?_
   | refine LeO.bind ?_ (fun _ => ?_)
  ·intro a b c d e f g i j z u v w x y
   unfold shutterref17_Do.j6
   repeat' first
   | (with_reducible exact l _ _ _ _ _ _ _ _ _)
   | (with_reducible exact m _ _ _ _ _ _ _ _ _)
   | (with_reducible exact n _ _ _ _ _ _ _ _ _)
   | (with_reducible exact o _ _ _ _ _ _ _ _ _ _ _ _ _ _ _)
   | (with_reducible exact p _ _ _ _ _ _ _ _ _)
   | (with_reducible exact q _ _ _ _ _ _ _ _ _)
   | (with_reducible exact s _ _ _ _ _ _ _ _ _ _ _ _ _ _ _)
   | (with_reducible exact t _ _ _ _ _ _ _ _ _ _ _ _ _ _ _)
   | (with_reducible exact shutterref11_Next.mono _ _ _ _ _ _ _ _)
   | (with_reducible exact shutterref14_Type.mono _ _ _ _ _ _ _ _)
   | (with_reducible exact shutterref15_Do.mono _ _ _ _ _ _ _ _)
   | (with_reducible exact shutterref16_Do.mono _ _ _ _ _ _ _ _)
   | (with_reducible exact LeO.refl _)
   | (with_reducible exact LeO.none _)
   | (with_reducible refine LeO.ite ?_ ?_)
   | (with_reducible refine LeO.bind ?_ (fun _ => ?_))
   | exact l _ _ _ _ _ _ _ _ _
   | exact m _ _ _ _ _ _ _ _ _
   | exact n _ _ _ _ _ _ _ _ _
   | exact o _ _ _ _ _ _ _ _ _ _ _ _ _ _ _
   | exact p _ _ _ _ _ _ _ _ _
   | exact q _ _ _ _ _ _ _ _ _
   | exact s _ _ _ _ _ _ _ _ _ _ _ _ _ _ _
   | exact t _ _ _ _ _ _ _ _ _ _ _ _ _ _ _
   | exact shutterref11_Next.mono _ _ _ _ _ _ _ _
   | exact shutterref14_Type.mono _ _ _ _ _ _ _ _
   | exact shutterref15_Do.mono _ _ _ _ _ _ _ _
   | exact shutterref16_Do.mono _ _ _ _ _ _ _ _
   | exact LeO.none _
   | refine LeO.ite ?_ ?_
   | refine LeO.bind ?_ (fun _ => ?_)
  ·intro a b c d e f g i j z u v w x y
   unfold shutterref17_Do.j7
   repeat' first
   | (with_reducible exact l _ _ _ _ _ _ _ _ _)
   | (with_reducible exact m _ _ _ _ _ _ _ _ _)
   | (with_reducible exact n _ _ _ _ _ _ _ _ _)
   | (with_reducible exact o _ _ _ _ _ _ _ _ _ _ _ _ _ _ _)
   | (with_reducible exact p _ _ _ _ _ _ _ _ _)
   | (with_reducible exact q _ _ _ _ _ _ _ _ _)
   | (with_reducible exact s _ _ _ _ _ _ _ _ _ _ _ _ _ _ _)
   | (with_reducible exact t _ _ _ _ _ _ _ _ _ _ _ _ _ _ _)
   | (with_reducible exact shutterref11_Next.mono _ _ _ _ _ _ _ _)
   | (with_reducible exact shutterref14_Type.mono _ _ _ _ _ _ _ _)
   | (with_reducible exact shutterref15_Do.mono _ _ _ _ _ _ _ _)
   | (with_reducible exact shutterref16_Do.mono _ _ _ _ _ _ _ _)
   | (with_reducible exact LeO.refl _)
   | (with_reducible exact LeO.none _)
   | (with_reducible refine LeO.ite ?_ ?_)
   | (with_reducible refine LeO.bind ?_ (fun _ => ?_))
   | exact l _ _ _ _ _ _ _ _ _
   | exact m _ _ _ _ _ _ _ _ _
   | exact n _ _ _ _ _ _ _ _ _
   | exact o _ _ _ _ _ _ _ _ _ _ _ _ _ _ _
   | exact p _ _ _ _ _ _ _ _ _
   | exact q _ _ _ _ _ _ _ _ _
   | exact s _ _ _ _ _ _ _ _ _ _ _ _ _ _ _
   | exact t _ _ _ _ _ _ _ _ _ _ _ _ _ _ _
   | exact shutterref11_Next.mono _ _ _ _ _ _ _ _
   | exact shutterref14_Type.mono _ _ _ _ _ _ _ _
   | exact shutterref15_Do.mono _ _ _ _ _ _ _ _
   | exact shutterref16_Do.mono _ _ _ _ _ _ _ _
   | exact LeO.none _
   | refine LeO.ite ?_ ?_
   | refine LeO.bind ?_ (fun _ => ?_)
theorem shutterref17_Do.mono : ∀ a0 a1 j l a4 m n o k, LeO (shutterref17_Do.f k a0 a1 j l a4 m n o) (shutterref17_Do.f (k + 1) a0 a1 j l a4 m n o) := by
 intro a0 a1 j l a4 m n o k
 obtain ⟨a, b, c, d, e, g, h, i⟩ := shutterref17_Do.mono_l k
 unfold shutterref17_Do.f
 repeat' first
   | (with_reducible exact a _ _ _ _ _ _ _ _ _)
   | (with_reducible exact b _ _ _ _ _ _ _ _ _)
   | (with_reducible exact c _ _ _ _ _ _ _ _ _)
   | (with_reducible exact d _ _ _ _ _ _ _ _ _ _ _ _ _ _ _)
   | (with_reducible exact e _ _ _ _ _ _ _ _ _)
   | (with_reducible exact g _ _ _ _ _ _ _ _ _)
   | (with_reducible exact h _ _ _ _ _ _ _ _ _ _ _ _ _ _ _)
   | (with_reducible exact i _ _ _ _ _ _ _ _ _ _ _ _ _ _ _)
   | (with_reducible exact shutterref11_Next.mono _ _ _ _ _ _ _ _)
   | (with_reducible exact shutterref14_Type.mono _ _ _ _ _ _ _ _)
   | (with_reducible exact shutterref15_Do.mono _ _ _ _ _ _ _ _)
   | (with_reducible exact shutterref16_Do.mono _ _ _ _ _ _ _ _)
   | (with_reducible exact LeO.refl _)
   | (with_reducible exact LeO.none _)
   | (with_reducible refine LeO.ite ?_ ?_)
   | (with_reducible refine LeO.bind ?_ (fun _ => ?_))
   | exact a _ _ _ _ _ _ _ _ _
   | exact b _ _ _ _ _ _ _ _ _
   | exact c _ _ _ _ _ _ _ _ _
   | exact d _ _ _ _ _ _ _ _ _ _ _ _ _ _ _
   | exact e _ _ _ _ _ _ _ _ _
   | exact g _ _ _ _ _ _ _ _ _
   | exact h _ _ _ _ _ _ _ _ _ _ _ _ _ _ _
   | exact i _ _ _ _ _ _ _ _ _ _ _ _ _ _ _
   | exact shutterref11_Next.mono _ _ _ _ _ _ _ _
   | exact shutterref14_Type.mono _ _ _ _ _ _ _ _
   | exact shutterref15_Do.mono _ _ _ _ _ _ _ _
   | exact shutterref16_Do.mono _ _ _ _ _ _ _ _
   | exact LeO.none _
   | refine LeO.ite ?_ ?_
   | refine LeO.bind ?_ (fun _ => ?_)
theorem shutterref17_Do.calls (k : Nat) (B C : Int) (an : Nat → Prop) (ad : Option Addr) (af : Nat) (n : List (S55)) (z : Int) (E D : Bool) (m L r1 r2 : Int) (r3 : List (S55)) (r4 : Int) (r5 r6 r7 : Bool) (r8 r9 : Int) (w : World) (ln : Kd.V k55 55 w w.heap.size (fun k_ => an k_) (.slice ad n.length af) n) (h : shutterref17_Do.f k B C n z E D m L = some (r1, r2, r3, r4, r5, r6, r7, r8, r9)) :
  Calls Tryz.prog 16 #[.agg #[.int .i64 B, .int .i64 C, .slice ad n.length af, .int .i64 z, .bool E, .bool D], .agg #[.int .i64 m, .int .u8 L]] w fun e w' => ∃ lu : Value, e = .returned (.tuple #[.agg #[.int .i64 r1, .int .i64 r2, lu, .int .i64 r4, .bool r5, .bool r6], .bool r7, .int .i64 r8, .int .i64 r9]) ∧ Kd.V k55 55 w' w.heap.size (fun k_ => (an k_ ∨ w.heap.size ≤ k_)) lu r3 ∧ Below w.heap.size w w' := by
 have tS := Tryz.underlying24
 have tT := Tryz.underlying45
 have be := Z (show Kd.V k55 55 w w.heap.size (fun k_ => (an k_ ∨ w.heap.size ≤ k_)) (.slice ad n.length af) n from Kd.V_mono ln (fun k_ hk => .inl hk))
 have HB := Z (Below.refl w.heap.size w)
 unfold shutterref17_Do.f at h
 have H := h
 clear h
 have kz := Z H
 clear H
 go_enter Tryz.func16, Tryz.ntmps16
 go_upto_region 1 with (first | ((with_reducible refine gD_ 2 rfl ?_); refine bx_ 2 24 #[.int .i64 B, .int .i64 C, .slice ad n.length af, .int .i64 z, .bool E, .bool D] ?_; intro F hg w4 hbox hb; replace be := ve' be hg hb; have d := Z hbox; have pc := ln' w hg; replace HB := bs_ hb; clear hb hbox hg) | ((with_reducible refine gD_ 3 rfl ?_); refine bx_ 3 45 #[.int .i64 m, .int .u8 L] ?_; intro G hg w5 hbox hb; replace be := ve' be hg hb; have c := Z hbox; have pd := ln' w hg; replace HB := bs_ hb; have u := nl' d hg; replace d := kb' d hb; clear hb hbox hg) | ((with_reducible refine gD_ 4 rfl ?_); refine bx_ 4 24 zS_ ?_; intro a hg w6 hbox hb; replace be := ve' be hg hb; have b := Z hbox; have pe := ln' w hg; replace HB := bs_ hb; have l := nl' d hg; replace d := kb' d hb; have i := nl' c hg; replace c := kb' c hb; clear hb hbox hg))
 (try simp only [Act.put, sA, sB, sC])
 go_cut [30] (fun rO wc => ∃ (kq : Nat) (gr : Bool), rO = .bool gr ∧ Aside0 (shutterref17_Do.j0 kq gr B C n z E D m L = some (r1, r2, r3, r4, r5, r6, r7, r8, r9)) ∧ Aside0 (kq ≤ k) ∧ Aside0 (Kd.V k55 55 wc w.heap.size (fun k_ => (an k_ ∨ w.heap.size ≤ k_) ∧ k_ ≠ F ∧ k_ ≠ G ∧ k_ ≠ a) (.slice ad n.length af) n) ∧ Aside0 (wc.heap[F]? = some (.cells #[.int .i64 B, .int .i64 C, (.slice ad n.length af), .int .i64 z, .bool E, .bool D] 24 (0, 0))) ∧ Aside0 (wc.heap[G]? = some (.cells #[.int .i64 m, .int .u8 L] 45 (0, 0))) ∧ Aside0 (wc.heap[a]? = some (.cells zS_ 24 (0, 0))) ∧ Aside0 (Below w.heap.size w wc))
 case first =>
  have H := kz.out
  clear kz
  by_cases c7 : m = 1
  ·rw [if_pos c7] at H
   obtain ⟨bD, cJ⟩ := eT_ c7
   clear c7
   (first | rw [bD] | (simp only [i64_w, i32_w]; rw [bD]) | skip)
   have H' := Z H
   clear H
   have tO := ns_ u
   have tP := ns_ i
   have bg := cells2 c.out
   go_wp2
   go_meet
   case rel => exact ⟨_, (true), (dn_), H', ⟨by first | omega | exact Nat.le_refl _⟩, ⟨by (with_reducible repeat apply pV); exact Kd.V_mono be.out im_⟩, ⟨vK d.out⟩, ⟨vK c.out⟩, ⟨vK b.out⟩, ⟨bl_⟩⟩
  rw [if_neg c7] at H
  obtain ⟨bD, cJ⟩ := eF_ c7
  (first | rw [bD] | (simp only [i64_w, i32_w]; rw [bD]) | skip)
  by_cases b0 : m = 10
  ·rw [if_pos b0] at H
   obtain ⟨bR, bS⟩ := eT_ b0
   clear b0
   have H' := Z H
   clear H
   have rV := ns_ u
   have rW := ns_ i
   have bi := cells2 c.out
   go_wp2
   go_meet
   case rel => exact ⟨_, (true), (dn_), H', ⟨by first | omega | exact Nat.le_refl _⟩, ⟨by (with_reducible repeat apply pV); exact Kd.V_mono be.out im_⟩, ⟨vK d.out⟩, ⟨vK c.out⟩, ⟨vK b.out⟩, ⟨bl_⟩⟩
  rw [if_neg b0] at H
  obtain ⟨bR, bS⟩ := eF_ b0
  have H' := Z H
  clear H
  have rX := ns_ u
  have rY := ns_ i
  have bk := cells2 c.out
  go_wp2
  go_meet
  case rel => exact ⟨_, ((m == 11)), (dn_), H', ⟨by first | omega | exact Nat.le_refl _⟩, ⟨by (with_reducible repeat apply pV); exact Kd.V_mono be.out im_⟩, ⟨vK d.out⟩, ⟨vK c.out⟩, ⟨vK b.out⟩, ⟨bl_⟩⟩
 clear kz
 obtain ⟨kq, gr, rfl, HA, b2, GD, d, c, b, HB⟩ := hcut
 cases kq with
 | zero => exact absurd HA.out (by simp [shutterref17_Do.j0])
 | succ jc =>
  have H := HA.out
  clear HA
  simp only [shutterref17_Do.j0] at H
  by_cases cR : gr = true
  ·subst cR
   rw [if_pos rfl] at H
   have jo := Z H
   clear H
   have rZ := ns_ u
   have r0 := ns_ i
   have bE := cells2 c.out
   go_upto_if 35 with (fail)
   go_cut [8] (fun v8 wc => ∃ (kq : Nat) (gs : Int), v8 = .int .u8 gs ∧ Aside0 (shutterref17_Do.j1 kq gs B C n z E D m L = some (r1, r2, r3, r4, r5, r6, r7, r8, r9)) ∧ Aside0 (kq ≤ jc) ∧ Aside0 (Kd.V k55 55 wc w.heap.size (fun k_ => (an k_ ∨ w.heap.size ≤ k_) ∧ k_ ≠ F ∧ k_ ≠ G ∧ k_ ≠ a) (.slice ad n.length af) n) ∧ Aside0 (wc.heap[F]? = some (.cells #[.int .i64 B, .int .i64 C, (.slice ad n.length af), .int .i64 z, .bool E, .bool D] 24 (0, 0))) ∧ Aside0 (wc.heap[G]? = some (.cells #[.int .i64 m, .int .u8 L] 45 (0, 0))) ∧ Aside0 (wc.heap[a]? = some (.cells zS_ 24 (0, 0))) ∧ Aside0 (Below w.heap.size w wc))
   case first =>
    have H := jo.out
    clear jo
    by_cases b3 : m = 10
    ·rw [if_pos b3] at H
     obtain ⟨bf, b4⟩ := eT_ b3
     clear b3
     (first | rw [bf] | (simp only [i64_w, i32_w]; rw [bf]) | skip)
     have H' := Z H
     clear H
     go_wp2
     go_meet
     case rel => exact ⟨_, (28), (dn_), H', ⟨by have := b2.out; first | omega | exact Nat.le_refl _⟩, ⟨vV GD.out⟩, ⟨vK d.out⟩, ⟨vK c.out⟩, ⟨vK b.out⟩, ⟨bl_⟩⟩
    rw [if_neg b3] at H
    obtain ⟨bf, b4⟩ := eF_ b3
    (first | rw [bf] | (simp only [i64_w, i32_w]; rw [bf]) | skip)
    have H' := Z H
    clear H
    go_wp2
    go_meet
    case rel => exact ⟨_, (L), (dn_), H', ⟨by have := b2.out; first | omega | exact Nat.le_refl _⟩, ⟨vV GD.out⟩, ⟨vK d.out⟩, ⟨vK c.out⟩, ⟨vK b.out⟩, ⟨bl_⟩⟩
   clear jo
   try clear cR
   try clear bE
   obtain ⟨kq, gs, rfl, HA, jg, GD, d, c, b, HB⟩ := hcut
   cases kq with
   | zero => exact absurd HA.out (by simp [shutterref17_Do.j1])
   | succ oX =>
    have H := HA.out
    clear HA
    simp only [shutterref17_Do.j1] at H
    have jp := Z H
    clear H
    have sa := ns_ u
    have sb := ns_ i
    have bV := cells2 c.out
    go_upto_if 38 with (fail)
    go_cut [8] (fun v8 wc => ∃ (kq : Nat) (fV : Int), v8 = .int .u8 fV ∧ Aside0 (shutterref17_Do.j2 kq fV B C n z E D m L = some (r1, r2, r3, r4, r5, r6, r7, r8, r9)) ∧ Aside0 (kq ≤ oX) ∧ Aside0 (Kd.V k55 55 wc w.heap.size (fun k_ => (an k_ ∨ w.heap.size ≤ k_) ∧ k_ ≠ F ∧ k_ ≠ G ∧ k_ ≠ a) (.slice ad n.length af) n) ∧ Aside0 (wc.heap[F]? = some (.cells #[.int .i64 B, .int .i64 C, (.slice ad n.length af), .int .i64 z, .bool E, .bool D] 24 (0, 0))) ∧ Aside0 (wc.heap[G]? = some (.cells #[.int .i64 m, .int .u8 L] 45 (0, 0))) ∧ Aside0 (wc.heap[a]? = some (.cells zS_ 24 (0, 0))) ∧ Aside0 (Below w.heap.size w wc))
    case first =>
     have H := jp.out
     clear jp
     by_cases b7 : m = 11
     ·rw [if_pos b7] at H
      obtain ⟨bt, cI⟩ := eT_ b7
      clear b7
      (first | rw [bt] | (simp only [i64_w, i32_w]; rw [bt]) | skip)
      have H' := Z H
      clear H
      go_wp2
      go_meet
      case rel => exact ⟨_, (30), (dn_), H', ⟨by have := b2.out; have := jg.out; first | omega | exact Nat.le_refl _⟩, ⟨vV GD.out⟩, ⟨vK d.out⟩, ⟨vK c.out⟩, ⟨vK b.out⟩, ⟨bl_⟩⟩
     rw [if_neg b7] at H
     obtain ⟨bt, cI⟩ := eF_ b7
     (first | rw [bt] | (simp only [i64_w, i32_w]; rw [bt]) | skip)
     have H' := Z H
     clear H
     go_wp2
     go_meet
     case rel => exact ⟨_, (gs), (dn_), H', ⟨by have := b2.out; have := jg.out; first | omega | exact Nat.le_refl _⟩, ⟨vV GD.out⟩, ⟨vK d.out⟩, ⟨vK c.out⟩, ⟨vK b.out⟩, ⟨bl_⟩⟩
    clear jp
    try clear cR
    try clear bE
    try clear bV
    obtain ⟨kq, fV, rfl, HA, kA, GD, d, c, b, HB⟩ := hcut
    cases kq with
    | zero => exact absurd HA.out (by simp [shutterref17_Do.j2])
    | succ jj =>
     have H := HA.out
     clear HA
     simp only [shutterref17_Do.j2] at H
     replace H := bn_ H
     obtain ⟨⟨O, T, P, aN, ah, aj, bA, bU⟩, o4, H⟩ := H
     try dsimp only at H
     have jq := Z H
     clear H
     have sc := ns_ u
     have sd := ns_ l
     have b8 := cells6 d.out
     go_upto_region 8 with (first | ((with_reducible refine gF_ 39 rfl ?_); refine gd_ (some 42) Tryz.func39 (shutterref14_Type.calls jj B C (fun k_ => ((an k_ ∨ w.heap.size ≤ k_) ∧ (k_ ≠ F ∧ (k_ ≠ G ∧ k_ ≠ a)))) _ _ n z E D fV O T P aN ah aj bA bU _ GD.out o4.out) ?_; rintro e tZ ⟨ty, rfl, bQ, hb⟩; refine ⟨_, rfl, ?_⟩; replace GD := vb' GD hb; have b5 := Z (Kd.V_lower (Kd.V_mono (ok' := fun k_ => (an k_ ∨ w.heap.size ≤ k_) ∧ k_ ≠ F ∧ k_ ≠ G ∧ k_ ≠ a) bQ (fun k_ hk_ => hk_.elim (fun hs_ => ⟨hs_.1, hs_.2.1, hs_.2.2.1, hs_.2.2.2⟩) (fun hn_ => ⟨(ir_ hn_), (fb d.out k_ hn_), (fb c.out k_ hn_), (fb b.out k_ hn_)⟩))) (below_size bl_)); replace d := kb' d hb; replace c := kb' c hb; replace b := kb' b hb; replace HB := bs_ hb; (try clear hb); (try clear hk); (try clear bQ)) | ((with_reducible refine gD_ 9 rfl ?_); refine bx_ 9 24 zS_ ?_; intro A hg t0 hbox hb; replace GD := ve' GD hg hb; replace b5 := ve' b5 hg hb; have av := Z hbox; have pf := ln' w hg; replace HB := bs_ hb; have aJ := nl' d hg; replace d := kb' d hb; have ap := nl' c hg; replace c := kb' c hb; have ay := nl' b hg; replace b := kb' b hb; clear hb hbox hg; have se := ns_ aJ; have sf := ns_ ap; have sg := ns_ ay; have ce := cells6 av.out; obtain ⟨aw, ax, lV⟩ := Kd.V_slice b5.out; subst lV))
     (try simp only [Act.put, sA, sB, sC])
     go_cut [52] (fun rP wc => ∃ (kq : Nat) (fT : Bool), rP = .bool fT ∧ Aside0 (shutterref17_Do.j3 kq bA bU fT B C n z E D O T P aN ah aj = some (r1, r2, r3, r4, r5, r6, r7, r8, r9)) ∧ Aside0 (kq ≤ jj) ∧ Aside0 (Kd.V k55 55 wc w.heap.size (fun k_ => (an k_ ∨ w.heap.size ≤ k_) ∧ k_ ≠ F ∧ k_ ≠ G ∧ k_ ≠ a ∧ k_ ≠ A) (.slice ad n.length af) n) ∧ Aside0 (Kd.V k55 55 wc w.heap.size (fun k_ => (an k_ ∨ w.heap.size ≤ k_) ∧ k_ ≠ F ∧ k_ ≠ G ∧ k_ ≠ a ∧ k_ ≠ A) (.slice aw P.length ax) P) ∧ Aside0 (wc.heap[F]? = some (.cells #[.int .i64 B, .int .i64 C, (.slice ad n.length af), .int .i64 z, .bool E, .bool D] 24 (0, 0))) ∧ Aside0 (wc.heap[G]? = some (.cells #[.int .i64 m, .int .u8 L] 45 (0, 0))) ∧ Aside0 (wc.heap[a]? = some (.cells zS_ 24 (0, 0))) ∧ Aside0 (wc.heap[A]? = some (.cells #[.int .i64 O, .int .i64 T, (.slice aw P.length ax), .int .i64 aN, .bool ah, .bool aj] 24 (0, 0))) ∧ Aside0 (Below w.heap.size w wc))
     case first =>
      have H := jq.out
      clear jq
      by_cases cO : m = 10
      ·rw [if_pos cO] at H
       obtain ⟨bJ, cU⟩ := eT_ cO
       clear cO
       (first | rw [bJ] | (simp only [i64_w, i32_w]; rw [bJ]) | skip)
       have H' := Z H
       clear H
       have sh := ns_ u
       have si := ns_ i
       have sj := ns_ ap
       have ck := cells2 c.out
       go_wp2
       go_meet
       case rel => exact ⟨_, ((bA == 0)), (dn_), H', ⟨by have := b2.out; have := jg.out; have := kA.out; first | omega | exact Nat.le_refl _⟩, ⟨by (with_reducible repeat apply pV); exact Kd.V_mono (f6V A (Kd.V_mono GD.out (fun k_ hk => (⟨hk, hk.2⟩ : _ ∧ k_ ≠ A))) im_) im_⟩, ⟨by (with_reducible repeat apply pV); exact Kd.V_mono (f6V A (Kd.V_mono b5.out (fun k_ hk => (⟨hk, hk.2⟩ : _ ∧ k_ ≠ A))) im_) im_⟩, ⟨blk_off d.out aJ.out off2_⟩, ⟨blk_off c.out ap.out off2_⟩, ⟨blk_off b.out ay.out off2_⟩, ⟨put6 av.out⟩, ⟨bl_⟩⟩
      rw [if_neg cO] at H
      obtain ⟨bJ, cU⟩ := eF_ cO
      (first | rw [bJ] | (simp only [i64_w, i32_w]; rw [bJ]) | skip)
      have H' := Z H
      clear H
      have sk := ns_ u
      have sl := ns_ i
      have sm := ns_ ap
      have cm := cells2 c.out
      go_wp2
      go_meet
      case rel => exact ⟨_, (false), (dn_), H', ⟨by have := b2.out; have := jg.out; have := kA.out; first | omega | exact Nat.le_refl _⟩, ⟨by (with_reducible repeat apply pV); exact Kd.V_mono (f6V A (Kd.V_mono GD.out (fun k_ hk => (⟨hk, hk.2⟩ : _ ∧ k_ ≠ A))) im_) im_⟩, ⟨by (with_reducible repeat apply pV); exact Kd.V_mono (f6V A (Kd.V_mono b5.out (fun k_ hk => (⟨hk, hk.2⟩ : _ ∧ k_ ≠ A))) im_) im_⟩, ⟨blk_off d.out aJ.out off2_⟩, ⟨blk_off c.out ap.out off2_⟩, ⟨blk_off b.out ay.out off2_⟩, ⟨put6 av.out⟩, ⟨bl_⟩⟩
     clear jq
     try clear cR
     try clear bE
     try clear bV
     try clear b8
     try clear ce
     obtain ⟨kq, fT, rfl, HA, tC, GD, GE, d, c, b, av, HB⟩ := hcut
     cases kq with
     | zero => exact absurd HA.out (by simp [shutterref17_Do.j3])
     | succ jY =>
      have H := HA.out
      clear HA
      simp only [shutterref17_Do.j3] at H
      cases fT
      ·rw [iF_] at H
       obtain ⟨rfl, rfl, rfl, rfl, rfl, rfl, rfl, rfl, rfl⟩ := ij9_ H
       have sz := ns_ aJ
       have sD := ns_ ap
       have sE := ns_ ay
       have dR := cells6 av.out
       have sF := ns_ l
       have sG := ns_ i
       have dX := cells6 b.out
       go_wp2
       refine bodyPost_ret (results_list (rs := [.cell 4 24, .tmp 5, .tmp 6, .tmp 7]) rfl (by simp) (.cell a 24 #[.int .i64 O, .int .i64 T, .slice aw P.length ax, .int .i64 aN, .bool ah, .bool aj] (0, 0) _ rfl (put6 b.out) Tryz.underlying24 rfl (by kernel_rfl) (.tmp (.tmp (.tmp .nil))))) rfl ?_
       exact ⟨_, er_, by (with_reducible repeat apply pV); exact Kd.V_mono (f6V a (Kd.V_mono GE.out (fun k_ hk => (⟨hk, hk.2.2.2.1⟩ : _ ∧ k_ ≠ a))) im_) im_, bl_⟩
      rw [if_pos rfl] at H
      replace H := bn_ H
      obtain ⟨aE, lp, H⟩ := H
      by_cases fa : aE < 0
      ·rw [if_pos fa] at H
       have fR := decide_eq_true fa
       clear fa
       obtain ⟨rfl, rfl, rfl, rfl, rfl, rfl, rfl, rfl, rfl⟩ := ij9_ H
       have sn := ns_ aJ
       have so := ns_ ap
       have sp := ns_ ay
       have cV := cells6 av.out
       have sq := ns_ u
       have sr := ns_ l
       have da := cells6 d.out
       go_wp2_with (first | ((with_reducible refine gF_ 35 rfl ?_); refine gd_ (some 56) Tryz.func35 (shutterref11_Next.calls jY O T _ _ P aN ah aj z aE _ (vC_ GE) (vL_ GE) lp.out) ?_; rintro e rS ⟨rfl, hb⟩; refine ⟨_, rfl, ?_⟩; replace GD := vb' GD hb; replace GE := vb' GE hb; replace d := kb' d hb; replace c := kb' c hb; replace b := kb' b hb; replace av := kb' av hb; replace HB := bs_ hb; (try clear hb); (try clear hk); have dg := cells6 av.out; have ss := ns_ i; have dm := cells6 b.out) | ((with_reducible refine gate_store (t := 24) (p := 4) rfl ?_); refine sx_ 24 4 ((((((((rS.setCell ⟨A, 3, none⟩ (.int .i64 aE)).setCell ⟨A, 3, none⟩ (.int .i64 0)).setCell ⟨a, 0, none⟩ (.int .i64 O)).setCell ⟨a, 1, none⟩ (.int .i64 T)).setCell ⟨a, 2, none⟩ (.slice aw P.length ax)).setCell ⟨a, 3, none⟩ (.int .i64 0)).setCell ⟨a, 4, none⟩ (.bool ah)).setCell ⟨a, 5, none⟩ (.bool aj)) ?_; intro w64 hw; have W : Aside0 (Kd.V k55 55 w64 w.heap.size (fun k_ => (an k_ ∨ w.heap.size ≤ k_) ∧ k_ ≠ F ∧ k_ ≠ G ∧ k_ ≠ a ∧ k_ ≠ A) (.slice ad n.length af) n) := ⟨(by rw [hw]; exact (by (with_reducible repeat apply pV); exact Kd.V_mono (f6V a (Kd.V_far (p := ⟨A, 3, none⟩) (Kd.V_far (p := ⟨A, 3, none⟩) (Kd.V_mono (Kd.V_mono GD.out (fun k_ hk => (⟨hk, hk.2.2.2.2⟩ : _ ∧ k_ ≠ A))) (fun k_ hk => (⟨hk, hk.1.2.2.2.1⟩ : _ ∧ k_ ≠ a))) (fun _ hk => hk.1.2) (.int .i64 aE)) (fun _ hk => hk.1.2) (.int .i64 0)) (fun _ hk => hk.2)) (fun _ hk => ⟨hk.1.1.1, ⟨hk.1.1.2.1, ⟨hk.1.1.2.2.1, ⟨hk.1.1.2.2.2.1, hk.1.1.2.2.2.2⟩⟩⟩⟩)))⟩; have X : Aside0 (Kd.V k55 55 w64 w.heap.size (fun k_ => (an k_ ∨ w.heap.size ≤ k_) ∧ k_ ≠ F ∧ k_ ≠ G ∧ k_ ≠ a ∧ k_ ≠ A) (.slice aw P.length ax) P) := ⟨(by rw [hw]; exact (by (with_reducible repeat apply pV); exact Kd.V_mono (f6V a (Kd.V_far (p := ⟨A, 3, none⟩) (Kd.V_far (p := ⟨A, 3, none⟩) (Kd.V_mono (Kd.V_mono GE.out (fun k_ hk => (⟨hk, hk.2.2.2.2⟩ : _ ∧ k_ ≠ A))) (fun k_ hk => (⟨hk, hk.1.2.2.2.1⟩ : _ ∧ k_ ≠ a))) (fun _ hk => hk.1.2) (.int .i64 aE)) (fun _ hk => hk.1.2) (.int .i64 0)) (fun _ hk => hk.2)) (fun _ hk => ⟨hk.1.1.1, ⟨hk.1.1.2.1, ⟨hk.1.1.2.2.1, ⟨hk.1.1.2.2.2.1, hk.1.1.2.2.2.2⟩⟩⟩⟩)))⟩; have Y : Aside0 (w64.heap[F]? = some (.cells #[.int .i64 B, .int .i64 C, .slice ad n.length af, .int .i64 z, .bool E, .bool D] 24 (0, 0))) := ⟨(by rw [hw]; exact (by (with_reducible repeat apply pK); refine blk_far ?_ l.out _; (with_reducible repeat apply pK); refine blk_far ?_ l.out _; (with_reducible repeat apply pK); refine blk_far ?_ l.out _; (with_reducible repeat apply pK); refine blk_far ?_ l.out _; (with_reducible repeat apply pK); refine blk_far ?_ l.out _; (with_reducible repeat apply pK); refine blk_far ?_ l.out _; (with_reducible repeat apply pK); refine blk_far ?_ aJ.out _; (with_reducible repeat apply pK); refine blk_far ?_ aJ.out _; (with_reducible repeat apply pK); exact d.out))⟩; have aa : Aside0 (w64.heap[G]? = some (.cells #[.int .i64 m, .int .u8 L] 45 (0, 0))) := ⟨(by rw [hw]; exact (by (with_reducible repeat apply pK); refine blk_far ?_ i.out _; (with_reducible repeat apply pK); refine blk_far ?_ i.out _; (with_reducible repeat apply pK); refine blk_far ?_ i.out _; (with_reducible repeat apply pK); refine blk_far ?_ i.out _; (with_reducible repeat apply pK); refine blk_far ?_ i.out _; (with_reducible repeat apply pK); refine blk_far ?_ i.out _; (with_reducible repeat apply pK); refine blk_far ?_ ap.out _; (with_reducible repeat apply pK); refine blk_far ?_ ap.out _; (with_reducible repeat apply pK); exact c.out))⟩; have ab : Aside0 (w64.heap[a]? = some (.cells #[.int .i64 O, .int .i64 T, .slice aw P.length ax, .int .i64 0, .bool ah, .bool aj] 24 (0, 0))) := ⟨(by rw [hw]; exact (put6 (by (with_reducible repeat apply pK); refine blk_far ?_ ay.out _; (with_reducible repeat apply pK); refine blk_far ?_ ay.out _; (with_reducible repeat apply pK); exact b.out)))⟩; have ac : Aside0 (w64.heap[A]? = some (.cells #[.int .i64 O, .int .i64 T, .slice aw P.length ax, .int .i64 0, .bool ah, .bool aj] 24 (0, 0))) := ⟨(by rw [hw]; exact (by (with_reducible repeat apply pK); refine blk_far ?_ ay.out.symm _; (with_reducible repeat apply pK); refine blk_far ?_ ay.out.symm _; (with_reducible repeat apply pK); refine blk_far ?_ ay.out.symm _; (with_reducible repeat apply pK); refine blk_far ?_ ay.out.symm _; (with_reducible repeat apply pK); refine blk_far ?_ ay.out.symm _; (with_reducible repeat apply pK); refine blk_far ?_ ay.out.symm _; (with_reducible repeat apply pK); refine blk_put (cs := #[.int .i64 O, .int .i64 T, .slice aw P.length ax, .int .i64 aE, .bool ah, .bool aj]) ?_ 3 _ rfl; (with_reducible repeat apply pK); refine blk_put (cs := #[.int .i64 O, .int .i64 T, .slice aw P.length ax, .int .i64 aN, .bool ah, .bool aj]) ?_ 3 _ rfl; (with_reducible repeat apply pK); exact av.out))⟩; have am : Aside0 (Below w.heap.size w w64) := ⟨by rw [hw]; exact bl_⟩; clear hw GD GE d c b av HB; have GD := W; have GE := X; have d := Y; have c := aa; have b := ab; have av := ac; have HB := am; clear W X Y aa ab ac am))
       refine bodyPost_ret (results_list (rs := [.cell 4 24, .tmp 5, .tmp 6, .tmp 7]) rfl (by simp) (.cell a 24 #[.int .i64 O, .int .i64 T, .slice aw P.length ax, .int .i64 0, .bool ah, .bool aj] (0, 0) _ rfl (vK b.out) Tryz.underlying24 rfl (by kernel_rfl) (.tmp (.tmp (.tmp .nil))))) rfl ?_
       exact ⟨_, er_, by (with_reducible repeat apply pV); exact Kd.V_mono GE.out im_, bl_⟩
      rw [if_neg fa] at H
      have fR := decide_eq_false fa
      clear fa
      obtain ⟨rfl, rfl, rfl, rfl, rfl, rfl, rfl, rfl, rfl⟩ := ij9_ H
      have st := ns_ aJ
      have su := ns_ ap
      have sv := ns_ ay
      have dt := cells6 av.out
      have sw := ns_ u
      have sx := ns_ l
      have dz := cells6 d.out
      go_wp2_with (first | ((with_reducible refine gF_ 35 rfl ?_); refine gd_ (some 56) Tryz.func35 (shutterref11_Next.calls jY O T _ _ P aN ah aj z aE _ (vC_ GE) (vL_ GE) lp.out) ?_; rintro e t1 ⟨rfl, hb⟩; refine ⟨_, rfl, ?_⟩; replace GD := vb' GD hb; replace GE := vb' GE hb; replace d := kb' d hb; replace c := kb' c hb; replace b := kb' b hb; replace av := kb' av hb; replace HB := bs_ hb; (try clear hb); (try clear hk); have dF := cells6 av.out; have sy := ns_ i; have dL := cells6 b.out))
      refine bodyPost_ret (results_list (rs := [.cell 4 24, .tmp 5, .tmp 6, .tmp 7]) rfl (by simp) (.cell a 24 #[.int .i64 O, .int .i64 T, .slice aw P.length ax, .int .i64 aE, .bool ah, .bool aj] (0, 0) _ rfl (put6 (by (with_reducible repeat apply pK); refine blk_far ?_ ay.out _; (with_reducible repeat apply pK); exact b.out)) Tryz.underlying24 rfl (by kernel_rfl) (.tmp (.tmp (.tmp .nil))))) rfl ?_
      exact ⟨_, er_, by (with_reducible repeat apply pV); exact Kd.V_mono (f6V a (Kd.V_far (p := ⟨A, 3, none⟩) (Kd.V_mono (Kd.V_mono GE.out (fun k_ hk => (⟨hk, hk.2.2.2.2⟩ : _ ∧ k_ ≠ A))) (fun k_ hk => (⟨hk, hk.1.2.2.2.1⟩ : _ ∧ k_ ≠ a))) im_ (.int .i64 aE)) im_) im_, bl_⟩
  replace cR := Bool.eq_false_iff.mpr cR
  subst cR
  rw [iF_] at H
  have jr := Z H
  clear H
  go_upto_region 13 with (fail)
  go_cut [72] (fun rQ wc => ∃ (kq : Nat) (fU : Bool), rQ = .bool fU ∧ Aside0 (shutterref17_Do.j4 kq fU B C n z E D m L = some (r1, r2, r3, r4, r5, r6, r7, r8, r9)) ∧ Aside0 (kq ≤ jc) ∧ Aside0 (Kd.V k55 55 wc w.heap.size (fun k_ => (an k_ ∨ w.heap.size ≤ k_) ∧ k_ ≠ F ∧ k_ ≠ G ∧ k_ ≠ a) (.slice ad n.length af) n) ∧ Aside0 (wc.heap[F]? = some (.cells #[.int .i64 B, .int .i64 C, (.slice ad n.length af), .int .i64 z, .bool E, .bool D] 24 (0, 0))) ∧ Aside0 (wc.heap[G]? = some (.cells #[.int .i64 m, .int .u8 L] 45 (0, 0))) ∧ Aside0 (wc.heap[a]? = some (.cells zS_ 24 (0, 0))) ∧ Aside0 (Below w.heap.size w wc))
  case first =>
   have H := jr.out
   clear jr
   by_cases fc : m ≥ 2
   ·rw [if_pos fc] at H
    have bT : decide (2 ≤ m) = true := decide_eq_true fc
    clear fc
    (first | rw [bT] | (simp only [i64_w, i32_w]; rw [bT]) | skip)
    have H' := Z H
    clear H
    have sH := ns_ u
    have sI := ns_ i
    have d3 := cells2 c.out
    go_wp2
    go_meet
    case rel => exact ⟨_, (decide (m ≤ 9)), (dn_), H', ⟨by have := b2.out; first | omega | exact Nat.le_refl _⟩, ⟨vV GD.out⟩, ⟨vK d.out⟩, ⟨vK c.out⟩, ⟨vK b.out⟩, ⟨bl_⟩⟩
   rw [if_neg fc] at H
   have bT : decide (2 ≤ m) = false := decide_eq_false fc
   clear fc
   (first | rw [bT] | (simp only [i64_w, i32_w]; rw [bT]) | skip)
   have H' := Z H
   clear H
   have sJ := ns_ u
   have sK := ns_ i
   have d5 := cells2 c.out
   go_wp2
   go_meet
   case rel => exact ⟨_, (false), (dn_), H', ⟨by have := b2.out; first | omega | exact Nat.le_refl _⟩, ⟨vV GD.out⟩, ⟨vK d.out⟩, ⟨vK c.out⟩, ⟨vK b.out⟩, ⟨bl_⟩⟩
  clear jr
  try clear cR
  obtain ⟨kq, fU, rfl, HA, fW, GD, d, c, b, HB⟩ := hcut
  cases kq with
  | zero => exact absurd HA.out (by simp [shutterref17_Do.j4])
  | succ iU =>
   have H := HA.out
   clear HA
   simp only [shutterref17_Do.j4] at H
   by_cases gD : fU = true
   ·subst gD
    rw [if_pos rfl] at H
    replace H := bn_ H
    obtain ⟨⟨aA, aF, aG, a1, a5, bB, ko⟩, o5, H⟩ := H
    try dsimp only at H
    obtain ⟨rfl, rfl, rfl, rfl, rfl, rfl, rfl, rfl, rfl⟩ := ij9_ H
    have sL := ns_ u
    have sN := ns_ l
    have fY := cells6 d.out
    have sO := ns_ i
    have ge := cells2 c.out
    go_wp2_with (first | ((with_reducible refine gF_ 40 rfl ?_); refine gd_ (some 77) Tryz.func40 (shutterref15_Do.calls iU B C (fun k_ => ((an k_ ∨ w.heap.size ≤ k_) ∧ (k_ ≠ F ∧ (k_ ≠ G ∧ k_ ≠ a)))) _ _ n z E D m aA aF aG a1 a5 bB ko _ GD.out o5.out) ?_; rintro e t2 ⟨tz, rfl, bQ, hb⟩; refine ⟨_, rfl, ?_⟩; replace GD := vb' GD hb; have bK := Z (Kd.V_lower (Kd.V_mono (ok' := fun k_ => (an k_ ∨ w.heap.size ≤ k_) ∧ k_ ≠ F ∧ k_ ≠ G ∧ k_ ≠ a) bQ (fun k_ hk_ => hk_.elim (fun hs_ => ⟨hs_.1, hs_.2.1, hs_.2.2.1, hs_.2.2.2⟩) (fun hn_ => ⟨(ir_ hn_), (fb d.out k_ hn_), (fb c.out k_ hn_), (fb b.out k_ hn_)⟩))) (below_size bl_)); replace d := kb' d hb; replace c := kb' c hb; replace b := kb' b hb; replace HB := bs_ hb; (try clear hb); (try clear hk); (try clear bQ)) | ((with_reducible refine gD_ 12 rfl ?_); refine bx_ 12 24 zS_ ?_; intro ak hg rT hbox hb; replace GD := ve' GD hg hb; replace bK := ve' bK hg hb; have fP := Z hbox; have pg := ln' w hg; replace HB := bs_ hb; have aO := nl' d hg; replace d := kb' d hb; have aQ := nl' c hg; replace c := kb' c hb; have aS := nl' b hg; replace b := kb' b hb; clear hb hbox hg; have pn := ns_ aO; have po := ns_ aQ; have pp := ns_ aS; have ff := cells6 fP.out; obtain ⟨aW, aY, li⟩ := Kd.V_slice bK.out; subst li; have fl := cells6 b.out) | ((with_reducible refine gate_store (t := 24) (p := 4) rfl ?_); refine sx_ 24 4 ((((((((((((rT.setCell ⟨ak, 0, none⟩ (.int .i64 aA)).setCell ⟨ak, 1, none⟩ (.int .i64 aF)).setCell ⟨ak, 2, none⟩ (.slice aW aG.length aY)).setCell ⟨ak, 3, none⟩ (.int .i64 a1)).setCell ⟨ak, 4, none⟩ (.bool a5)).setCell ⟨ak, 5, none⟩ (.bool bB)).setCell ⟨a, 0, none⟩ (.int .i64 aA)).setCell ⟨a, 1, none⟩ (.int .i64 aF)).setCell ⟨a, 2, none⟩ (.slice aW aG.length aY)).setCell ⟨a, 3, none⟩ (.int .i64 a1)).setCell ⟨a, 4, none⟩ (.bool a5)).setCell ⟨a, 5, none⟩ (.bool bB)) ?_; intro fL hw; have W : Aside0 (Kd.V k55 55 fL w.heap.size (fun k_ => (an k_ ∨ w.heap.size ≤ k_) ∧ k_ ≠ F ∧ k_ ≠ G ∧ k_ ≠ a ∧ k_ ≠ ak) (.slice ad n.length af) n) := ⟨(by rw [hw]; exact (by (with_reducible repeat apply pV); exact Kd.V_mono (f6V a (f6V ak (Kd.V_mono (Kd.V_mono GD.out (fun k_ hk => (⟨hk, hk.2⟩ : _ ∧ k_ ≠ ak))) (fun k_ hk => (⟨hk, hk.1.1.2.2.2⟩ : _ ∧ k_ ≠ a))) (fun _ hk => hk.1.2)) (fun _ hk => hk.2)) (fun _ hk => ⟨hk.1.1.1.1, ⟨hk.1.1.1.2.1, ⟨hk.1.1.1.2.2.1, ⟨hk.1.1.1.2.2.2, hk.1.1.2⟩⟩⟩⟩)))⟩; have X : Aside0 (Kd.V k55 55 fL w.heap.size (fun k_ => (an k_ ∨ w.heap.size ≤ k_) ∧ k_ ≠ F ∧ k_ ≠ G ∧ k_ ≠ a ∧ k_ ≠ ak) (.slice aW aG.length aY) aG) := ⟨(by rw [hw]; exact (by (with_reducible repeat apply pV); exact Kd.V_mono (f6V a (f6V ak (Kd.V_mono (Kd.V_mono bK.out (fun k_ hk => (⟨hk, hk.2⟩ : _ ∧ k_ ≠ ak))) (fun k_ hk => (⟨hk, hk.1.1.2.2.2⟩ : _ ∧ k_ ≠ a))) (fun _ hk => hk.1.2)) (fun _ hk => hk.2)) (fun _ hk => ⟨hk.1.1.1.1, ⟨hk.1.1.1.2.1, ⟨hk.1.1.1.2.2.1, ⟨hk.1.1.1.2.2.2, hk.1.1.2⟩⟩⟩⟩)))⟩; have Y : Aside0 (fL.heap[F]? = some (.cells #[.int .i64 B, .int .i64 C, .slice ad n.length af, .int .i64 z, .bool E, .bool D] 24 (0, 0))) := ⟨(by rw [hw]; exact (by (with_reducible repeat apply pK); refine blk_far ?_ l.out _; (with_reducible repeat apply pK); refine blk_far ?_ l.out _; (with_reducible repeat apply pK); refine blk_far ?_ l.out _; (with_reducible repeat apply pK); refine blk_far ?_ l.out _; (with_reducible repeat apply pK); refine blk_far ?_ l.out _; (with_reducible repeat apply pK); refine blk_far ?_ l.out _; (with_reducible repeat apply pK); refine blk_far ?_ aO.out _; (with_reducible repeat apply pK); refine blk_far ?_ aO.out _; (with_reducible repeat apply pK); refine blk_far ?_ aO.out _; (with_reducible repeat apply pK); refine blk_far ?_ aO.out _; (with_reducible repeat apply pK); refine blk_far ?_ aO.out _; (with_reducible repeat apply pK); refine blk_far ?_ aO.out _; (with_reducible repeat apply pK); exact d.out))⟩; have aa : Aside0 (fL.heap[G]? = some (.cells #[.int .i64 m, .int .u8 L] 45 (0, 0))) := ⟨(by rw [hw]; exact (by (with_reducible repeat apply pK); refine blk_far ?_ i.out _; (with_reducible repeat apply pK); refine blk_far ?_ i.out _; (with_reducible repeat apply pK); refine blk_far ?_ i.out _; (with_reducible repeat apply pK); refine blk_far ?_ i.out _; (with_reducible repeat apply pK); refine blk_far ?_ i.out _; (with_reducible repeat apply pK); refine blk_far ?_ i.out _; (with_reducible repeat apply pK); refine blk_far ?_ aQ.out _; (with_reducible repeat apply pK); refine blk_far ?_ aQ.out _; (with_reducible repeat apply pK); refine blk_far ?_ aQ.out _; (with_reducible repeat apply pK); refine blk_far ?_ aQ.out _; (with_reducible repeat apply pK); refine blk_far ?_ aQ.out _; (with_reducible repeat apply pK); refine blk_far ?_ aQ.out _; (with_reducible repeat apply pK); exact c.out))⟩; have ab : Aside0 (fL.heap[a]? = some (.cells #[.int .i64 aA, .int .i64 aF, .slice aW aG.length aY, .int .i64 a1, .bool a5, .bool bB] 24 (0, 0))) := ⟨(by rw [hw]; exact (put6 (by (with_reducible repeat apply pK); refine blk_far ?_ aS.out _; (with_reducible repeat apply pK); refine blk_far ?_ aS.out _; (with_reducible repeat apply pK); refine blk_far ?_ aS.out _; (with_reducible repeat apply pK); refine blk_far ?_ aS.out _; (with_reducible repeat apply pK); refine blk_far ?_ aS.out _; (with_reducible repeat apply pK); refine blk_far ?_ aS.out _; (with_reducible repeat apply pK); exact b.out)))⟩; have ac : Aside0 (fL.heap[ak]? = some (.cells #[.int .i64 aA, .int .i64 aF, .slice aW aG.length aY, .int .i64 a1, .bool a5, .bool bB] 24 (0, 0))) := ⟨(by rw [hw]; exact (by (with_reducible repeat apply pK); refine blk_far ?_ aS.out.symm _; (with_reducible repeat apply pK); refine blk_far ?_ aS.out.symm _; (with_reducible repeat apply pK); refine blk_far ?_ aS.out.symm _; (with_reducible repeat apply pK); refine blk_far ?_ aS.out.symm _; (with_reducible repeat apply pK); refine blk_far ?_ aS.out.symm _; (with_reducible repeat apply pK); refine blk_far ?_ aS.out.symm _; (with_reducible repeat apply pK); exact put6 fP.out))⟩; have am : Aside0 (Below w.heap.size w fL) := ⟨by rw [hw]; exact bl_⟩; clear hw GD bK d c b fP HB; have GD := W; have bK := X; have d := Y; have c := aa; have b := ab; have fP := ac; have HB := am; clear W X Y aa ab ac am))
    refine bodyPost_ret (results_list (rs := [.cell 4 24, .tmp 5, .tmp 6, .tmp 7]) rfl (by simp) (.cell a 24 #[.int .i64 aA, .int .i64 aF, .slice aW aG.length aY, .int .i64 a1, .bool a5, .bool bB] (0, 0) _ rfl (vK b.out) Tryz.underlying24 rfl (by kernel_rfl) (.tmp (.tmp (.tmp .nil))))) rfl ?_
    exact ⟨_, er_, by (with_reducible repeat apply pV); exact Kd.V_mono bK.out im_, bl_⟩
   replace gD := Bool.eq_false_iff.mpr gD
   subst gD
   rw [iF_] at H
   have jd := Z H
   clear H
   go_upto_region 16 with (fail)
   go_cut [89] (fun rR wc => ∃ (kq : Nat) (e9 : Bool), rR = .bool e9 ∧ Aside0 (shutterref17_Do.j5 kq e9 B C n z E D m L = some (r1, r2, r3, r4, r5, r6, r7, r8, r9)) ∧ Aside0 (kq ≤ iU) ∧ Aside0 (Kd.V k55 55 wc w.heap.size (fun k_ => (an k_ ∨ w.heap.size ≤ k_) ∧ k_ ≠ F ∧ k_ ≠ G ∧ k_ ≠ a) (.slice ad n.length af) n) ∧ Aside0 (wc.heap[F]? = some (.cells #[.int .i64 B, .int .i64 C, (.slice ad n.length af), .int .i64 z, .bool E, .bool D] 24 (0, 0))) ∧ Aside0 (wc.heap[G]? = some (.cells #[.int .i64 m, .int .u8 L] 45 (0, 0))) ∧ Aside0 (wc.heap[a]? = some (.cells zS_ 24 (0, 0))) ∧ Aside0 (Below w.heap.size w wc))
   case first =>
    have H := jd.out
    clear jd
    by_cases cF : m ≥ 12
    ·rw [if_pos cF] at H
     have bN : decide (12 ≤ m) = true := decide_eq_true cF
     clear cF
     (first | rw [bN] | (simp only [i64_w, i32_w]; rw [bN]) | skip)
     have H' := Z H
     clear H
     have pq := ns_ u
     have pr := ns_ i
     have fr := cells2 c.out
     go_wp2
     go_meet
     case rel => exact ⟨_, (decide (m ≤ 14)), (dn_), H', ⟨by have := b2.out; have := fW.out; first | omega | exact Nat.le_refl _⟩, ⟨vV GD.out⟩, ⟨vK d.out⟩, ⟨vK c.out⟩, ⟨vK b.out⟩, ⟨bl_⟩⟩
    rw [if_neg cF] at H
    have bN : decide (12 ≤ m) = false := decide_eq_false cF
    clear cF
    (first | rw [bN] | (simp only [i64_w, i32_w]; rw [bN]) | skip)
    have H' := Z H
    clear H
    have ps := ns_ u
    have pt := ns_ i
    have ft := cells2 c.out
    go_wp2
    go_meet
    case rel => exact ⟨_, (false), (dn_), H', ⟨by have := b2.out; have := fW.out; first | omega | exact Nat.le_refl _⟩, ⟨vV GD.out⟩, ⟨vK d.out⟩, ⟨vK c.out⟩, ⟨vK b.out⟩, ⟨bl_⟩⟩
   clear jd
   try clear cR
   try clear gD
   obtain ⟨kq, e9, rfl, HA, gp, GD, d, c, b, HB⟩ := hcut
   cases kq with
   | zero => exact absurd HA.out (by simp [shutterref17_Do.j5])
   | succ cL =>
    have H := HA.out
    clear HA
    simp only [shutterref17_Do.j5] at H
    by_cases fX : e9 = true
    ·subst fX
     rw [if_pos rfl] at H
     replace H := bn_ H
     obtain ⟨⟨aB, aH, aI, a2, a6, bC, kp, kr⟩, lv, H⟩ := H
     try dsimp only at H
     obtain ⟨rfl, rfl, rfl, rfl, rfl, rfl, rfl, rfl, rfl⟩ := ij9_ H
     have pu := ns_ u
     have pv := ns_ l
     have gE := cells6 d.out
     have pw := ns_ i
     have gK := cells2 c.out
     go_wp2_with (first | ((with_reducible refine gF_ 41 rfl ?_); refine gd_ (some 94) Tryz.func41 (shutterref16_Do.calls cL B C (fun k_ => ((an k_ ∨ w.heap.size ≤ k_) ∧ (k_ ≠ F ∧ (k_ ≠ G ∧ k_ ≠ a)))) _ _ n z E D m aB aH aI a2 a6 bC kp kr _ GD.out lv.out) ?_; rintro e tU ⟨tA, rfl, bQ, hb⟩; refine ⟨_, rfl, ?_⟩; replace GD := vb' GD hb; have bL := Z (Kd.V_lower (Kd.V_mono (ok' := fun k_ => (an k_ ∨ w.heap.size ≤ k_) ∧ k_ ≠ F ∧ k_ ≠ G ∧ k_ ≠ a) bQ (fun k_ hk_ => hk_.elim (fun hs_ => ⟨hs_.1, hs_.2.1, hs_.2.2.1, hs_.2.2.2⟩) (fun hn_ => ⟨(ir_ hn_), (fb d.out k_ hn_), (fb c.out k_ hn_), (fb b.out k_ hn_)⟩))) (below_size bl_)); replace d := kb' d hb; replace c := kb' c hb; replace b := kb' b hb; replace HB := bs_ hb; (try clear hb); (try clear hk); (try clear bQ)) | ((with_reducible refine gD_ 14 rfl ?_); refine bx_ 14 24 zS_ ?_; intro al hg o1 hbox hb; replace GD := ve' GD hg hb; replace bL := ve' bL hg hb; have fQ := Z hbox; have ph := ln' w hg; replace HB := bs_ hb; have aP := nl' d hg; replace d := kb' d hb; have aR := nl' c hg; replace c := kb' c hb; have aT := nl' b hg; replace b := kb' b hb; clear hb hbox hg; have px := ns_ aP; have py := ns_ aR; have pz := ns_ aT; have gM := cells6 fQ.out; obtain ⟨aX, aZ, lj⟩ := Kd.V_slice bL.out; subst lj; have gS := cells6 b.out) | ((with_reducible refine gate_store (t := 24) (p := 4) rfl ?_); refine sx_ 24 4 ((((((((((((o1.setCell ⟨al, 0, none⟩ (.int .i64 aB)).setCell ⟨al, 1, none⟩ (.int .i64 aH)).setCell ⟨al, 2, none⟩ (.slice aX aI.length aZ)).setCell ⟨al, 3, none⟩ (.int .i64 a2)).setCell ⟨al, 4, none⟩ (.bool a6)).setCell ⟨al, 5, none⟩ (.bool bC)).setCell ⟨a, 0, none⟩ (.int .i64 aB)).setCell ⟨a, 1, none⟩ (.int .i64 aH)).setCell ⟨a, 2, none⟩ (.slice aX aI.length aZ)).setCell ⟨a, 3, none⟩ (.int .i64 a2)).setCell ⟨a, 4, none⟩ (.bool a6)).setCell ⟨a, 5, none⟩ (.bool bC)) ?_; intro fM hw; have W : Aside0 (Kd.V k55 55 fM w.heap.size (fun k_ => (an k_ ∨ w.heap.size ≤ k_) ∧ k_ ≠ F ∧ k_ ≠ G ∧ k_ ≠ a ∧ k_ ≠ al) (.slice ad n.length af) n) := ⟨(by rw [hw]; exact (by (with_reducible repeat apply pV); exact Kd.V_mono (f6V a (f6V al (Kd.V_mono (Kd.V_mono GD.out (fun k_ hk => (⟨hk, hk.2⟩ : _ ∧ k_ ≠ al))) (fun k_ hk => (⟨hk, hk.1.1.2.2.2⟩ : _ ∧ k_ ≠ a))) (fun _ hk => hk.1.2)) (fun _ hk => hk.2)) (fun _ hk => ⟨hk.1.1.1.1, ⟨hk.1.1.1.2.1, ⟨hk.1.1.1.2.2.1, ⟨hk.1.1.1.2.2.2, hk.1.1.2⟩⟩⟩⟩)))⟩; have X : Aside0 (Kd.V k55 55 fM w.heap.size (fun k_ => (an k_ ∨ w.heap.size ≤ k_) ∧ k_ ≠ F ∧ k_ ≠ G ∧ k_ ≠ a ∧ k_ ≠ al) (.slice aX aI.length aZ) aI) := ⟨(by rw [hw]; exact (by (with_reducible repeat apply pV); exact Kd.V_mono (f6V a (f6V al (Kd.V_mono (Kd.V_mono bL.out (fun k_ hk => (⟨hk, hk.2⟩ : _ ∧ k_ ≠ al))) (fun k_ hk => (⟨hk, hk.1.1.2.2.2⟩ : _ ∧ k_ ≠ a))) (fun _ hk => hk.1.2)) (fun _ hk => hk.2)) (fun _ hk => ⟨hk.1.1.1.1, ⟨hk.1.1.1.2.1, ⟨hk.1.1.1.2.2.1, ⟨hk.1.1.1.2.2.2, hk.1.1.2⟩⟩⟩⟩)))⟩; have Y : Aside0 (fM.heap[F]? = some (.cells #[.int .i64 B, .int .i64 C, .slice ad n.length af, .int .i64 z, .bool E, .bool D] 24 (0, 0))) := ⟨(by rw [hw]; exact (by (with_reducible repeat apply pK); refine blk_far ?_ l.out _; (with_reducible repeat apply pK); refine blk_far ?_ l.out _; (with_reducible repeat apply pK); refine blk_far ?_ l.out _; (with_reducible repeat apply pK); refine blk_far ?_ l.out _; (with_reducible repeat apply pK); refine blk_far ?_ l.out _; (with_reducible repeat apply pK); refine blk_far ?_ l.out _; (with_reducible repeat apply pK); refine blk_far ?_ aP.out _; (with_reducible repeat apply pK); refine blk_far ?_ aP.out _; (with_reducible repeat apply pK); refine blk_far ?_ aP.out _; (with_reducible repeat apply pK); refine blk_far ?_ aP.out _; (with_reducible repeat apply pK); refine blk_far ?_ aP.out _; (with_reducible repeat apply pK); refine blk_far ?_ aP.out _; (with_reducible repeat apply pK); exact d.out))⟩; have aa : Aside0 (fM.heap[G]? = some (.cells #[.int .i64 m, .int .u8 L] 45 (0, 0))) := ⟨(by rw [hw]; exact (by (with_reducible repeat apply pK); refine blk_far ?_ i.out _; (with_reducible repeat apply pK); refine blk_far ?_ i.out _; (with_reducible repeat apply pK); refine blk_far ?_ i.out _; (with_reducible repeat apply pK); refine blk_far ?_ i.out _; (with_reducible repeat apply pK); refine blk_far ?_ i.out _; (with_reducible repeat apply pK); refine blk_far ?_ i.out _; (with_reducible repeat apply pK); refine blk_far ?_ aR.out _; (with_reducible repeat apply pK); refine blk_far ?_ aR.out _; (with_reducible repeat apply pK); refine blk_far ?_ aR.out _; (with_reducible repeat apply pK); refine blk_far ?_ aR.out _; (with_reducible repeat apply pK); refine blk_far ?_ aR.out _; (with_reducible repeat apply pK); refine blk_far ?_ aR.out _; (with_reducible repeat apply pK); exact c.out))⟩; have ab : Aside0 (fM.heap[a]? = some (.cells #[.int .i64 aB, .int .i64 aH, .slice aX aI.length aZ, .int .i64 a2, .bool a6, .bool bC] 24 (0, 0))) := ⟨(by rw [hw]; exact (put6 (by (with_reducible repeat apply pK); refine blk_far ?_ aT.out _; (with_reducible repeat apply pK); refine blk_far ?_ aT.out _; (with_reducible repeat apply pK); refine blk_far ?_ aT.out _; (with_reducible repeat apply pK); refine blk_far ?_ aT.out _; (with_reducible repeat apply pK); refine blk_far ?_ aT.out _; (with_reducible repeat apply pK); refine blk_far ?_ aT.out _; (with_reducible repeat apply pK); exact b.out)))⟩; have ac : Aside0 (fM.heap[al]? = some (.cells #[.int .i64 aB, .int .i64 aH, .slice aX aI.length aZ, .int .i64 a2, .bool a6, .bool bC] 24 (0, 0))) := ⟨(by rw [hw]; exact (by (with_reducible repeat apply pK); refine blk_far ?_ aT.out.symm _; (with_reducible repeat apply pK); refine blk_far ?_ aT.out.symm _; (with_reducible repeat apply pK); refine blk_far ?_ aT.out.symm _; (with_reducible repeat apply pK); refine blk_far ?_ aT.out.symm _; (with_reducible repeat apply pK); refine blk_far ?_ aT.out.symm _; (with_reducible repeat apply pK); refine blk_far ?_ aT.out.symm _; (with_reducible repeat apply pK); exact put6 fQ.out))⟩; have am : Aside0 (Below w.heap.size w fM) := ⟨by rw [hw]; exact bl_⟩; clear hw GD bL d c b fQ HB; have GD := W; have bL := X; have d := Y; have c := aa; have b := ab; have fQ := ac; have HB := am; clear W X Y aa ab ac am))
     refine bodyPost_ret (results_list (rs := [.cell 4 24, .tmp 5, .tmp 6, .tmp 7]) rfl (by simp) (.cell a 24 #[.int .i64 aB, .int .i64 aH, .slice aX aI.length aZ, .int .i64 a2, .bool a6, .bool bC] (0, 0) _ rfl (vK b.out) Tryz.underlying24 rfl (by kernel_rfl) (.tmp (.tmp (.tmp .nil))))) rfl ?_
     exact ⟨_, er_, by (with_reducible repeat apply pV); exact Kd.V_mono bL.out im_, bl_⟩
    replace fX := Bool.eq_false_iff.mpr fX
    subst fX
    rw [iF_] at H
    replace H := bn_ H
    obtain ⟨⟨q, r, s, J, ao, au⟩, ks, H⟩ := H
    try dsimp only at H
    by_cases cG : m = 16
    ·rw [if_pos cG] at H
     obtain ⟨gv, gw⟩ := eT_ cG
     clear cG
     obtain ⟨rfl, rfl, rfl, rfl, rfl, rfl, rfl, rfl, rfl⟩ := ij9_ H
     have pA := ns_ u
     have pB := ns_ l
     have gY := cells6 d.out
     go_wp2_with (first | ((with_reducible refine gF_ 32 rfl ?_); refine gd_ (some 102) Tryz.func32 (shutterref10_Copy.calls B C _ _ n z E D q r s J ao au _ (vC_ GD) (vL_ GD) ks.out) ?_; rintro e tV ⟨lo, rfl, bQ, hb⟩; refine ⟨_, rfl, ?_⟩; replace GD := Z (Kd.V_elder' (vV GD.out) (Kd.R_base bQ) hb); have aK := Z (Kd.R_lower (Kd.R_newM (M := fun k_ => (w.heap.size ≤ k_)) bQ (below_size bl_) (fun k_ h_ => h_)) (below_size bl_)); replace d := kb' d hb; replace c := kb' c hb; replace b := kb' b hb; replace HB := bs_ hb; (try clear hb); (try clear hk); (try clear bQ)) | ((with_reducible refine gD_ 17 rfl ?_); refine bx_ 17 24 zS_ ?_; intro j hg o2 hbox hb; replace GD := ve' GD hg hb; replace aK := rb' aK hb; have K := Z hbox; have kx := ln' w hg; replace HB := bs_ hb; have U := nl' d hg; replace d := kb' d hb; have Q := nl' c hg; replace c := kb' c hb; have S := nl' b hg; replace b := kb' b hb; clear hb hbox hg; have pD := ns_ U; have pE := ns_ Q; have pF := ns_ S; have g4 := cells6 K.out; obtain ⟨bs, bu, lk⟩ := Kd.R_slice aK.out; subst lk; have pG := ns_ i; have ha := cells2 c.out) | ((with_reducible refine gate_store (t := 4) (p := 107) rfl ?_); refine sx_ 4 107 ((((((((o2.setCell ⟨j, 0, none⟩ (.int .i64 q)).setCell ⟨j, 1, none⟩ (.int .i64 r)).setCell ⟨j, 2, none⟩ (.slice bs s.length bu)).setCell ⟨j, 3, none⟩ (.int .i64 J)).setCell ⟨j, 4, none⟩ (.bool ao)).setCell ⟨j, 5, none⟩ (.bool au)).setCell ⟨j, 4, none⟩ (.bool false)).setCell ⟨j, 5, none⟩ (.bool false)) ?_; intro fN hw; have W : Aside0 (Kd.V k55 55 fN w.heap.size (fun k_ => (an k_ ∨ w.heap.size ≤ k_) ∧ some k_ ≠ (.slice bs s.length bu : Value).ownBlock ∧ k_ ≠ F ∧ k_ ≠ G ∧ k_ ≠ a ∧ k_ ≠ j) (.slice ad n.length af) n) := ⟨(by rw [hw]; exact (by (with_reducible repeat apply pV); exact V_off GD.out (fun k_ hk => hk.2) off2_ (fun _ hk => ⟨hk.1.1.1, ⟨hk.1.2, ⟨hk.1.1.2.1, ⟨hk.1.1.2.2.1, ⟨hk.1.1.2.2.2, hk.2⟩⟩⟩⟩⟩)))⟩; have X : Aside0 (Kd.R k55 55 fN w.heap.size (fun k_ => (w.heap.size ≤ k_)) (.slice bs s.length bu) s) := ⟨(by rw [hw]; exact (by (with_reducible repeat apply pR); exact Kd.R_mono (Kd.R_far (p := ⟨j, 5, none⟩) (Kd.R_far (p := ⟨j, 4, none⟩) (f6R j (Kd.R_types aK.out K.out (by decide)) (fun _ hk => hk.2)) (fun _ hk => hk.2) (.bool false)) (fun _ hk => hk.2) (.bool false)) (fun _ hk => hk.1.1)))⟩; have Y : Aside0 (fN.heap[F]? = some (.cells #[.int .i64 B, .int .i64 C, .slice ad n.length af, .int .i64 z, .bool E, .bool D] 24 (0, 0))) := ⟨by rw [hw]; exact (blk_off d.out U.out off2_)⟩; have aa : Aside0 (fN.heap[G]? = some (.cells #[.int .i64 m, .int .u8 L] 45 (0, 0))) := ⟨by rw [hw]; exact (blk_off c.out Q.out off2_)⟩; have ab : Aside0 (fN.heap[a]? = some (.cells zS_ 24 (0, 0))) := ⟨by rw [hw]; exact (blk_off b.out S.out off2_)⟩; have ac : Aside0 (fN.heap[j]? = some (.cells #[.int .i64 q, .int .i64 r, .slice bs s.length bu, .int .i64 J, .bool false, .bool false] 24 (0, 0))) := ⟨(by rw [hw]; exact (by (with_reducible repeat apply pK); refine blk_put (cs := #[.int .i64 q, .int .i64 r, .slice bs s.length bu, .int .i64 J, .bool false, .bool au]) ?_ 5 _ rfl; (with_reducible repeat apply pK); refine blk_put (cs := #[.int .i64 q, .int .i64 r, .slice bs s.length bu, .int .i64 J, .bool ao, .bool au]) ?_ 4 _ rfl; (with_reducible repeat apply pK); exact put6 K.out))⟩; have am : Aside0 (Below w.heap.size w fN) := ⟨by rw [hw]; exact bl_⟩; clear hw GD aK d c b K HB; have GD := W; have aK := X; have d := Y; have c := aa; have b := ab; have K := ac; have HB := am; clear W X Y aa ab ac am; have he := cells6 K.out; have hp := cells6 b.out))
     refine bodyPost_ret (results_list (rs := [.cell 4 24, .tmp 5, .tmp 6, .tmp 7]) rfl (by simp) (.cell a 24 #[.int .i64 q, .int .i64 r, .slice bs s.length bu, .int .i64 J, .bool false, .bool false] (0, 0) _ rfl (put6 b.out) Tryz.underlying24 rfl (by kernel_rfl) (.tmp (.tmp (.tmp .nil))))) rfl ?_
     exact ⟨_, er_, Kd.V_mono (Kd.R_V (by (with_reducible repeat apply pR); exact R_off aK.out b.out (by decide) off2_)) (fun k_ hk => by first | exact ⟨(.inr (hk.1)), hk.2⟩ | exact (.inr (hk))), bl_⟩
    rw [if_neg cG] at H
    obtain ⟨gv, gw⟩ := eF_ cG
    have je := Z H
    clear H
    have pH := ns_ u
    have pI := ns_ l
    have hx := cells6 d.out
    go_upto_region 24 with (first | ((with_reducible refine gF_ 32 rfl ?_); refine gd_ (some 102) Tryz.func32 (shutterref10_Copy.calls B C _ _ n z E D q r s J ao au _ (vC_ GD) (vL_ GD) ks.out) ?_; rintro e tW ⟨lo, rfl, bQ, hb⟩; refine ⟨_, rfl, ?_⟩; replace GD := Z (Kd.V_elder' (vV GD.out) (Kd.R_base bQ) hb); have aK := Z (Kd.R_lower (Kd.R_newM (M := fun k_ => (w.heap.size ≤ k_)) bQ (below_size bl_) (fun k_ h_ => h_)) (below_size bl_)); replace d := kb' d hb; replace c := kb' c hb; replace b := kb' b hb; replace HB := bs_ hb; (try clear hb); (try clear hk); (try clear bQ)) | ((with_reducible refine gD_ 17 rfl ?_); refine bx_ 17 24 zS_ ?_; intro j hg tX hbox hb; replace GD := ve' GD hg hb; replace aK := rb' aK hb; have K := Z hbox; have kx := ln' w hg; replace HB := bs_ hb; have U := nl' d hg; replace d := kb' d hb; have Q := nl' c hg; replace c := kb' c hb; have S := nl' b hg; replace b := kb' b hb; clear hb hbox hg; have pJ := ns_ U; have GA := ns_ Q; have pM := ns_ S; have hD := cells6 K.out; obtain ⟨ae, ag, ll⟩ := Kd.R_slice aK.out; subst ll; have GB := ns_ i; have hJ := cells2 c.out))
    (try simp only [Act.put, sA, sB, sC])
    go_cut [116] (fun oY wc => ∃ (kq : Nat) (cM : Bool), oY = .bool cM ∧ Aside0 (shutterref17_Do.j6 kq cM B C n z E D m L q r s J ao au = some (r1, r2, r3, r4, r5, r6, r7, r8, r9)) ∧ Aside0 (kq ≤ cL) ∧ Aside0 (Kd.V k55 55 wc w.heap.size (fun k_ => (an k_ ∨ w.heap.size ≤ k_) ∧ some k_ ≠ ((.slice ae s.length ag) : Value).ownBlock ∧ k_ ≠ F ∧ k_ ≠ G ∧ k_ ≠ a ∧ k_ ≠ j) (.slice ad n.length af) n) ∧ Aside0 (Kd.R k55 55 wc w.heap.size (fun k_ => (w.heap.size ≤ k_)) (.slice ae s.length ag) s) ∧ Aside0 (wc.heap[F]? = some (.cells #[.int .i64 B, .int .i64 C, (.slice ad n.length af), .int .i64 z, .bool E, .bool D] 24 (0, 0))) ∧ Aside0 (wc.heap[G]? = some (.cells #[.int .i64 m, .int .u8 L] 45 (0, 0))) ∧ Aside0 (wc.heap[a]? = some (.cells zS_ 24 (0, 0))) ∧ Aside0 (wc.heap[j]? = some (.cells #[.int .i64 q, .int .i64 r, (.slice ae s.length ag), .int .i64 J, .bool ao, .bool au] 24 (0, 0))) ∧ Aside0 (Below w.heap.size w wc))
    case first =>
     have H := je.out
     clear je
     by_cases cH : m = 15
     ·rw [if_pos cH] at H
      obtain ⟨b1, gz⟩ := eT_ cH
      clear cH
      (first | rw [b1] | (simp only [i64_w, i32_w]; rw [b1]) | skip)
      have H' := Z H
      clear H
      have pO := ns_ u
      have pP := ns_ i
      have pQ := ns_ Q
      have hL := cells2 c.out
      go_wp2
      go_meet
      case rel => exact ⟨_, (false), (dn_), H', ⟨by have := b2.out; have := fW.out; have := gp.out; first | omega | exact Nat.le_refl _⟩, ⟨by (with_reducible repeat apply pV); exact Kd.V_mono (f6V j (Kd.V_mono GD.out (fun k_ hk => (⟨hk, hk.2⟩ : _ ∧ k_ ≠ j))) im_) im_⟩, ⟨by (with_reducible repeat apply pR); exact Kd.R_mono (f6R j (Kd.R_types aK.out K.out (by decide)) im_) im_⟩, ⟨blk_off d.out U.out off2_⟩, ⟨blk_off c.out Q.out off2_⟩, ⟨blk_off b.out S.out off2_⟩, ⟨put6 K.out⟩, ⟨bl_⟩⟩
     rw [if_neg cH] at H
     obtain ⟨b1, gz⟩ := eF_ cH
     (first | rw [b1] | (simp only [i64_w, i32_w]; rw [b1]) | skip)
     have H' := Z H
     clear H
     have GC := ns_ u
     have pT := ns_ i
     have pU := ns_ Q
     have hN := cells2 c.out
     go_wp2
     go_meet
     case rel => exact ⟨_, ((m != 17)), (dn_), H', ⟨by have := b2.out; have := fW.out; have := gp.out; first | omega | exact Nat.le_refl _⟩, ⟨by (with_reducible repeat apply pV); exact Kd.V_mono (f6V j (Kd.V_mono GD.out (fun k_ hk => (⟨hk, hk.2⟩ : _ ∧ k_ ≠ j))) im_) im_⟩, ⟨by (with_reducible repeat apply pR); exact Kd.R_mono (f6R j (Kd.R_types aK.out K.out (by decide)) im_) im_⟩, ⟨blk_off d.out U.out off2_⟩, ⟨blk_off c.out Q.out off2_⟩, ⟨blk_off b.out S.out off2_⟩, ⟨put6 K.out⟩, ⟨bl_⟩⟩
    clear je
    try clear cR
    try clear gD
    try clear fX
    try clear cG
    try clear gv
    try clear gw
    try clear hx
    try clear hD
    try clear hJ
    obtain ⟨kq, cM, rfl, HA, ka, GD, GF, d, c, b, K, HB⟩ := hcut
    cases kq with
    | zero => exact absurd HA.out (by simp [shutterref17_Do.j6])
    | succ gq =>
     have H := HA.out
     clear HA
     simp only [shutterref17_Do.j6] at H
     by_cases gA : cM = true
     ·subst gA
      rw [if_pos rfl] at H
      obtain ⟨rfl, rfl, rfl, rfl, rfl, rfl, rfl, rfl, rfl⟩ := ij9_ H
      have pW := ns_ u
      have pX := ns_ l
      have pY := ns_ U
      have js := cells6 d.out
      have pZ := ns_ i
      have p0 := ns_ S
      have jy := cells6 b.out
      go_wp2
      refine bodyPost_ret (results_list (rs := [.cell 4 24, .tmp 5, .tmp 6, .tmp 7]) rfl (by simp) (.cell a 24 #[.int .i64 B, .int .i64 C, .slice ad n.length af, .int .i64 z, .bool E, .bool D] (0, 0) _ rfl (put6 b.out) Tryz.underlying24 rfl (by kernel_rfl) (.tmp (.tmp (.tmp .nil))))) rfl ?_
      exact ⟨_, er_, by (with_reducible repeat apply pV); exact Kd.V_mono (f6V a (Kd.V_mono GD.out (fun k_ hk => (⟨hk, hk.2.2.2.2.1⟩ : _ ∧ k_ ≠ a))) im_) im_, bl_⟩
     replace gA := Bool.eq_false_iff.mpr gA
     subst gA
     rw [iF_] at H
     have jf := Z H
     clear H
     go_upto_region 26 with (fail)
     go_cut [126] (fun oZ wc => ∃ (kq : Nat) (cN : Bool), oZ = .bool cN ∧ Aside0 (shutterref17_Do.j7 kq cN B C n z E D m L q r s J ao au = some (r1, r2, r3, r4, r5, r6, r7, r8, r9)) ∧ Aside0 (kq ≤ gq) ∧ Aside0 (Kd.V k55 55 wc w.heap.size (fun k_ => (an k_ ∨ w.heap.size ≤ k_) ∧ some k_ ≠ ((.slice ae s.length ag) : Value).ownBlock ∧ k_ ≠ F ∧ k_ ≠ G ∧ k_ ≠ a ∧ k_ ≠ j) (.slice ad n.length af) n) ∧ Aside0 (Kd.R k55 55 wc w.heap.size (fun k_ => (w.heap.size ≤ k_)) (.slice ae s.length ag) s) ∧ Aside0 (wc.heap[F]? = some (.cells #[.int .i64 B, .int .i64 C, (.slice ad n.length af), .int .i64 z, .bool E, .bool D] 24 (0, 0))) ∧ Aside0 (wc.heap[G]? = some (.cells #[.int .i64 m, .int .u8 L] 45 (0, 0))) ∧ Aside0 (wc.heap[a]? = some (.cells zS_ 24 (0, 0))) ∧ Aside0 (wc.heap[j]? = some (.cells #[.int .i64 q, .int .i64 r, (.slice ae s.length ag), .int .i64 J, .bool ao, .bool au] 24 (0, 0))) ∧ Aside0 (Below w.heap.size w wc))
     case first =>
      have H := jf.out
      clear jf
      by_cases cQ : m = 17
      ·rw [if_pos cQ] at H
       obtain ⟨b6, jl⟩ := eT_ cQ
       clear cQ
       (first | rw [b6] | (simp only [i64_w, i32_w]; rw [b6]) | skip)
       replace H := bn_ H
       obtain ⟨fS, lw, H⟩ := H
       have H' := Z H
       clear H
       have p1 := ns_ u
       have p3 := ns_ i
       have p4 := ns_ Q
       have jE := cells2 c.out
       go_wp2_with (first | (go_at_call 42; (with_reducible refine (shutterref05_Aid.calls L fS _ lw.out).mono ?_); rintro e w' ⟨rfl, ⟨nd, rfl⟩⟩))
       go_meet
       case rel => exact ⟨_, (!fS), (dn_), H', ⟨by have := b2.out; have := fW.out; have := gp.out; have := ka.out; first | omega | exact Nat.le_refl _⟩, ⟨vV GD.out⟩, ⟨by (with_reducible repeat apply pR); exact GF.out⟩, ⟨vK d.out⟩, ⟨vK c.out⟩, ⟨vK b.out⟩, ⟨vK K.out⟩, ⟨bl_⟩⟩
      rw [if_neg cQ] at H
      obtain ⟨b6, jl⟩ := eF_ cQ
      (first | rw [b6] | (simp only [i64_w, i32_w]; rw [b6]) | skip)
      have H' := Z H
      clear H
      have p5 := ns_ u
      have p6 := ns_ i
      have p7 := ns_ Q
      have jG := cells2 c.out
      go_wp2
      go_meet
      case rel => exact ⟨_, (false), (dn_), H', ⟨by have := b2.out; have := fW.out; have := gp.out; have := ka.out; first | omega | exact Nat.le_refl _⟩, ⟨vV GD.out⟩, ⟨by (with_reducible repeat apply pR); exact GF.out⟩, ⟨vK d.out⟩, ⟨vK c.out⟩, ⟨vK b.out⟩, ⟨vK K.out⟩, ⟨bl_⟩⟩
     clear jf
     try clear cR
     try clear gD
     try clear fX
     try clear cG
     try clear gv
     try clear gw
     try clear gA
     try clear hx
     try clear hD
     try clear hJ
     obtain ⟨kq, cN, rfl, HA, rU, GD, GF, d, c, b, K, HB⟩ := hcut
     cases kq with
     | zero => exact absurd HA.out (by simp [shutterref17_Do.j7])
     | succ tx =>
      have H := HA.out
      clear HA
      simp only [shutterref17_Do.j7] at H
      by_cases jh : cN = true
      ·subst jh
       rw [if_pos rfl] at H
       obtain ⟨rfl, rfl, rfl, rfl, rfl, rfl, rfl, rfl, rfl⟩ := ij9_ H
       have p8 := ns_ u
       have p9 := ns_ l
       have qa := ns_ U
       have lW := cells6 d.out
       have qb := ns_ i
       have qc := ns_ S
       have l2 := cells6 b.out
       go_wp2
       refine bodyPost_ret (results_list (rs := [.cell 4 24, .tmp 5, .tmp 6, .tmp 7]) rfl (by simp) (.cell a 24 #[.int .i64 B, .int .i64 C, .slice ad n.length af, .int .i64 z, .bool E, .bool D] (0, 0) _ rfl (put6 b.out) Tryz.underlying24 rfl (by kernel_rfl) (.tmp (.tmp (.tmp .nil))))) rfl ?_
       exact ⟨_, er_, by (with_reducible repeat apply pV); exact Kd.V_mono (f6V a (Kd.V_mono GD.out (fun k_ hk => (⟨hk, hk.2.2.2.2.1⟩ : _ ∧ k_ ≠ a))) im_) im_, bl_⟩
      replace jh := Bool.eq_false_iff.mpr jh
      subst jh
      rw [iF_] at H
      by_cases ji : E = true
      ·subst ji
       rw [if_pos rfl] at H
       obtain ⟨rfl, rfl, rfl, rfl, rfl, rfl, rfl, rfl, rfl⟩ := ij9_ H
       have qd := ns_ u
       have qe := ns_ l
       have qf := ns_ U
       have l8 := cells6 d.out
       have qg := ns_ i
       have qh := ns_ S
       have me := cells6 b.out
       go_wp2
       refine bodyPost_ret (results_list (rs := [.cell 4 24, .tmp 5, .tmp 6, .tmp 7]) rfl (by simp) (.cell a 24 #[.int .i64 B, .int .i64 C, .slice ad n.length af, .int .i64 z, .bool true, .bool D] (0, 0) _ rfl (put6 b.out) Tryz.underlying24 rfl (by kernel_rfl) (.tmp (.tmp (.tmp .nil))))) rfl ?_
       exact ⟨_, er_, by (with_reducible repeat apply pV); exact Kd.V_mono (f6V a (Kd.V_mono GD.out (fun k_ hk => (⟨hk, hk.2.2.2.2.1⟩ : _ ∧ k_ ≠ a))) im_) im_, bl_⟩
      replace ji := Bool.eq_false_iff.mpr ji
      subst ji
      rw [iF_] at H
      by_cases fd : m = 15
      ·rw [if_pos fd] at H
       obtain ⟨kI, kJ⟩ := eT_ fd
       clear fd
       obtain ⟨rfl, rfl, rfl, rfl, rfl, rfl, rfl, rfl, rfl⟩ := ij9_ H
       have qi := ns_ u
       have qj := ns_ l
       have qk := ns_ U
       have ml := cells6 d.out
       have ql := ns_ i
       have qm := ns_ Q
       have ms := cells2 c.out
       have qn := ns_ S
       have mu := cells6 K.out
       have mA := cells6 b.out
       go_wp2
       refine bodyPost_ret (results_list (rs := [.cell 4 24, .tmp 5, .tmp 6, .tmp 7]) rfl (by simp) (.cell a 24 #[.int .i64 q, .int .i64 r, .slice ae s.length ag, .int .i64 J, .bool ao, .bool true] (0, 0) _ rfl (put6 (by (with_reducible repeat apply pK); refine blk_far ?_ S.out _; (with_reducible repeat apply pK); exact b.out)) Tryz.underlying24 rfl (by kernel_rfl) (.tmp (.tmp (.tmp .nil))))) rfl ?_
       exact ⟨_, er_, Kd.V_mono (Kd.R_V (by (with_reducible repeat apply pR); exact Kd.R_mono (f6R a (Kd.R_far (p := ⟨j, 5, none⟩) (Kd.R_types (Kd.R_types GF.out K.out (by decide)) b.out (by decide)) im_ (.bool true)) im_) (fun _ hk => hk.1.1))) (fun k_ hk => by first | exact ⟨(.inr (hk.1)), hk.2⟩ | exact (.inr (hk))), bl_⟩
      rw [if_neg fd] at H
      obtain ⟨kI, kJ⟩ := eF_ fd
      by_cases fe : L = 109
      rotate_left
      ·rw [if_neg fe] at H
       obtain ⟨kK, kL⟩ := eF_ fe
       obtain ⟨rfl, rfl, rfl, rfl, rfl, rfl, rfl, rfl, rfl⟩ := ij9_ H
       have qu := ns_ u
       have qv := ns_ l
       have qw := ns_ U
       have m6 := cells6 d.out
       have qx := ns_ i
       have qy := ns_ Q
       have nc := cells2 c.out
       have qz := ns_ S
       have nf := cells6 K.out
       have nn := cells6 b.out
       go_wp2_with (first | ((with_reducible refine gate_store (t := 24) (p := 4) rfl ?_); refine sx_ 24 4 ((((((((wc.setCell ⟨j, 4, none⟩ (.bool true)).setCell ⟨j, 5, none⟩ (.bool false)).setCell ⟨a, 0, none⟩ (.int .i64 q)).setCell ⟨a, 1, none⟩ (.int .i64 r)).setCell ⟨a, 2, none⟩ (.slice ae s.length ag)).setCell ⟨a, 3, none⟩ (.int .i64 J)).setCell ⟨a, 4, none⟩ (.bool true)).setCell ⟨a, 5, none⟩ (.bool false)) ?_; intro fO hw; have W : Aside0 (Kd.V k55 55 fO w.heap.size (fun k_ => (an k_ ∨ w.heap.size ≤ k_) ∧ some k_ ≠ (.slice ae s.length ag : Value).ownBlock ∧ k_ ≠ F ∧ k_ ≠ G ∧ k_ ≠ a ∧ k_ ≠ j) (.slice ad n.length af) n) := ⟨(by rw [hw]; exact (by (with_reducible repeat apply pV); exact Kd.V_mono (f6V a (Kd.V_far (p := ⟨j, 5, none⟩) (Kd.V_far (p := ⟨j, 4, none⟩) (Kd.V_mono (Kd.V_mono GD.out (fun k_ hk => (⟨hk, hk.2.2.2.2.2⟩ : _ ∧ k_ ≠ j))) (fun k_ hk => (⟨hk, hk.1.2.2.2.2.1⟩ : _ ∧ k_ ≠ a))) (fun _ hk => hk.1.2) (.bool true)) (fun _ hk => hk.1.2) (.bool false)) (fun _ hk => hk.2)) (fun _ hk => ⟨hk.1.1.1, ⟨hk.1.1.2.1, ⟨hk.1.1.2.2.1, ⟨hk.1.1.2.2.2.1, ⟨hk.1.1.2.2.2.2.1, hk.1.1.2.2.2.2.2⟩⟩⟩⟩⟩)))⟩; have X : Aside0 (Kd.R k55 55 fO w.heap.size (fun k_ => (w.heap.size ≤ k_)) (.slice ae s.length ag) s) := ⟨(by rw [hw]; exact (by (with_reducible repeat apply pR); exact Kd.R_mono (f6R a (Kd.R_far (p := ⟨j, 5, none⟩) (Kd.R_far (p := ⟨j, 4, none⟩) (Kd.R_types (Kd.R_types GF.out K.out (by decide)) b.out (by decide)) (fun _ hk => hk.1.2) (.bool true)) (fun _ hk => hk.1.2) (.bool false)) (fun _ hk => hk.2)) (fun _ hk => hk.1.1)))⟩; have Y : Aside0 (fO.heap[F]? = some (.cells #[.int .i64 B, .int .i64 C, .slice ad n.length af, .int .i64 z, .bool false, .bool D] 24 (0, 0))) := ⟨(by rw [hw]; exact (by (with_reducible repeat apply pK); refine blk_far ?_ l.out _; (with_reducible repeat apply pK); refine blk_far ?_ l.out _; (with_reducible repeat apply pK); refine blk_far ?_ l.out _; (with_reducible repeat apply pK); refine blk_far ?_ l.out _; (with_reducible repeat apply pK); refine blk_far ?_ l.out _; (with_reducible repeat apply pK); refine blk_far ?_ l.out _; (with_reducible repeat apply pK); refine blk_far ?_ U.out _; (with_reducible repeat apply pK); refine blk_far ?_ U.out _; (with_reducible repeat apply pK); exact d.out))⟩; have aa : Aside0 (fO.heap[G]? = some (.cells #[.int .i64 m, .int .u8 L] 45 (0, 0))) := ⟨(by rw [hw]; exact (by (with_reducible repeat apply pK); refine blk_far ?_ i.out _; (with_reducible repeat apply pK); refine blk_far ?_ i.out _; (with_reducible repeat apply pK); refine blk_far ?_ i.out _; (with_reducible repeat apply pK); refine blk_far ?_ i.out _; (with_reducible repeat apply pK); refine blk_far ?_ i.out _; (with_reducible repeat apply pK); refine blk_far ?_ i.out _; (with_reducible repeat apply pK); refine blk_far ?_ Q.out _; (with_reducible repeat apply pK); refine blk_far ?_ Q.out _; (with_reducible repeat apply pK); exact c.out))⟩; have ab : Aside0 (fO.heap[a]? = some (.cells #[.int .i64 q, .int .i64 r, .slice ae s.length ag, .int .i64 J, .bool true, .bool false] 24 (0, 0))) := ⟨(by rw [hw]; exact (put6 (by (with_reducible repeat apply pK); refine blk_far ?_ S.out _; (with_reducible repeat apply pK); refine blk_far ?_ S.out _; (with_reducible repeat apply pK); exact b.out)))⟩; have ac : Aside0 (fO.heap[j]? = some (.cells #[.int .i64 q, .int .i64 r, .slice ae s.length ag, .int .i64 J, .bool true, .bool false] 24 (0, 0))) := ⟨(by rw [hw]; exact (by (with_reducible repeat apply pK); refine blk_far ?_ S.out.symm _; (with_reducible repeat apply pK); refine blk_far ?_ S.out.symm _; (with_reducible repeat apply pK); refine blk_far ?_ S.out.symm _; (with_reducible repeat apply pK); refine blk_far ?_ S.out.symm _; (with_reducible repeat apply pK); refine blk_far ?_ S.out.symm _; (with_reducible repeat apply pK); refine blk_far ?_ S.out.symm _; (with_reducible repeat apply pK); refine blk_put (cs := #[.int .i64 q, .int .i64 r, .slice ae s.length ag, .int .i64 J, .bool true, .bool au]) ?_ 5 _ rfl; (with_reducible repeat apply pK); refine blk_put (cs := #[.int .i64 q, .int .i64 r, .slice ae s.length ag, .int .i64 J, .bool ao, .bool au]) ?_ 4 _ rfl; (with_reducible repeat apply pK); exact K.out))⟩; have am : Aside0 (Below w.heap.size w fO) := ⟨by rw [hw]; exact bl_⟩; clear hw GD GF d c b K HB; have GD := W; have GF := X; have d := Y; have c := aa; have b := ab; have K := ac; have HB := am; clear W X Y aa ab ac am))
       refine bodyPost_ret (results_list (rs := [.cell 4 24, .tmp 5, .tmp 6, .tmp 7]) rfl (by simp) (.cell a 24 #[.int .i64 q, .int .i64 r, .slice ae s.length ag, .int .i64 J, .bool true, .bool false] (0, 0) _ rfl (vK b.out) Tryz.underlying24 rfl (by kernel_rfl) (.tmp (.tmp (.tmp .nil))))) rfl ?_
       exact ⟨_, er_, Kd.V_mono (Kd.R_V (by (with_reducible repeat apply pR); exact GF.out)) (fun k_ hk => by first | exact ⟨(.inr (hk.1)), hk.2⟩ | exact (.inr (hk))), bl_⟩
      rw [if_pos fe] at H
      obtain ⟨kK, kL⟩ := eT_ fe
      clear fe
      obtain ⟨gB, H⟩ := gt_ H
      have pj := eq_true gB
      have pk := decide_eq_true gB
      clear gB
      obtain ⟨gC, H⟩ := gt_ H
      have pl := eq_true gC
      have pm := decide_eq_true gC
      clear gC
      obtain ⟨aC, cS⟩ : ∃ y_ : List (S55), y_ = (List.replicate ((n.length : Int) : Int).toNat z55) := ⟨_, rfl⟩
      replace H : (some (q, r, aC, 0, true, false, true, 0, (-1))) = some (r1, r2, r3, r4, r5, r6, r7, r8, r9) := by first | (rw [cS]; with_reducible exact H) | (have ky := (Option.bind_some _ _).symm.trans H; rw [cS]; with_reducible exact ky) | (have ky := (Option.bind_some _ _).symm.trans H; with_reducible exact ky) | with_reducible exact H | (rw [cS]; exact H) | exact H
      have jk := Z cS
      clear cS
      obtain ⟨rfl, rfl, rfl, rfl, rfl, rfl, rfl, rfl, rfl⟩ := ij9_ H
      have qo := ns_ u
      have qp := ns_ l
      have qq := ns_ U
      have mG := cells6 d.out
      have qr := ns_ i
      have qs := ns_ Q
      have mM := cells2 c.out
      have qt := ns_ S
      have mO := cells6 K.out
      go_wp2_with (first | ((with_reducible refine gD_ 144 rfl ?_); refine Kd.R_make k55 _ 55 rfl (N := 144) rfl 22 _ _ rfl (n.length : Int) rfl rfl Tryz.underlying22 (.agg #[(.bool false), (.bool false), (.bool false), (.int .i64 0), (.bool false), (.int .u8 0)]) 40 info55 rfl (by decide) (by omega) z55 (ok := fun _ => True) (okp := fun _ => True) (k55_mkM _ _ _ z55 ) (fun _ hk => hk) trivial (od_) (Nat.le_trans (Nat.mul_le_mul_right _ (od_ : (n.length : Int).toNat ≤ 7036874417766)) (by omega)) (Below.refl _ _) (Nat.le_refl _) ?_; intro tB o3 cK hb hg_ hnew_; clear hg_ hnew_; (first | rw [← jk.out] at cK | (simp only [Int.reduceToNat] at cK; rw [← jk.out] at cK)); replace GD := Z (Kd.V_elder' (by (with_reducible repeat apply pV); exact (Kd.V_mono (Kd.V_far (p := ⟨j, 5, none⟩) (Kd.V_far (p := ⟨j, 4, none⟩) (Kd.V_mono GD.out (fun k_ hk => (⟨hk, hk.2.2.2.2.2⟩ : _ ∧ k_ ≠ j))) (fun _ hk => hk.2) (.bool true)) (fun _ hk => hk.2) (.bool false)) (fun _ h_ => h_.1))) (Kd.R_base cK) hb); have cP := Z (Kd.R_lower (Kd.R_new' (Kd.R_newM (M := fun k_ => (w.heap.size ≤ k_)) cK (below_size bl_) (fun k_ h_ => h_)) (Kd.R_lt (by (with_reducible repeat apply pR); exact (Kd.R_mono (Kd.R_far (p := ⟨j, 5, none⟩) (Kd.R_far (p := ⟨j, 4, none⟩) (Kd.R_types GF.out K.out (by decide)) (fun _ hk => hk.2) (.bool true)) (fun _ hk => hk.2) (.bool false)) (fun _ h_ => h_.1))))) (below_size bl_)); replace GF := Z (Kd.R_elder' (by (with_reducible repeat apply pR); exact (Kd.R_mono (Kd.R_far (p := ⟨j, 5, none⟩) (Kd.R_far (p := ⟨j, 4, none⟩) (Kd.R_types GF.out K.out (by decide)) (fun _ hk => hk.2) (.bool true)) (fun _ hk => hk.2) (.bool false)) (fun _ h_ => h_.1))) (Kd.R_base cK) hb); replace d := Z (blk_below (g := F) (o := .cells #[.int .i64 B, .int .i64 C, .slice ad n.length af, .int .i64 z, .bool false, .bool D] 24 (0, 0)) (blk_off d.out U.out off2_) hb); replace c := Z (blk_below (g := G) (o := .cells #[.int .i64 m, .int .u8 L] 45 (0, 0)) (blk_off c.out Q.out off2_) hb); replace b := Z (blk_below (g := a) (o := .cells zS_ 24 (0, 0)) (blk_off b.out S.out off2_) hb); replace K := Z (blk_below (g := j) (o := .cells #[.int .i64 q, .int .i64 r, .slice ae s.length ag, .int .i64 J, .bool true, .bool false] 24 (0, 0)) (by (with_reducible repeat apply pK); refine blk_put (cs := #[.int .i64 q, .int .i64 r, .slice ae s.length ag, .int .i64 J, .bool true, .bool au]) ?_ 5 _ rfl; (with_reducible repeat apply pK); refine blk_put (cs := #[.int .i64 q, .int .i64 r, .slice ae s.length ag, .int .i64 J, .bool ao, .bool au]) ?_ 4 _ rfl; (with_reducible repeat apply pK); exact K.out) hb); replace HB := bs_ hb; clear hb cK; obtain ⟨aL, aM, lm⟩ := Kd.R_slice cP.out; subst lm; have mU := cells6 K.out; have m0 := cells6 b.out) | ((with_reducible refine gate_store (t := 24) (p := 4) rfl ?_); refine sx_ 24 4 ((((((((o3.setCell ⟨j, 2, none⟩ (.slice aL aC.length aM)).setCell ⟨j, 3, none⟩ (.int .i64 0)).setCell ⟨a, 0, none⟩ (.int .i64 q)).setCell ⟨a, 1, none⟩ (.int .i64 r)).setCell ⟨a, 2, none⟩ (.slice aL aC.length aM)).setCell ⟨a, 3, none⟩ (.int .i64 0)).setCell ⟨a, 4, none⟩ (.bool true)).setCell ⟨a, 5, none⟩ (.bool false)) ?_; intro cT hw; have W : Aside0 (Kd.V k55 55 cT w.heap.size (fun k_ => (an k_ ∨ w.heap.size ≤ k_) ∧ some k_ ≠ (.slice ae s.length ag : Value).ownBlock ∧ some k_ ≠ (.slice aL aC.length aM : Value).ownBlock ∧ k_ ≠ F ∧ k_ ≠ G ∧ k_ ≠ a ∧ k_ ≠ j) (.slice ad n.length af) n) := ⟨(by rw [hw]; exact (by (with_reducible repeat apply pV); exact Kd.V_mono (f6V a (Kd.V_far (p := ⟨j, 3, none⟩) (Kd.V_far (p := ⟨j, 2, none⟩) (Kd.V_mono (Kd.V_mono GD.out (fun k_ hk => (⟨hk, hk.1.2.2.2.2.2⟩ : _ ∧ k_ ≠ j))) (fun k_ hk => (⟨hk, hk.1.1.2.2.2.2.1⟩ : _ ∧ k_ ≠ a))) (fun _ hk => hk.1.2) (.slice aL aC.length aM)) (fun _ hk => hk.1.2) (.int .i64 0)) (fun _ hk => hk.2)) (fun _ hk => ⟨hk.1.1.1.1, ⟨hk.1.1.1.2.1, ⟨hk.1.1.2, ⟨hk.1.1.1.2.2.1, ⟨hk.1.1.1.2.2.2.1, ⟨hk.1.1.1.2.2.2.2.1, hk.1.1.1.2.2.2.2.2⟩⟩⟩⟩⟩⟩)))⟩; have X : Aside0 (Kd.R k55 55 cT w.heap.size (fun k_ => (w.heap.size ≤ k_) ∧ some k_ ≠ (.slice aL aC.length aM : Value).ownBlock) (.slice ae s.length ag) s) := ⟨(by rw [hw]; exact (by (with_reducible repeat apply pR); exact Kd.R_mono (f6R a (Kd.R_far (p := ⟨j, 3, none⟩) (Kd.R_far (p := ⟨j, 2, none⟩) (Kd.R_types (Kd.R_types GF.out K.out (by decide)) b.out (by decide)) (fun _ hk => hk.1.2) (.slice aL aC.length aM)) (fun _ hk => hk.1.2) (.int .i64 0)) (fun _ hk => hk.2)) (fun _ hk => ⟨hk.1.1.1, hk.1.1.2⟩)))⟩; have Y : Aside0 (Kd.R k55 55 cT w.heap.size (fun k_ => (w.heap.size ≤ k_) ∧ some k_ ≠ (.slice ae s.length ag : Value).ownBlock) (.slice aL aC.length aM) aC) := ⟨(by rw [hw]; exact (by (with_reducible repeat apply pR); exact Kd.R_mono (f6R a (Kd.R_far (p := ⟨j, 3, none⟩) (Kd.R_far (p := ⟨j, 2, none⟩) (Kd.R_types (Kd.R_types cP.out K.out (by decide)) b.out (by decide)) (fun _ hk => hk.1.2) (.slice aL aC.length aM)) (fun _ hk => hk.1.2) (.int .i64 0)) (fun _ hk => hk.2)) (fun _ hk => ⟨hk.1.1.1.1, hk.1.1.2⟩)))⟩; have aa : Aside0 (cT.heap[F]? = some (.cells #[.int .i64 B, .int .i64 C, .slice ad n.length af, .int .i64 z, .bool false, .bool D] 24 (0, 0))) := ⟨(by rw [hw]; exact (by (with_reducible repeat apply pK); refine blk_far ?_ l.out _; (with_reducible repeat apply pK); refine blk_far ?_ l.out _; (with_reducible repeat apply pK); refine blk_far ?_ l.out _; (with_reducible repeat apply pK); refine blk_far ?_ l.out _; (with_reducible repeat apply pK); refine blk_far ?_ l.out _; (with_reducible repeat apply pK); refine blk_far ?_ l.out _; (with_reducible repeat apply pK); refine blk_far ?_ U.out _; (with_reducible repeat apply pK); refine blk_far ?_ U.out _; (with_reducible repeat apply pK); exact d.out))⟩; have ab : Aside0 (cT.heap[G]? = some (.cells #[.int .i64 m, .int .u8 L] 45 (0, 0))) := ⟨(by rw [hw]; exact (by (with_reducible repeat apply pK); refine blk_far ?_ i.out _; (with_reducible repeat apply pK); refine blk_far ?_ i.out _; (with_reducible repeat apply pK); refine blk_far ?_ i.out _; (with_reducible repeat apply pK); refine blk_far ?_ i.out _; (with_reducible repeat apply pK); refine blk_far ?_ i.out _; (with_reducible repeat apply pK); refine blk_far ?_ i.out _; (with_reducible repeat apply pK); refine blk_far ?_ Q.out _; (with_reducible repeat apply pK); refine blk_far ?_ Q.out _; (with_reducible repeat apply pK); exact c.out))⟩; have ac : Aside0 (cT.heap[a]? = some (.cells #[.int .i64 q, .int .i64 r, .slice aL aC.length aM, .int .i64 0, .bool true, .bool false] 24 (0, 0))) := ⟨(by rw [hw]; exact (put6 (by (with_reducible repeat apply pK); refine blk_far ?_ S.out _; (with_reducible repeat apply pK); refine blk_far ?_ S.out _; (with_reducible repeat apply pK); exact b.out)))⟩; have am : Aside0 (cT.heap[j]? = some (.cells #[.int .i64 q, .int .i64 r, .slice aL aC.length aM, .int .i64 0, .bool true, .bool false] 24 (0, 0))) := ⟨(by rw [hw]; exact (by (with_reducible repeat apply pK); refine blk_far ?_ S.out.symm _; (with_reducible repeat apply pK); refine blk_far ?_ S.out.symm _; (with_reducible repeat apply pK); refine blk_far ?_ S.out.symm _; (with_reducible repeat apply pK); refine blk_far ?_ S.out.symm _; (with_reducible repeat apply pK); refine blk_far ?_ S.out.symm _; (with_reducible repeat apply pK); refine blk_far ?_ S.out.symm _; (with_reducible repeat apply pK); refine blk_put (cs := #[.int .i64 q, .int .i64 r, .slice aL aC.length aM, .int .i64 J, .bool true, .bool false]) ?_ 3 _ rfl; (with_reducible repeat apply pK); refine blk_put (cs := #[.int .i64 q, .int .i64 r, .slice ae s.length ag, .int .i64 J, .bool true, .bool false]) ?_ 2 _ rfl; (with_reducible repeat apply pK); exact K.out))⟩; have a0 : Aside0 (Below w.heap.size w cT) := ⟨by rw [hw]; exact bl_⟩; clear hw GD GF cP d c b K HB; have GD := W; have GF := X; have cP := Y; have d := aa; have c := ab; have b := ac; have K := am; have HB := a0; clear W X Y aa ab ac am a0))
      refine bodyPost_ret (results_list (rs := [.cell 4 24, .tmp 5, .tmp 6, .tmp 7]) rfl (by simp) (.cell a 24 #[.int .i64 q, .int .i64 r, .slice aL aC.length aM, .int .i64 0, .bool true, .bool false] (0, 0) _ rfl (vK b.out) Tryz.underlying24 rfl (by kernel_rfl) (.tmp (.tmp (.tmp .nil))))) rfl ?_
      exact ⟨_, er_, Kd.V_mono (Kd.R_V (by (with_reducible repeat apply pR); exact Kd.R_mono cP.out (fun _ hk => hk.1))) (fun k_ hk => by first | exact ⟨(.inr (hk.1)), hk.2⟩ | exact (.inr (hk))), bl_⟩

end Go.Proofs.YtjpedimndkibnaaGreatDoor.P
