/- pp.py and press2.py (wip/tools) wrote this text. -/
import Derived.Test.YtggecanpjkpkiaaDoorPx0
import Derived.Test.YtggecanpjkpkiaaDoorPxS
import Derived.Test.YtggecanpjkpkiaaDoorPx3
import Derived.Test.YtggecanpjkpkiaaDoorPx4
import Derived.Test.YtggecanpjkpkiaaDoorPx13
import Derived.Test.YtggecanpjkpkiaaDoorPx35
import Derived.Test.YtggecanpjkpkiaaDoorPx35L
namespace Go.Proofs.YtggecanpjkpkiaaDoor.P
open Go.RowKit Go.Proofs.YtggecanpjkpkiaaDoorW.PrintWords Go.Proofs.YtggecanpjkpkiaaDoorW.PrintLast Go.Proofs.YtggecanpjkpkiaaDoorW.PrintMore
attribute [local go_sem] max2_int min2_int max_two min_two max_three min_three max_four min_four
attribute [local go_sem] Instr.field asAgg
set_option linter.unusedVariables false
set_option linter.unusedSimpArgs false

/-! ### shutterlaw17_KeysLocked: function 14 -/
mutual
def shutterlaw17_KeysLocked.j0 : Nat → Bool → Int → Int → List (S35) → Int → Bool → Bool → Option (Bool)
 | 0, _, _, _, _, _, _, _ => none
 | k + 1, j, d, e, g, h, b, c => if j = true then (none) else ((keys_Do.f k d e g h b c 16 0).bind fun a => (if a.2.2.2.2.2.2.2.1.isNone = true then (if a.2.2.2.2.2.2.1 = true then (none) else (if a.2.2.2.2.1 = true then (none) else (if a.2.2.2.2.2.1 = true then (none) else ((shutterref10_Same.f k a.1 a.2.1 a.2.2.1 a.2.2.2.1 b c d e g h b c).bind fun i => (some i))))) else (none)))
def shutterlaw17_KeysLocked.j1 : Nat → Int → Int → List (S35) → Int → Bool → Bool → Int → Int → Int → Int → List (S35) → Int → Bool → Bool → Option Er → List (S164) → Option (Bool)
 | 0, _, _, _, _, _, _, _, _, _, _, _, _, _, _, _, _ => none
 | k + 1, b, c, d, e, a, g, i, s, j, l, m, n, o, p, h, r => if a = true then (if i = 16 then (shutterlaw17_KeysLocked.j2 k false b c d e a g) else (if h.isNone = true then (none) else ((shutterref10_Same.f k j l m n o p b c d e a g).bind fun q => (shutterlaw17_KeysLocked.j2 k (!q) b c d e a g)))) else (shutterlaw17_KeysLocked.j2 k false b c d e a g)
def shutterlaw17_KeysLocked.j2 : Nat → Bool → Int → Int → List (S35) → Int → Bool → Bool → Option (Bool)
 | 0, _, _, _, _, _, _, _ => none
 | k + 1, j, d, e, g, h, b, c => if j = true then (none) else ((keys_Do.f k d e g h b c 16 0).bind fun a => (if a.2.2.2.2.2.2.2.1.isNone = true then (if a.2.2.2.2.2.2.1 = true then (none) else (if a.2.2.2.2.1 = true then (none) else (if a.2.2.2.2.2.1 = true then (none) else ((shutterref10_Same.f k a.1 a.2.1 a.2.2.1 a.2.2.2.1 b c d e g h b c).bind fun i => (some i))))) else (none)))
end
def shutterlaw17_KeysLocked.f (k : Nat) (c : Int) (d : Int) (h : List (S35)) (e : Int) (b : Bool) (g : Bool) (i : Int) (j : Int) : Option (Bool) := (shutterlaw17_awake.f k).bind fun l => (if l = true then ((shutterref10_Few.f k c d h e b g).bind fun m => (if m = true then ((keys_Do.f k c d h e b g i j).bind fun a => (if a.2.2.2.2.2.2.2.1.isNone = true then (if b = true then (if i = 16 then (shutterlaw17_KeysLocked.j0 k false c d h e b g) else (none)) else (shutterlaw17_KeysLocked.j0 k false c d h e b g)) else (if a.2.2.2.2.2.2.1 = true then (none) else ((shutterref10_Same.f k a.1 a.2.1 a.2.2.1 a.2.2.2.1 b a.2.2.2.2.2.1 c d h e b g).bind fun o => (if o = true then (if b = true then (if a.2.2.2.2.1 = true then (shutterlaw17_KeysLocked.j1 k c d h e b g i j a.1 a.2.1 a.2.2.1 a.2.2.2.1 a.2.2.2.2.1 a.2.2.2.2.2.1 (some (a.2.2.2.2.2.2.2.1.getD ez)) a.2.2.2.2.2.2.2.2) else (none)) else (shutterlaw17_KeysLocked.j1 k c d h e b g i j a.1 a.2.1 a.2.2.1 a.2.2.2.1 a.2.2.2.2.1 a.2.2.2.2.2.1 (some (a.2.2.2.2.2.2.2.1.getD ez)) a.2.2.2.2.2.2.2.2)) else (none)))))) else ((shutterlaw17_awake.f k).bind fun n => (some n)))) else (none))
theorem shutterlaw17_KeysLocked.mono_l : ∀ k, (∀ a b c d e f g, LeO (shutterlaw17_KeysLocked.j0 k a b c d e f g) (shutterlaw17_KeysLocked.j0 (k + 1) a b c d e f g)) ∧ (∀ a b c d e f g t u v m n o p q s, LeO (shutterlaw17_KeysLocked.j1 k a b c d e f g t u v m n o p q s) (shutterlaw17_KeysLocked.j1 (k + 1) a b c d e f g t u v m n o p q s)) ∧ (∀ a b c d e f g, LeO (shutterlaw17_KeysLocked.j2 k a b c d e f g) (shutterlaw17_KeysLocked.j2 (k + 1) a b c d e f g))
 | 0 => ⟨fun _ _ _ _ _ _ _ r h => by simp [shutterlaw17_KeysLocked.j0] at h, fun _ _ _ _ _ _ _ _ _ _ _ _ _ _ _ _ r h => by simp [shutterlaw17_KeysLocked.j1] at h, fun _ _ _ _ _ _ _ r h => by simp [shutterlaw17_KeysLocked.j2] at h⟩
 | k + 1 => by
  obtain ⟨i, j, l⟩ := shutterlaw17_KeysLocked.mono_l k
  refine ⟨?_, ?_, ?_⟩
  ·intro a b c d e f g
   unfold shutterlaw17_KeysLocked.j0
   repeat' first
   | (with_reducible exact i _ _ _ _ _ _ _)
   | (with_reducible exact j _ _ _ _ _ _ _ _ _ _ _ _ _ _ _ _)
   | (with_reducible exact l _ _ _ _ _ _ _)
   | (with_reducible exact keys_Do.mono _ _ _ _ _ _ _ _ _)
   | (with_reducible exact shutterlaw17_awake.mono _)
   | (with_reducible exact shutterref10_Few.mono _ _ _ _ _ _ _)
   | (with_reducible exact shutterref10_Same.mono _ _ _ _ _ _ _ _ _ _ _ _ _)
   | (with_reducible exact LeO.refl _)
   | (with_reducible exact LeO.none _)
   | (with_reducible refine LeO.ite ?_ ?_)
   | (with_reducible refine LeO.bind ?_ (fun _ => ?_))
   | exact i _ _ _ _ _ _ _
   | exact j _ _ _ _ _ _ _ _ _ _ _ _ _ _ _ _
   | exact l _ _ _ _ _ _ _
   | exact keys_Do.mono _ _ _ _ _ _ _ _ _
   | exact shutterlaw17_awake.mono _
   | exact shutterref10_Few.mono _ _ _ _ _ _ _
   | exact shutterref10_Same.mono _ _ _ _ _ _ _ _ _ _ _ _ _
   | exact LeO.none _
   | refine LeO.ite ?_ ?_
   | refine LeO.bind ?_ (fun _ => ?_)
  ·intro a b c d e f g t u v m n o p q s
   unfold shutterlaw17_KeysLocked.j1
   repeat' first
   | (with_reducible exact i _ _ _ _ _ _ _)
   | (with_reducible exact j _ _ _ _ _ _ _ _ _ _ _ _ _ _ _ _)
   | (with_reducible exact l _ _ _ _ _ _ _)
   | (with_reducible exact keys_Do.mono _ _ _ _ _ _ _ _ _)
   | (with_reducible exact shutterlaw17_awake.mono _)
   | (with_reducible exact shutterref10_Few.mono _ _ _ _ _ _ _)
   | (with_reducible exact shutterref10_Same.mono _ _ _ _ _ _ _ _ _ _ _ _ _)
   | (with_reducible exact LeO.refl _)
   | (with_reducible exact LeO.none _)
   | (with_reducible refine LeO.ite ?_ ?_)
   | (with_reducible refine LeO.bind ?_ (fun _ => ?_))
   | exact i _ _ _ _ _ _ _
   | exact j _ _ _ _ _ _ _ _ _ _ _ _ _ _ _ _
   | exact l _ _ _ _ _ _ _
   | exact keys_Do.mono _ _ _ _ _ _ _ _ _
   | exact shutterlaw17_awake.mono _
   | exact shutterref10_Few.mono _ _ _ _ _ _ _
   | exact shutterref10_Same.mono _ _ _ _ _ _ _ _ _ _ _ _ _
   | exact LeO.none _
   | refine LeO.ite ?_ ?_
   | refine LeO.bind ?_ (fun _ => ?_)
  ·intro a b c d e f g
   unfold shutterlaw17_KeysLocked.j2
   repeat' first
   | (with_reducible exact i _ _ _ _ _ _ _)
   | (with_reducible exact j _ _ _ _ _ _ _ _ _ _ _ _ _ _ _ _)
   | (with_reducible exact l _ _ _ _ _ _ _)
   | (with_reducible exact keys_Do.mono _ _ _ _ _ _ _ _ _)
   | (with_reducible exact shutterlaw17_awake.mono _)
   | (with_reducible exact shutterref10_Few.mono _ _ _ _ _ _ _)
   | (with_reducible exact shutterref10_Same.mono _ _ _ _ _ _ _ _ _ _ _ _ _)
   | (with_reducible exact LeO.refl _)
   | (with_reducible exact LeO.none _)
   | (with_reducible refine LeO.ite ?_ ?_)
   | (with_reducible refine LeO.bind ?_ (fun _ => ?_))
   | exact i _ _ _ _ _ _ _
   | exact j _ _ _ _ _ _ _ _ _ _ _ _ _ _ _ _
   | exact l _ _ _ _ _ _ _
   | exact keys_Do.mono _ _ _ _ _ _ _ _ _
   | exact shutterlaw17_awake.mono _
   | exact shutterref10_Few.mono _ _ _ _ _ _ _
   | exact shutterref10_Same.mono _ _ _ _ _ _ _ _ _ _ _ _ _
   | exact LeO.none _
   | refine LeO.ite ?_ ?_
   | refine LeO.bind ?_ (fun _ => ?_)
theorem shutterlaw17_KeysLocked.mono : ∀ a0 a1 d e a4 g h i k, LeO (shutterlaw17_KeysLocked.f k a0 a1 d e a4 g h i) (shutterlaw17_KeysLocked.f (k + 1) a0 a1 d e a4 g h i) := by
 intro a0 a1 d e a4 g h i k
 obtain ⟨a, b, c⟩ := shutterlaw17_KeysLocked.mono_l k
 unfold shutterlaw17_KeysLocked.f
 repeat' first
   | (with_reducible exact a _ _ _ _ _ _ _)
   | (with_reducible exact b _ _ _ _ _ _ _ _ _ _ _ _ _ _ _ _)
   | (with_reducible exact c _ _ _ _ _ _ _)
   | (with_reducible exact keys_Do.mono _ _ _ _ _ _ _ _ _)
   | (with_reducible exact shutterlaw17_awake.mono _)
   | (with_reducible exact shutterref10_Few.mono _ _ _ _ _ _ _)
   | (with_reducible exact shutterref10_Same.mono _ _ _ _ _ _ _ _ _ _ _ _ _)
   | (with_reducible exact LeO.refl _)
   | (with_reducible exact LeO.none _)
   | (with_reducible refine LeO.ite ?_ ?_)
   | (with_reducible refine LeO.bind ?_ (fun _ => ?_))
   | exact a _ _ _ _ _ _ _
   | exact b _ _ _ _ _ _ _ _ _ _ _ _ _ _ _ _
   | exact c _ _ _ _ _ _ _
   | exact keys_Do.mono _ _ _ _ _ _ _ _ _
   | exact shutterlaw17_awake.mono _
   | exact shutterref10_Few.mono _ _ _ _ _ _ _
   | exact shutterref10_Same.mono _ _ _ _ _ _ _ _ _ _ _ _ _
   | exact LeO.none _
   | refine LeO.ite ?_ ?_
   | refine LeO.bind ?_ (fun _ => ?_)
set_option maxHeartbeats 8000000 in
set_option maxRecDepth 100000 in
theorem shutterlaw17_KeysLocked.calls (k : Nat) (q : Int) (s : Int) (ah : Option Addr) (aj : Nat) (m : List (S35)) (u : Int) (i : Bool) (j : Bool) (F : Int) (R : Int) (r : Bool) (w : World) (il : Kd.C k35 w ah m.length m) (ik : m.length ≤ aj) (hG : LaidG w) (h : shutterlaw17_KeysLocked.f k q s m u i j F R = some r) :
  Calls Tryd.prog 14 #[.agg #[.int .i64 q, .int .i64 s, .slice ah m.length aj, .int .i64 u, .bool i, .bool j], .agg #[.int .i64 F, .int .u8 R]] w fun e w' => e = .returned (.bool r) ∧ Below w.heap.size w w' := by
 have HG := Z hG
 clear hG
 have mw := Tryd.underlying24
 have mz := Tryd.underlying58
 have mx := Tryd.underlying28
 have my := Tryd.underlying52
 have aL := Z il
 have aK := Z ik
 clear il ik
 have HB := Z (Below.refl w.heap.size w)
 have H : ((shutterlaw17_awake.f k).bind fun cE => (if cE = true then ((shutterref10_Few.f k q s m u i j).bind fun a0 => (if a0 = true then ((keys_Do.f k q s m u i j F R).bind fun b => (if b.2.2.2.2.2.2.2.1.isNone = true then (if i = true then (if F = 16 then (shutterlaw17_KeysLocked.j0 k false q s m u i j) else (none)) else (shutterlaw17_KeysLocked.j0 k false q s m u i j)) else (if b.2.2.2.2.2.2.1 = true then (none) else ((shutterref10_Same.f k b.1 b.2.1 b.2.2.1 b.2.2.2.1 i b.2.2.2.2.2.1 q s m u i j).bind fun am => (if am = true then (if i = true then (if b.2.2.2.2.1 = true then (shutterlaw17_KeysLocked.j1 k q s m u i j F R b.1 b.2.1 b.2.2.1 b.2.2.2.1 b.2.2.2.2.1 b.2.2.2.2.2.1 (some (b.2.2.2.2.2.2.2.1.getD ez)) b.2.2.2.2.2.2.2.2) else (none)) else (shutterlaw17_KeysLocked.j1 k q s m u i j F R b.1 b.2.1 b.2.2.1 b.2.2.2.1 b.2.2.2.2.1 b.2.2.2.2.2.1 (some (b.2.2.2.2.2.2.2.1.getD ez)) b.2.2.2.2.2.2.2.2)) else (none)))))) else ((shutterlaw17_awake.f k).bind fun aB => (some aB)))) else (none))) = some r := h
 clear h
 replace H := Option.bind_eq_some_iff.mp H
 obtain ⟨cE, iK, H⟩ := H
 replace H : (if cE = true then ((shutterref10_Few.f k q s m u i j).bind fun a0 => (if a0 = true then ((keys_Do.f k q s m u i j F R).bind fun b => (if b.2.2.2.2.2.2.2.1.isNone = true then (if i = true then (if F = 16 then (shutterlaw17_KeysLocked.j0 k false q s m u i j) else (none)) else (shutterlaw17_KeysLocked.j0 k false q s m u i j)) else (if b.2.2.2.2.2.2.1 = true then (none) else ((shutterref10_Same.f k b.1 b.2.1 b.2.2.1 b.2.2.2.1 i b.2.2.2.2.2.1 q s m u i j).bind fun am => (if am = true then (if i = true then (if b.2.2.2.2.1 = true then (shutterlaw17_KeysLocked.j1 k q s m u i j F R b.1 b.2.1 b.2.2.1 b.2.2.2.1 b.2.2.2.2.1 b.2.2.2.2.2.1 (some (b.2.2.2.2.2.2.2.1.getD ez)) b.2.2.2.2.2.2.2.2) else (none)) else (shutterlaw17_KeysLocked.j1 k q s m u i j F R b.1 b.2.1 b.2.2.1 b.2.2.2.1 b.2.2.2.2.1 b.2.2.2.2.2.1 (some (b.2.2.2.2.2.2.2.1.getD ez)) b.2.2.2.2.2.2.2.2)) else (none)))))) else ((shutterlaw17_awake.f k).bind fun aB => (some aB)))) else (none)) = some r := H
 have A3 := Z iK
 clear iK
 by_cases c4 : cE = true
 ·subst c4
  have H1 : ((shutterref10_Few.f k q s m u i j).bind fun a0 => (if a0 = true then ((keys_Do.f k q s m u i j F R).bind fun b => (if b.2.2.2.2.2.2.2.1.isNone = true then (if i = true then (if F = 16 then (shutterlaw17_KeysLocked.j0 k false q s m u i j) else (none)) else (shutterlaw17_KeysLocked.j0 k false q s m u i j)) else (if b.2.2.2.2.2.2.1 = true then (none) else ((shutterref10_Same.f k b.1 b.2.1 b.2.2.1 b.2.2.2.1 i b.2.2.2.2.2.1 q s m u i j).bind fun am => (if am = true then (if i = true then (if b.2.2.2.2.1 = true then (shutterlaw17_KeysLocked.j1 k q s m u i j F R b.1 b.2.1 b.2.2.1 b.2.2.2.1 b.2.2.2.2.1 b.2.2.2.2.2.1 (some (b.2.2.2.2.2.2.2.1.getD ez)) b.2.2.2.2.2.2.2.2) else (none)) else (shutterlaw17_KeysLocked.j1 k q s m u i j F R b.1 b.2.1 b.2.2.1 b.2.2.2.1 b.2.2.2.2.1 b.2.2.2.2.2.1 (some (b.2.2.2.2.2.2.2.1.getD ez)) b.2.2.2.2.2.2.2.2)) else (none)))))) else ((shutterlaw17_awake.f k).bind fun aB => (some aB)))) = some r := by rw [if_pos rfl] at H; exact H
  clear H
  have H := H1
  clear H1
  replace H := Option.bind_eq_some_iff.mp H
  obtain ⟨a0, iL, H⟩ := H
  replace H : (if a0 = true then ((keys_Do.f k q s m u i j F R).bind fun b => (if b.2.2.2.2.2.2.2.1.isNone = true then (if i = true then (if F = 16 then (shutterlaw17_KeysLocked.j0 k false q s m u i j) else (none)) else (shutterlaw17_KeysLocked.j0 k false q s m u i j)) else (if b.2.2.2.2.2.2.1 = true then (none) else ((shutterref10_Same.f k b.1 b.2.1 b.2.2.1 b.2.2.2.1 i b.2.2.2.2.2.1 q s m u i j).bind fun am => (if am = true then (if i = true then (if b.2.2.2.2.1 = true then (shutterlaw17_KeysLocked.j1 k q s m u i j F R b.1 b.2.1 b.2.2.1 b.2.2.2.1 b.2.2.2.2.1 b.2.2.2.2.2.1 (some (b.2.2.2.2.2.2.2.1.getD ez)) b.2.2.2.2.2.2.2.2) else (none)) else (shutterlaw17_KeysLocked.j1 k q s m u i j F R b.1 b.2.1 b.2.2.1 b.2.2.2.1 b.2.2.2.2.1 b.2.2.2.2.2.1 (some (b.2.2.2.2.2.2.2.1.getD ez)) b.2.2.2.2.2.2.2.2)) else (none)))))) else ((shutterlaw17_awake.f k).bind fun aB => (some aB))) = some r := H
  have A5 := Z iL
  clear iL
  by_cases c6 : a0 = true
  ·subst c6
   have H1 : ((keys_Do.f k q s m u i j F R).bind fun b => (if b.2.2.2.2.2.2.2.1.isNone = true then (if i = true then (if F = 16 then (shutterlaw17_KeysLocked.j0 k false q s m u i j) else (none)) else (shutterlaw17_KeysLocked.j0 k false q s m u i j)) else (if b.2.2.2.2.2.2.1 = true then (none) else ((shutterref10_Same.f k b.1 b.2.1 b.2.2.1 b.2.2.2.1 i b.2.2.2.2.2.1 q s m u i j).bind fun am => (if am = true then (if i = true then (if b.2.2.2.2.1 = true then (shutterlaw17_KeysLocked.j1 k q s m u i j F R b.1 b.2.1 b.2.2.1 b.2.2.2.1 b.2.2.2.2.1 b.2.2.2.2.2.1 (some (b.2.2.2.2.2.2.2.1.getD ez)) b.2.2.2.2.2.2.2.2) else (none)) else (shutterlaw17_KeysLocked.j1 k q s m u i j F R b.1 b.2.1 b.2.2.1 b.2.2.2.1 b.2.2.2.2.1 b.2.2.2.2.2.1 (some (b.2.2.2.2.2.2.2.1.getD ez)) b.2.2.2.2.2.2.2.2)) else (none)))))) = some r := by rw [if_pos rfl] at H; exact H
   clear H
   have H := H1
   clear H1
   replace H := Option.bind_eq_some_iff.mp H
   obtain ⟨⟨K, L, y, M, Q, O, br, cF, ae⟩, iM, H⟩ := H
   replace H : (if cF.isNone = true then (if i = true then (if F = 16 then (shutterlaw17_KeysLocked.j0 k false q s m u i j) else (none)) else (shutterlaw17_KeysLocked.j0 k false q s m u i j)) else (if br = true then (none) else ((shutterref10_Same.f k K L y M i O q s m u i j).bind fun am => (if am = true then (if i = true then (if Q = true then (shutterlaw17_KeysLocked.j1 k q s m u i j F R K L y M Q O (some (cF.getD ez)) ae) else (none)) else (shutterlaw17_KeysLocked.j1 k q s m u i j F R K L y M Q O (some (cF.getD ez)) ae)) else (none))))) = some r := H
   have A7 := Z iM
   clear iM
   rcases cF with _ | ak
   ·have H1 : (if i = true then (if F = 16 then (shutterlaw17_KeysLocked.j0 k false q s m u i j) else (none)) else (shutterlaw17_KeysLocked.j0 k false q s m u i j)) = some r := by rw [if_pos (show (none : Option Er).isNone = true by rfl)] at H; exact H
    clear H
    have H := H1
    clear H1
    try simp only [errW_none, errW_some]
    have iB := Z H
    clear H
    go_enter Tryd.func14, Tryd.ntmps14
    go_upto_region 9 with (first | ((with_reducible refine gate_dst (N := 2) rfl ?_); refine bx_ 2 24 #[.int .i64 q, .int .i64 s, .slice ah m.length aj, .int .i64 u, .bool i, .bool j] ?_; intro z hg w9 hbox hb; have a := Z (hbox); have aI := Z (ln_ hg : w.heap.size ≤ z); have g6 := Z (ln_ hg : w.heap.size ≤ z); replace HB := Z (below_step bl_ hb); clear hb hbox hg) | ((with_reducible refine gate_dst (N := 3) rfl ?_); refine bx_ 3 58 #[.int .i64 F, .int .u8 R] ?_; intro A hg mL hbox hb; have d := Z (hbox); have aJ := Z (ln_ hg : w.heap.size ≤ A); have g7 := Z (ln_ hg : w.heap.size ≤ A); replace HB := Z (below_step bl_ hb); have W := Z (nl a.out hg); have Y := Z (ng a.out hg); replace a := Z (kb a.out hb); clear hb hbox hg) | ((with_reducible refine gate_callee (f := 41) rfl ?_); refine goesL_ (some 12) rfl rfl Tryd.func41 (by kernel_rfl) rfl #[] rfl ag_ ?_; (with_reducible refine (shutterlaw17_awake.calls k  true _ ?sideG A3.out).mono ?_); (case sideG => exact laidG_below HG.out bl_ rfl); rintro e mM ⟨rfl, hb⟩; refine ⟨_, rfl, ?_⟩; replace a := Z (kb a.out hb); replace d := Z (kb d.out hb); replace HB := Z (below_step bl_ hb); (try clear hb); (try clear aV); (try clear hk); (try clear hi); have lr := W.out; have lT := Y.out; obtain ⟨bu, bv, bw, bx, bz, bA, b3, b4, b5, b6, b7, b8⟩ := cells6 a.out) | (go_at_call 18; (with_reducible refine (shutterref10_Few.calls k q s _ _ m u i j true _ ?side1 ?side2 A5.out).mono ?_); (case side1 => repeat (first | exact (Kd.C_below aL.out HB.out) | (with_reducible apply pC))); (case side2 => exact aK.out); rintro e mN ⟨rfl, hb⟩; replace a := Z (kb a.out hb); replace d := Z (kb d.out hb); replace HB := Z (below_step bl_ hb); (try clear hb); (try clear aV); (try clear hk); (try clear hi); obtain ⟨bB, bC, bD, bE, bF, bG, b9, ca, cb, cc, cd, ce⟩ := cells6 a.out; obtain ⟨bH, bI, cf, cg⟩ := cells2 d.out) | ((with_reducible refine gate_callee (f := 42) rfl ?_); refine goesL_ (some 23) rfl rfl Tryd.func42 (by kernel_rfl) rfl #[.agg #[.int .i64 q, .int .i64 s, .slice ah m.length aj, .int .i64 u, .bool i, .bool j], .agg #[.int .i64 F, .int .u8 R]] rfl ag_ ?_; (with_reducible refine (keys_Do.calls k q s (fun k_ => k_ < w.heap.size) _ _ m u i j F R K L y M Q O br none ae _ ?side1 A7.out).mono ?_); (case side1 => exact Kd.V_mk aK.out (Kd.F_below (Kd.C_F k35_heap aL.out) bl_)); rintro e mO ⟨iH, bm, rfl, bj, bk, hb⟩; refine ⟨_, rfl, ?_⟩; have G := Z (Kd.V_lower (Kd.V_mono (ok' := fun k_ => k_ ≠ z ∧ k_ ≠ A) bj (fun k_ hk_ => ⟨Or.elim hk_ (fun hs_ => fun e_ => Nat.not_le.2 hs_ (by rw [e_]; exact aI.out)) (fun hn_ => (fb a.out k_ hn_)), Or.elim hk_ (fun hs_ => fun e_ => Nat.not_le.2 hs_ (by rw [e_]; exact aJ.out)) (fun hn_ => (fb d.out k_ hn_))⟩)) (below_size bl_)); have S := Z (Kd.V_lower (Kd.V_mono (ok' := fun k_ => k_ ≠ z ∧ k_ ≠ A) bk (fun k_ hk_ => ⟨Or.elim hk_ (fun hs_ => fun e_ => Nat.not_le.2 hs_ (by rw [e_]; exact aI.out)) (fun hn_ => (fb a.out k_ hn_)), Or.elim hk_ (fun hs_ => fun e_ => Nat.not_le.2 hs_ (by rw [e_]; exact aJ.out)) (fun hn_ => (fb d.out k_ hn_))⟩)) (below_size bl_)); replace a := Z (kb a.out hb); replace d := Z (kb d.out hb); replace HB := Z (below_step bl_ hb); (try clear hb); (try clear aV); (try clear hk); (try clear hi); (try clear bj); (try clear bk); (try simp only [errW_none, errW_some])) | ((with_reducible refine gate_dst (N := 5) rfl ?_); refine bx_ 5 24 #[.int .i64 0, .int .i64 0, .slice none 0 0, .int .i64 0, .bool false, .bool false] ?_; intro x hg lm hbox hb; replace G := Z (ve G.out hg hb); replace S := Z (ve S.out hg hb); have l := Z (hbox); have bf := Z (ln_ hg : w.heap.size ≤ x); have iy := Z (ln_ hg : w.heap.size ≤ x); replace HB := Z (below_step bl_ hb); have X := Z (nl a.out hg); have ac := Z (ng a.out hg); replace a := Z (kb a.out hb); have ad := Z (nl d.out hg); have al := Z (ng d.out hg); replace d := Z (kb d.out hb); clear hb hbox hg; have ls := ac.out; have lU := X.out; have lt := al.out; have lV := ad.out; obtain ⟨bJ, bK, bL, bM, bN, bO, ch, ci, cj, ck, cl, cm⟩ := cells6 l.out; obtain ⟨be, bh, jb⟩ := Kd.V_slice G.out; subst jb) | ((with_reducible refine gate_store (t := 24) (p := 5) rfl ?_); refine sx_ 24 5 ((((((lm.setCell ⟨x, 0, none⟩ (.int .i64 K)).setCell ⟨x, 1, none⟩ (.int .i64 L)).setCell ⟨x, 2, none⟩ (.slice be y.length bh)).setCell ⟨x, 3, none⟩ (.int .i64 M)).setCell ⟨x, 4, none⟩ (.bool Q)).setCell ⟨x, 5, none⟩ (.bool O)) ?_; intro gV hw; replace G : Aside0 (Kd.V k35 35 gV w.heap.size (fun k_ => k_ ≠ z ∧ k_ ≠ A ∧ k_ ≠ x) (.slice be y.length bh) y) := ⟨(by rw [hw]; exact (by (with_reducible repeat apply pV); exact V_off G.out (fun k_ hk => hk.2) off2_ (fun _ hk => ⟨hk.1.1, ⟨hk.1.2, hk.2⟩⟩)))⟩; replace S : Aside0 (Kd.V k164 164 gV w.heap.size (fun k_ => k_ ≠ z ∧ k_ ≠ A ∧ k_ ≠ x) bm ae) := ⟨(by rw [hw]; exact (by (with_reducible repeat apply pV); exact V_off S.out (fun k_ hk => hk.2) off2_ (fun _ hk => ⟨hk.1.1, ⟨hk.1.2, hk.2⟩⟩)))⟩; replace a : Aside0 (gV.heap[z]? = some (.cells #[.int .i64 q, .int .i64 s, .slice ah m.length aj, .int .i64 u, .bool i, .bool j] 24 (0, 0))) := ⟨(by rw [hw]; exact (by (with_reducible repeat apply pK); exact blk_off a.out X.out off2_))⟩; replace d : Aside0 (gV.heap[A]? = some (.cells #[.int .i64 F, .int .u8 R] 58 (0, 0))) := ⟨(by rw [hw]; exact (by (with_reducible repeat apply pK); exact blk_off d.out ad.out off2_))⟩; replace l : Aside0 (gV.heap[x]? = some (.cells #[.int .i64 K, .int .i64 L, .slice be y.length bh, .int .i64 M, .bool Q, .bool O] 24 (0, 0))) := ⟨by rw [hw]; exact (put6 l.out)⟩; replace HB : Aside0 (Below w.heap.size w gV) := ⟨by rw [hw]; exact bl_⟩; clear hw))
    (try simp only [Act.put, sA, sB, sC])
    go_cut [65] (fun iC wc => ∃ (kq : Nat) (cI : Bool), iC = .bool cI ∧ Aside0 (shutterlaw17_KeysLocked.j0 kq cI q s m u i j = some r) ∧ Aside0 (kq ≤ k) ∧ Aside0 (Kd.V k35 35 wc w.heap.size (fun k_ => k_ ≠ z ∧ k_ ≠ A ∧ k_ ≠ x) (.slice be y.length bh) y) ∧ Aside0 (wc.heap[z]? = some (.cells #[.int .i64 q, .int .i64 s, (.slice ah m.length aj), .int .i64 u, .bool i, .bool j] 24 (0, 0))) ∧ Aside0 (wc.heap[A]? = some (.cells #[.int .i64 F, .int .u8 R] 58 (0, 0))) ∧ Aside0 (wc.heap[x]? = some (.cells #[.int .i64 K, .int .i64 L, (.slice be y.length bh), .int .i64 M, .bool Q, .bool O] 24 (0, 0))) ∧ Aside0 (Below w.heap.size w wc))
    case first =>
     have H := iB.out
     clear iB
     by_cases c24 : i = true
     ·subst c24
      have H1 : (if F = 16 then (shutterlaw17_KeysLocked.j0 k false q s m u true j) else (none)) = some r := by rw [if_pos rfl] at H; exact H
      clear H
      have H := H1
      clear H1
      by_cases cC : F = 16
      ·rw [if_pos cC] at H
       have bp : (F == 16) = true := beq_iff_eq.mpr cC
       have g2 : (F != 16) = false := bne_eq_false_iff_eq.mpr cC
       clear cC
       (first | rw [bp] | (simp only [i64_w, i32_w]; rw [bp]) | skip)
       have H' := Z H
       clear H
       have lu := W.out
       have lW := Y.out
       have lv := X.out
       have lX := ac.out
       obtain ⟨bP, bQ, bR, bS, bT, bU, cn, co, cp, cq, cr, ct⟩ := cells6 a.out
       have lw := ad.out
       have lY := al.out
       obtain ⟨bV, bW, cu, cv⟩ := cells2 d.out
       go_wp2
       go_meet
       case rel => exact ⟨_, (false), (dn_), H', ⟨by first | omega | exact Nat.le_refl _⟩, ⟨vV G.out⟩, ⟨vK a.out⟩, ⟨vK d.out⟩, ⟨vK l.out⟩, ⟨bl_⟩⟩
      ·rw [if_neg cC] at H
       exact absurd H (by simp)
     ·replace c24 := Bool.eq_false_iff.mpr c24
      subst c24
      have H1 : (shutterlaw17_KeysLocked.j0 k false q s m u false j) = some r := by rw [if_neg (show ¬ (false = true) by decide)] at H; exact H
      clear H
      have H := H1
      clear H1
      have H' := Z H
      clear H
      have lx := W.out
      have lZ := Y.out
      have ly := X.out
      have l0 := ac.out
      obtain ⟨bX, bY, bZ, b0, b1, b2, cw, cx, cy, cz, cA, cB⟩ := cells6 a.out
      go_wp2
      go_meet
      case rel => exact ⟨_, (false), (dn_), H', ⟨by first | omega | exact Nat.le_refl _⟩, ⟨vV G.out⟩, ⟨vK a.out⟩, ⟨vK d.out⟩, ⟨vK l.out⟩, ⟨bl_⟩⟩
    case rest =>
     clear iB
     try clear c1
     try clear q1
     try clear c2
     try clear p2
     try clear c3
     try clear c4
     try clear c6
     try clear iO
     try clear iP
     try clear im
     try clear iQ
     try clear iR
     try clear c24
     try clear cC
     try clear bp
     try clear g2
     try clear iS
     try clear iT
     try clear iU
     try clear iV
     try clear iW
     try clear bu
     try clear bv
     try clear bw
     try clear bx
     try clear bz
     try clear bA
     try clear bB
     try clear bC
     try clear bD
     try clear bE
     try clear bF
     try clear bG
     try clear bH
     try clear bI
     try clear bJ
     try clear bK
     try clear bL
     try clear bM
     try clear bN
     try clear bO
     try clear bP
     try clear bQ
     try clear bR
     try clear bS
     try clear bT
     try clear bU
     try clear bV
     try clear bW
     try clear bX
     try clear bY
     try clear bZ
     try clear b0
     try clear b1
     try clear b2
     try clear b3
     try clear b4
     try clear b5
     try clear b6
     try clear b7
     try clear b8
     try clear b9
     try clear ca
     try clear cb
     try clear cc
     try clear cd
     try clear ce
     try clear cf
     try clear cg
     try clear ch
     try clear ci
     try clear cj
     try clear ck
     try clear cl
     try clear cm
     try clear cn
     try clear co
     try clear cp
     try clear cq
     try clear cr
     try clear ct
     try clear cu
     try clear cv
     try clear cw
     try clear cx
     try clear cy
     try clear cz
     try clear cA
     try clear cB
     try clear ak
     obtain ⟨kq, cI, rfl, HA, mJ, HO_1611002, a, d, l, HB⟩ := hcut
     cases kq with
     | zero => exact absurd HA.out (by simp [shutterlaw17_KeysLocked.j0])
     | succ bq =>
      have H := HA.out
      clear HA
      simp only [shutterlaw17_KeysLocked.j0] at H
      by_cases dD : cI = true
      ·subst dD
       have H1 : (none) = some r := by rw [if_pos rfl] at H; exact H
       clear H
       have H := H1
       clear H1
       exact absurd H (by simp)
      ·replace dD := Bool.eq_false_iff.mpr dD
       subst dD
       have H1 : ((keys_Do.f bq q s m u i j 16 0).bind fun aQ => (if aQ.2.2.2.2.2.2.2.1.isNone = true then (if aQ.2.2.2.2.2.2.1 = true then (none) else (if aQ.2.2.2.2.1 = true then (none) else (if aQ.2.2.2.2.2.1 = true then (none) else ((shutterref10_Same.f bq aQ.1 aQ.2.1 aQ.2.2.1 aQ.2.2.2.1 i j q s m u i j).bind fun ax => (some ax))))) else (none))) = some r := by rw [if_neg (show ¬ (false = true) by decide)] at H; exact H
       clear H
       have H := H1
       clear H1
       replace H := Option.bind_eq_some_iff.mp H
       obtain ⟨⟨aC, aD, ar, aE, cG, bs, g4, ip, iq⟩, iv, H⟩ := H
       replace H : (if ip.isNone = true then (if g4 = true then (none) else (if cG = true then (none) else (if bs = true then (none) else ((shutterref10_Same.f bq aC aD ar aE i j q s m u i j).bind fun ax => (some ax))))) else (none)) = some r := H
       have kh := Z iv
       clear iv
       rcases ip with _ | g3
       ·have H1 : (if g4 = true then (none) else (if cG = true then (none) else (if bs = true then (none) else ((shutterref10_Same.f bq aC aD ar aE i j q s m u i j).bind fun ax => (some ax))))) = some r := by rw [if_pos (show (none : Option Er).isNone = true by rfl)] at H; exact H
        clear H
        have H := H1
        clear H1
        try simp only [errW_none, errW_some]
        by_cases dE : g4 = true
        ·subst dE
         have H1 : (none) = some r := by rw [if_pos rfl] at H; exact H
         clear H
         have H := H1
         clear H1
         exact absurd H (by simp)
        ·replace dE := Bool.eq_false_iff.mpr dE
         subst dE
         have H1 : (if cG = true then (none) else (if bs = true then (none) else ((shutterref10_Same.f bq aC aD ar aE i j q s m u i j).bind fun ax => (some ax)))) = some r := by rw [if_neg (show ¬ (false = true) by decide)] at H; exact H
         clear H
         have H := H1
         clear H1
         by_cases dF : cG = true
         ·subst dF
          have H1 : (none) = some r := by rw [if_pos rfl] at H; exact H
          clear H
          have H := H1
          clear H1
          exact absurd H (by simp)
         ·replace dF := Bool.eq_false_iff.mpr dF
          subst dF
          have H1 : (if bs = true then (none) else ((shutterref10_Same.f bq aC aD ar aE i j q s m u i j).bind fun ax => (some ax))) = some r := by rw [if_neg (show ¬ (false = true) by decide)] at H; exact H
          clear H
          have H := H1
          clear H1
          by_cases dG : bs = true
          ·subst dG
           have H1 : (none) = some r := by rw [if_pos rfl] at H; exact H
           clear H
           have H := H1
           clear H1
           exact absurd H (by simp)
          ·replace dG := Bool.eq_false_iff.mpr dG
           subst dG
           have H1 : ((shutterref10_Same.f bq aC aD ar aE i j q s m u i j).bind fun ax => (some ax)) = some r := by rw [if_neg (show ¬ (false = true) by decide)] at H; exact H
           clear H
           have H := H1
           clear H1
           replace H := Option.bind_eq_some_iff.mp H
           obtain ⟨ax, iw, H⟩ := H
           replace H : (some ax) = some r := H
           have ki := Z iw
           clear iw
           obtain rfl := Option.some.inj H
           have lz := W.out
           have l1 := Y.out
           have lA := X.out
           have l2 := ac.out
           obtain ⟨dL, dM, dN, dO, dP, dQ, fh, fi, fj, fk, fl, fm⟩ := cells6 a.out
           go_wp2_with (first | ((with_reducible refine gate_callee (f := 42) rfl ?_); refine goesL_ (some 69) rfl rfl Tryd.func42 (by kernel_rfl) rfl #[.agg #[.int .i64 q, .int .i64 s, .slice ah m.length aj, .int .i64 u, .bool i, .bool j], .agg #[.int .i64 16, .int .u8 0]] rfl ag_ ?_; (with_reducible refine (keys_Do.calls bq q s (fun k_ => k_ < w.heap.size) _ _ m u i j 16 0 aC aD ar aE false false false none iq _ ?side1 kh.out).mono ?_); (case side1 => exact Kd.V_mk aK.out (Kd.F_below (Kd.C_F k35_heap aL.out) bl_)); rintro e mP ⟨ml, iI, rfl, bj, bk, hb⟩; refine ⟨_, rfl, ?_⟩; replace HO_1611002 := Z (vb HO_1611002.out hb); have av := Z (Kd.V_lower (Kd.V_mono (ok' := fun k_ => k_ ≠ z ∧ k_ ≠ A ∧ k_ ≠ x) bj (fun k_ hk_ => ⟨Or.elim hk_ (fun hs_ => fun e_ => Nat.not_le.2 hs_ (by rw [e_]; exact aI.out)) (fun hn_ => (fb a.out k_ hn_)), Or.elim hk_ (fun hs_ => fun e_ => Nat.not_le.2 hs_ (by rw [e_]; exact aJ.out)) (fun hn_ => (fb d.out k_ hn_)), Or.elim hk_ (fun hs_ => fun e_ => Nat.not_le.2 hs_ (by rw [e_]; exact bf.out)) (fun hn_ => (fb l.out k_ hn_))⟩)) (below_size bl_)); have aM := Z (Kd.V_lower (Kd.V_mono (ok' := fun k_ => k_ ≠ z ∧ k_ ≠ A ∧ k_ ≠ x) bk (fun k_ hk_ => ⟨Or.elim hk_ (fun hs_ => fun e_ => Nat.not_le.2 hs_ (by rw [e_]; exact aI.out)) (fun hn_ => (fb a.out k_ hn_)), Or.elim hk_ (fun hs_ => fun e_ => Nat.not_le.2 hs_ (by rw [e_]; exact aJ.out)) (fun hn_ => (fb d.out k_ hn_)), Or.elim hk_ (fun hs_ => fun e_ => Nat.not_le.2 hs_ (by rw [e_]; exact bf.out)) (fun hn_ => (fb l.out k_ hn_))⟩)) (below_size bl_)); replace a := Z (kb a.out hb); replace d := Z (kb d.out hb); replace l := Z (kb l.out hb); replace HB := Z (below_step bl_ hb); (try clear hb); (try clear aV); (try clear hk); (try clear hi); (try clear bj); (try clear bk); (try simp only [errW_none, errW_some])) | ((with_reducible refine gate_dst (N := 9) rfl ?_); refine bx_ 9 24 #[.int .i64 0, .int .i64 0, .slice none 0 0, .int .i64 0, .bool false, .bool false] ?_; intro aa hg ln hbox hb; replace HO_1611002 := Z (ve HO_1611002.out hg hb); replace av := Z (ve av.out hg hb); replace aM := Z (ve aM.out hg hb); have aO := Z (hbox); have km := Z (ln_ hg : w.heap.size ≤ aa); have kk := Z (ln_ hg : w.heap.size ≤ aa); replace HB := Z (below_step bl_ hb); have a1 := Z (nl a.out hg); have dx := Z (ng a.out hg); replace a := Z (kb a.out hb); have a3 := Z (nl d.out hg); have dy := Z (ng d.out hg); replace d := Z (kb d.out hb); have a5 := Z (nl l.out hg); have dz := Z (ng l.out hg); replace l := Z (kb l.out hb); clear hb hbox hg; have lB := dx.out; have l3 := a1.out; have lC := dy.out; have l4 := a3.out; have lD := dz.out; have l5 := a5.out; obtain ⟨dR, dS, dT, dU, dV, dW, fn, fo, fp, fq, fr, fs⟩ := cells6 aO.out; obtain ⟨bo, bi, jc⟩ := Kd.V_slice av.out; subst jc) | ((with_reducible refine gate_store (t := 24) (p := 9) rfl ?_); refine sx_ 24 9 ((((((ln.setCell ⟨aa, 0, none⟩ (.int .i64 aC)).setCell ⟨aa, 1, none⟩ (.int .i64 aD)).setCell ⟨aa, 2, none⟩ (.slice bo ar.length bi)).setCell ⟨aa, 3, none⟩ (.int .i64 aE)).setCell ⟨aa, 4, none⟩ (.bool false)).setCell ⟨aa, 5, none⟩ (.bool false)) ?_; intro cD hw; replace HO_1611002 : Aside0 (Kd.V k35 35 cD w.heap.size (fun k_ => k_ ≠ z ∧ k_ ≠ A ∧ k_ ≠ x ∧ k_ ≠ aa) (.slice be y.length bh) y) := ⟨(by rw [hw]; exact (by (with_reducible repeat apply pV); exact V_off HO_1611002.out (fun k_ hk => hk.2) off2_ (fun _ hk => ⟨hk.1.1, ⟨hk.1.2.1, ⟨hk.1.2.2, hk.2⟩⟩⟩)))⟩; replace av : Aside0 (Kd.V k35 35 cD w.heap.size (fun k_ => k_ ≠ z ∧ k_ ≠ A ∧ k_ ≠ x ∧ k_ ≠ aa) (.slice bo ar.length bi) ar) := ⟨(by rw [hw]; exact (by (with_reducible repeat apply pV); exact V_off av.out (fun k_ hk => hk.2) off2_ (fun _ hk => ⟨hk.1.1, ⟨hk.1.2.1, ⟨hk.1.2.2, hk.2⟩⟩⟩)))⟩; replace aM : Aside0 (Kd.V k164 164 cD w.heap.size (fun k_ => k_ ≠ z ∧ k_ ≠ A ∧ k_ ≠ x ∧ k_ ≠ aa) iI iq) := ⟨(by rw [hw]; exact (by (with_reducible repeat apply pV); exact V_off aM.out (fun k_ hk => hk.2) off2_ (fun _ hk => ⟨hk.1.1, ⟨hk.1.2.1, ⟨hk.1.2.2, hk.2⟩⟩⟩)))⟩; replace a : Aside0 (cD.heap[z]? = some (.cells #[.int .i64 q, .int .i64 s, .slice ah m.length aj, .int .i64 u, .bool i, .bool j] 24 (0, 0))) := ⟨(by rw [hw]; exact (by (with_reducible repeat apply pK); exact blk_off a.out a1.out off2_))⟩; replace d : Aside0 (cD.heap[A]? = some (.cells #[.int .i64 F, .int .u8 R] 58 (0, 0))) := ⟨(by rw [hw]; exact (by (with_reducible repeat apply pK); exact blk_off d.out a3.out off2_))⟩; replace l : Aside0 (cD.heap[x]? = some (.cells #[.int .i64 K, .int .i64 L, .slice be y.length bh, .int .i64 M, .bool Q, .bool O] 24 (0, 0))) := ⟨(by rw [hw]; exact (by (with_reducible repeat apply pK); exact blk_off l.out a5.out off2_))⟩; replace aO : Aside0 (cD.heap[aa]? = some (.cells #[.int .i64 aC, .int .i64 aD, .slice bo ar.length bi, .int .i64 aE, .bool false, .bool false] 24 (0, 0))) := ⟨by rw [hw]; exact (put6 aO.out)⟩; replace HB : Aside0 (Below w.heap.size w cD) := ⟨by rw [hw]; exact bl_⟩; clear hw; obtain ⟨dX, dY, dZ, d0, d1, d2, ft, fu, fv, fw, fx, fy⟩ := cells6 aO.out; obtain ⟨d3, d4, d5, d6, d7, d8, fz, fA, fB, fC, fD, fE⟩ := cells6 a.out) | ((with_reducible refine gate_callee (f := 24) rfl ?_); refine goesL_ (some 94) rfl rfl Tryd.func24 (by kernel_rfl) rfl #[.agg #[.int .i64 aC, .int .i64 aD, .slice bo ar.length bi, .int .i64 aE, .bool i, .bool j], .agg #[.int .i64 q, .int .i64 s, .slice ah m.length aj, .int .i64 u, .bool i, .bool j]] rfl ag_ ?_; (with_reducible refine (shutterref10_Same.calls bq aC aD _ _ ar aE i j q s _ _ m u i j ax _ ?side1 ?side2 ?side3 ?side4 ki.out).mono ?_); (case side1 => refine (Kd.V_reads' (e := 35) (base := w.heap.size) (ok := fun k_ => (k_ ≠ z ∧ (k_ ≠ A ∧ (k_ ≠ x ∧ k_ ≠ aa)))) (n := ar.length) (c := bi) ?_).2.2; exact (by (with_reducible repeat apply pV); exact (Kd.V_mono (Kd.V_far (p := ⟨aa, 5, none⟩) (Kd.V_far (p := ⟨aa, 4, none⟩) (Kd.V_mono av.out (fun k_ hk => (⟨hk, hk.2.2.2⟩ : _ ∧ k_ ≠ aa))) (fun _ hk => hk.2) (.bool i)) (fun _ hk => hk.2) (.bool j)) (fun _ h_ => h_.1)))); (case side2 => exact (Kd.V_reads' av.out).2.1); (case side3 => exact Kd.C_below aL.out bl_); (case side4 => exact aK.out); rintro e mQ ⟨rfl, hb⟩; refine ⟨_, rfl, ?_⟩; replace HO_1611002 := Z (Kd.V_below (by (with_reducible repeat apply pV); exact (Kd.V_mono (Kd.V_far (p := ⟨aa, 5, none⟩) (Kd.V_far (p := ⟨aa, 4, none⟩) (Kd.V_mono HO_1611002.out (fun k_ hk => (⟨hk, hk.2.2.2⟩ : _ ∧ k_ ≠ aa))) (fun _ hk => hk.2) (.bool i)) (fun _ hk => hk.2) (.bool j)) (fun _ h_ => h_.1))) hb); replace av := Z (Kd.V_below (by (with_reducible repeat apply pV); exact (Kd.V_mono (Kd.V_far (p := ⟨aa, 5, none⟩) (Kd.V_far (p := ⟨aa, 4, none⟩) (Kd.V_mono av.out (fun k_ hk => (⟨hk, hk.2.2.2⟩ : _ ∧ k_ ≠ aa))) (fun _ hk => hk.2) (.bool i)) (fun _ hk => hk.2) (.bool j)) (fun _ h_ => h_.1))) hb); replace aM := Z (Kd.V_below (by (with_reducible repeat apply pV); exact (Kd.V_mono (Kd.V_far (p := ⟨aa, 5, none⟩) (Kd.V_far (p := ⟨aa, 4, none⟩) (Kd.V_mono aM.out (fun k_ hk => (⟨hk, hk.2.2.2⟩ : _ ∧ k_ ≠ aa))) (fun _ hk => hk.2) (.bool i)) (fun _ hk => hk.2) (.bool j)) (fun _ h_ => h_.1))) hb); replace a := Z (blk_below (g := z) (o := .cells #[.int .i64 q, .int .i64 s, .slice ah m.length aj, .int .i64 u, .bool i, .bool j] 24 (0, 0)) (by (with_reducible repeat apply pK); exact blk_off a.out a1.out off2_) hb); replace d := Z (blk_below (g := A) (o := .cells #[.int .i64 F, .int .u8 R] 58 (0, 0)) (by (with_reducible repeat apply pK); exact blk_off d.out a3.out off2_) hb); replace l := Z (blk_below (g := x) (o := .cells #[.int .i64 K, .int .i64 L, .slice be y.length bh, .int .i64 M, .bool Q, .bool O] 24 (0, 0)) (by (with_reducible repeat apply pK); exact blk_off l.out a5.out off2_) hb); replace aO := Z (blk_below (g := aa) (o := .cells #[.int .i64 aC, .int .i64 aD, .slice bo ar.length bi, .int .i64 aE, .bool i, .bool j] 24 (0, 0)) (by (with_reducible repeat apply pK); refine blk_put (cs := #[.int .i64 aC, .int .i64 aD, .slice bo ar.length bi, .int .i64 aE, .bool i, .bool false]) ?_ 5 _ rfl; (with_reducible repeat apply pK); refine blk_put (cs := #[.int .i64 aC, .int .i64 aD, .slice bo ar.length bi, .int .i64 aE, .bool false, .bool false]) ?_ 4 _ rfl; (with_reducible repeat apply pK); exact aO.out) hb); replace HB := Z (below_step bl_ hb); (try clear hb); (try clear aV); (try clear hk); (try clear hi)))
           go_ret
           exact ⟨er_, bl_⟩
       ·have H1 : (none) = some r := by rw [if_neg (show ¬ (some g3).isNone = true by simp)] at H; exact H
        clear H
        have H := H1
        clear H1
        try simp only [errW_none, errW_some]
        exact absurd H (by simp)
   ·have H1 : (if br = true then (none) else ((shutterref10_Same.f k K L y M i O q s m u i j).bind fun am => (if am = true then (if i = true then (if Q = true then (shutterlaw17_KeysLocked.j1 k q s m u i j F R K L y M Q O (some ak) ae) else (none)) else (shutterlaw17_KeysLocked.j1 k q s m u i j F R K L y M Q O (some ak) ae)) else (none)))) = some r := by rw [if_neg (show ¬ (some ak).isNone = true by simp)] at H; exact H
    clear H
    have H := H1
    clear H1
    try simp only [errW_none, errW_some]
    have g9 := Z H
    clear H
    go_enter Tryd.func14, Tryd.ntmps14
    go_upto_if 28 with (first | ((with_reducible refine gate_dst (N := 2) rfl ?_); refine bx_ 2 24 #[.int .i64 q, .int .i64 s, .slice ah m.length aj, .int .i64 u, .bool i, .bool j] ?_; intro z hg mR hbox hb; have a := Z (hbox); have aI := Z (ln_ hg : w.heap.size ≤ z); have g6 := Z (ln_ hg : w.heap.size ≤ z); replace HB := Z (below_step bl_ hb); clear hb hbox hg) | ((with_reducible refine gate_dst (N := 3) rfl ?_); refine bx_ 3 58 #[.int .i64 F, .int .u8 R] ?_; intro A hg mS hbox hb; have d := Z (hbox); have aJ := Z (ln_ hg : w.heap.size ≤ A); have g7 := Z (ln_ hg : w.heap.size ≤ A); replace HB := Z (below_step bl_ hb); have W := Z (nl a.out hg); have Y := Z (ng a.out hg); replace a := Z (kb a.out hb); clear hb hbox hg) | ((with_reducible refine gate_callee (f := 41) rfl ?_); refine goesL_ (some 12) rfl rfl Tryd.func41 (by kernel_rfl) rfl #[] rfl ag_ ?_; (with_reducible refine (shutterlaw17_awake.calls k  true _ ?sideG A3.out).mono ?_); (case sideG => exact laidG_below HG.out bl_ rfl); rintro e mT ⟨rfl, hb⟩; refine ⟨_, rfl, ?_⟩; replace a := Z (kb a.out hb); replace d := Z (kb d.out hb); replace HB := Z (below_step bl_ hb); (try clear hb); (try clear aV); (try clear hk); (try clear hi); have lE := W.out; have l6 := Y.out; obtain ⟨d9, ea, eb, ec, ed, ee, fF, fG, fH, fI, fJ, fK⟩ := cells6 a.out) | (go_at_call 18; (with_reducible refine (shutterref10_Few.calls k q s _ _ m u i j true _ ?side1 ?side2 A5.out).mono ?_); (case side1 => repeat (first | exact (Kd.C_below aL.out HB.out) | (with_reducible apply pC))); (case side2 => exact aK.out); rintro e mU ⟨rfl, hb⟩; replace a := Z (kb a.out hb); replace d := Z (kb d.out hb); replace HB := Z (below_step bl_ hb); (try clear hb); (try clear aV); (try clear hk); (try clear hi); obtain ⟨ef, eg, eh, ei, ej, ek, fL, fM, fN, fO, fP, fQ⟩ := cells6 a.out; obtain ⟨el, em, fR, fS⟩ := cells2 d.out) | ((with_reducible refine gate_callee (f := 42) rfl ?_); refine goesL_ (some 23) rfl rfl Tryd.func42 (by kernel_rfl) rfl #[.agg #[.int .i64 q, .int .i64 s, .slice ah m.length aj, .int .i64 u, .bool i, .bool j], .agg #[.int .i64 F, .int .u8 R]] rfl ag_ ?_; (with_reducible refine (keys_Do.calls k q s (fun k_ => k_ < w.heap.size) _ _ m u i j F R K L y M Q O br (some ak) ae _ ?side1 A7.out).mono ?_); (case side1 => exact Kd.V_mk aK.out (Kd.F_below (Kd.C_F k35_heap aL.out) bl_)); rintro e mV ⟨iH, bm, rfl, bj, bk, hb⟩; refine ⟨_, rfl, ?_⟩; have G := Z (Kd.V_lower (Kd.V_mono (ok' := fun k_ => k_ ≠ z ∧ k_ ≠ A) bj (fun k_ hk_ => ⟨Or.elim hk_ (fun hs_ => fun e_ => Nat.not_le.2 hs_ (by rw [e_]; exact aI.out)) (fun hn_ => (fb a.out k_ hn_)), Or.elim hk_ (fun hs_ => fun e_ => Nat.not_le.2 hs_ (by rw [e_]; exact aJ.out)) (fun hn_ => (fb d.out k_ hn_))⟩)) (below_size bl_)); have S := Z (Kd.V_lower (Kd.V_mono (ok' := fun k_ => k_ ≠ z ∧ k_ ≠ A) bk (fun k_ hk_ => ⟨Or.elim hk_ (fun hs_ => fun e_ => Nat.not_le.2 hs_ (by rw [e_]; exact aI.out)) (fun hn_ => (fb a.out k_ hn_)), Or.elim hk_ (fun hs_ => fun e_ => Nat.not_le.2 hs_ (by rw [e_]; exact aJ.out)) (fun hn_ => (fb d.out k_ hn_))⟩)) (below_size bl_)); replace a := Z (kb a.out hb); replace d := Z (kb d.out hb); replace HB := Z (below_step bl_ hb); (try clear hb); (try clear aV); (try clear hk); (try clear hi); (try clear bj); (try clear bk); (try simp only [errW_none, errW_some])) | ((with_reducible refine gate_dst (N := 5) rfl ?_); refine bx_ 5 24 #[.int .i64 0, .int .i64 0, .slice none 0 0, .int .i64 0, .bool false, .bool false] ?_; intro x hg w64 hbox hb; replace G := Z (ve G.out hg hb); replace S := Z (ve S.out hg hb); have l := Z (hbox); have bf := Z (ln_ hg : w.heap.size ≤ x); have iy := Z (ln_ hg : w.heap.size ≤ x); replace HB := Z (below_step bl_ hb); have X := Z (nl a.out hg); have ac := Z (ng a.out hg); replace a := Z (kb a.out hb); have ad := Z (nl d.out hg); have al := Z (ng d.out hg); replace d := Z (kb d.out hb); clear hb hbox hg; have lF := ac.out; have l7 := X.out; have lG := al.out; have l8 := ad.out; obtain ⟨en, eo, ep, eq, er, es, fT, fU, fV, fW, fX, fY⟩ := cells6 l.out; obtain ⟨ai, ag, jd⟩ := Kd.V_slice G.out; subst jd) | ((with_reducible refine gate_store (t := 24) (p := 5) rfl ?_); refine sx_ 24 5 ((((((w64.setCell ⟨x, 0, none⟩ (.int .i64 K)).setCell ⟨x, 1, none⟩ (.int .i64 L)).setCell ⟨x, 2, none⟩ (.slice ai y.length ag)).setCell ⟨x, 3, none⟩ (.int .i64 M)).setCell ⟨x, 4, none⟩ (.bool Q)).setCell ⟨x, 5, none⟩ (.bool O)) ?_; intro gW hw; replace G : Aside0 (Kd.V k35 35 gW w.heap.size (fun k_ => k_ ≠ z ∧ k_ ≠ A ∧ k_ ≠ x) (.slice ai y.length ag) y) := ⟨(by rw [hw]; exact (by (with_reducible repeat apply pV); exact V_off G.out (fun k_ hk => hk.2) off2_ (fun _ hk => ⟨hk.1.1, ⟨hk.1.2, hk.2⟩⟩)))⟩; replace S : Aside0 (Kd.V k164 164 gW w.heap.size (fun k_ => k_ ≠ z ∧ k_ ≠ A ∧ k_ ≠ x) bm ae) := ⟨(by rw [hw]; exact (by (with_reducible repeat apply pV); exact V_off S.out (fun k_ hk => hk.2) off2_ (fun _ hk => ⟨hk.1.1, ⟨hk.1.2, hk.2⟩⟩)))⟩; replace a : Aside0 (gW.heap[z]? = some (.cells #[.int .i64 q, .int .i64 s, .slice ah m.length aj, .int .i64 u, .bool i, .bool j] 24 (0, 0))) := ⟨(by rw [hw]; exact (by (with_reducible repeat apply pK); exact blk_off a.out X.out off2_))⟩; replace d : Aside0 (gW.heap[A]? = some (.cells #[.int .i64 F, .int .u8 R] 58 (0, 0))) := ⟨(by rw [hw]; exact (by (with_reducible repeat apply pK); exact blk_off d.out ad.out off2_))⟩; replace l : Aside0 (gW.heap[x]? = some (.cells #[.int .i64 K, .int .i64 L, .slice ai y.length ag, .int .i64 M, .bool Q, .bool O] 24 (0, 0))) := ⟨by rw [hw]; exact (put6 l.out)⟩; replace HB : Aside0 (Below w.heap.size w gW) := ⟨by rw [hw]; exact bl_⟩; clear hw))
    (try simp only [Act.put, sA, sB, sC])
    go_cut [] (fun wc => ∃ (kq : Nat), Aside0 (shutterlaw17_KeysLocked.j1 kq q s m u i j F R K L y M Q O (some ak) ae = some r) ∧ Aside0 (kq ≤ k) ∧ Aside0 (Kd.V k35 35 wc w.heap.size (fun k_ => k_ ≠ z ∧ k_ ≠ A ∧ k_ ≠ x) (.slice ai y.length ag) y) ∧ Aside0 (Kd.V k164 164 wc w.heap.size (fun k_ => k_ ≠ z ∧ k_ ≠ A ∧ k_ ≠ x) bm ae) ∧ Aside0 (wc.heap[z]? = some (.cells #[.int .i64 q, .int .i64 s, (.slice ah m.length aj), .int .i64 u, .bool i, .bool j] 24 (0, 0))) ∧ Aside0 (wc.heap[A]? = some (.cells #[.int .i64 F, .int .u8 R] 58 (0, 0))) ∧ Aside0 (wc.heap[x]? = some (.cells #[.int .i64 K, .int .i64 L, (.slice ai y.length ag), .int .i64 M, .bool Q, .bool O] 24 (0, 0))) ∧ Aside0 (Below w.heap.size w wc))
    case first =>
     have H := g9.out
     clear g9
     by_cases dH : br = true
     ·subst dH
      have H1 : (none) = some r := by rw [if_pos rfl] at H; exact H
      clear H
      have H := H1
      clear H1
      exact absurd H (by simp)
     ·replace dH := Bool.eq_false_iff.mpr dH
      subst dH
      have H1 : ((shutterref10_Same.f k K L y M i O q s m u i j).bind fun am => (if am = true then (if i = true then (if Q = true then (shutterlaw17_KeysLocked.j1 k q s m u i j F R K L y M Q O (some ak) ae) else (none)) else (shutterlaw17_KeysLocked.j1 k q s m u i j F R K L y M Q O (some ak) ae)) else (none))) = some r := by rw [if_neg (show ¬ (false = true) by decide)] at H; exact H
      clear H
      have H := H1
      clear H1
      replace H := Option.bind_eq_some_iff.mp H
      obtain ⟨am, ix, H⟩ := H
      replace H : (if am = true then (if i = true then (if Q = true then (shutterlaw17_KeysLocked.j1 k q s m u i j F R K L y M Q O (some ak) ae) else (none)) else (shutterlaw17_KeysLocked.j1 k q s m u i j F R K L y M Q O (some ak) ae)) else (none)) = some r := H
      have iN := Z ix
      clear ix
      by_cases dI : am = true
      ·subst dI
       have H1 : (if i = true then (if Q = true then (shutterlaw17_KeysLocked.j1 k q s m u i j F R K L y M Q O (some ak) ae) else (none)) else (shutterlaw17_KeysLocked.j1 k q s m u i j F R K L y M Q O (some ak) ae)) = some r := by rw [if_pos rfl] at H; exact H
       clear H
       have H := H1
       clear H1
       by_cases dJ : i = true
       ·subst dJ
        have H1 : (if Q = true then (shutterlaw17_KeysLocked.j1 k q s m u true j F R K L y M Q O (some ak) ae) else (none)) = some r := by rw [if_pos rfl] at H; exact H
        clear H
        have H := H1
        clear H1
        by_cases dK : Q = true
        ·subst dK
         have H1 : (shutterlaw17_KeysLocked.j1 k q s m u true j F R K L y M true O (some ak) ae) = some r := by rw [if_pos rfl] at H; exact H
         clear H
         have H := H1
         clear H1
         have H' := Z H
         clear H
         have lH := ac.out
         have l9 := X.out
         have lI := al.out
         have ma := ad.out
         obtain ⟨et, eu, ev, ew, ex, ey, fZ, ga, gb, gc, gd, ge⟩ := cells6 l.out
         go_wp2_with (first | ((with_reducible refine gate_dst (N := 8) rfl ?_); refine bx_ 8 24 #[.int .i64 0, .int .i64 0, .slice none 0 0, .int .i64 0, .bool false, .bool false] ?_; intro J hg lo hbox hb; replace G := Z (ve G.out hg hb); replace S := Z (ve S.out hg hb); have af := Z (hbox); have iA := Z (ln_ hg : w.heap.size ≤ J); have iz := Z (ln_ hg : w.heap.size ≤ J); replace HB := Z (below_step bl_ hb); have ao := Z (nl a.out hg); have a7 := Z (ng a.out hg); replace a := Z (kb a.out hb); have ap := Z (nl d.out hg); have a8 := Z (ng d.out hg); replace d := Z (kb d.out hb); have aq := Z (nl l.out hg); have a9 := Z (ng l.out hg); replace l := Z (kb l.out hb); clear hb hbox hg; have lJ := a7.out; have mb := ao.out; have lK := a8.out; have mc := ap.out; have lL := a9.out; have md := aq.out; obtain ⟨eA, eB, eC, eD, eE, eF, gf, gg, gh, gi, gj, gk⟩ := cells6 af.out) | ((with_reducible refine gate_store (t := 24) (p := 8) rfl ?_); refine sx_ 24 8 ((((((lo.setCell ⟨J, 0, none⟩ (.int .i64 K)).setCell ⟨J, 1, none⟩ (.int .i64 L)).setCell ⟨J, 2, none⟩ (.slice ai y.length ag)).setCell ⟨J, 3, none⟩ (.int .i64 M)).setCell ⟨J, 4, none⟩ (.bool true)).setCell ⟨J, 5, none⟩ (.bool O)) ?_; intro dv hw; replace G : Aside0 (Kd.V k35 35 dv w.heap.size (fun k_ => k_ ≠ z ∧ k_ ≠ A ∧ k_ ≠ x ∧ k_ ≠ J) (.slice ai y.length ag) y) := ⟨(by rw [hw]; exact (by (with_reducible repeat apply pV); exact V_off G.out (fun k_ hk => hk.2) off2_ (fun _ hk => ⟨hk.1.1, ⟨hk.1.2.1, ⟨hk.1.2.2, hk.2⟩⟩⟩)))⟩; replace S : Aside0 (Kd.V k164 164 dv w.heap.size (fun k_ => k_ ≠ z ∧ k_ ≠ A ∧ k_ ≠ x ∧ k_ ≠ J) bm ae) := ⟨(by rw [hw]; exact (by (with_reducible repeat apply pV); exact V_off S.out (fun k_ hk => hk.2) off2_ (fun _ hk => ⟨hk.1.1, ⟨hk.1.2.1, ⟨hk.1.2.2, hk.2⟩⟩⟩)))⟩; replace a : Aside0 (dv.heap[z]? = some (.cells #[.int .i64 q, .int .i64 s, .slice ah m.length aj, .int .i64 u, .bool true, .bool j] 24 (0, 0))) := ⟨(by rw [hw]; exact (by (with_reducible repeat apply pK); exact blk_off a.out ao.out off2_))⟩; replace d : Aside0 (dv.heap[A]? = some (.cells #[.int .i64 F, .int .u8 R] 58 (0, 0))) := ⟨(by rw [hw]; exact (by (with_reducible repeat apply pK); exact blk_off d.out ap.out off2_))⟩; replace l : Aside0 (dv.heap[x]? = some (.cells #[.int .i64 K, .int .i64 L, .slice ai y.length ag, .int .i64 M, .bool true, .bool O] 24 (0, 0))) := ⟨(by rw [hw]; exact (by (with_reducible repeat apply pK); exact blk_off l.out aq.out off2_))⟩; replace af : Aside0 (dv.heap[J]? = some (.cells #[.int .i64 K, .int .i64 L, .slice ai y.length ag, .int .i64 M, .bool true, .bool O] 24 (0, 0))) := ⟨by rw [hw]; exact (put6 af.out)⟩; replace HB : Aside0 (Below w.heap.size w dv) := ⟨by rw [hw]; exact bl_⟩; clear hw; have lM := W.out; have me := Y.out; obtain ⟨eG, eH, eI, eJ, eK, eL, gl, gm, gn, go, gp, gq⟩ := cells6 a.out; obtain ⟨eM, eN, eO, eP, eQ, eR, gr, gs, gt, gu, gv, gw⟩ := cells6 af.out) | (go_at_call 24; (with_reducible refine (shutterref10_Same.calls k K L _ _ y M true O q s _ _ m u true j true _ ?side1 ?side2 ?side3 ?side4 iN.out).mono ?_); (case side1 => refine (Kd.V_reads' (e := 35) (base := w.heap.size) (ok := fun k_ => (k_ ≠ z ∧ (k_ ≠ A ∧ (k_ ≠ x ∧ k_ ≠ J)))) (n := y.length) (c := ag) ?_).2.2; exact (by (with_reducible repeat apply pV); exact (Kd.V_mono (Kd.V_far (p := ⟨J, 4, none⟩) (Kd.V_mono G.out (fun k_ hk => (⟨hk, hk.2.2.2⟩ : _ ∧ k_ ≠ J))) (fun _ hk => hk.2) (.bool true)) (fun _ h_ => h_.1)))); (case side2 => exact (Kd.V_reads' G.out).2.1); (case side3 => exact Kd.C_below aL.out bl_); (case side4 => exact aK.out); rintro e mW ⟨rfl, hb⟩; replace G := Z (Kd.V_below (by (with_reducible repeat apply pV); exact (Kd.V_mono (Kd.V_far (p := ⟨J, 4, none⟩) (Kd.V_mono G.out (fun k_ hk => (⟨hk, hk.2.2.2⟩ : _ ∧ k_ ≠ J))) (fun _ hk => hk.2) (.bool true)) (fun _ h_ => h_.1))) hb); replace S := Z (Kd.V_below (by (with_reducible repeat apply pV); exact (Kd.V_mono (Kd.V_far (p := ⟨J, 4, none⟩) (Kd.V_mono S.out (fun k_ hk => (⟨hk, hk.2.2.2⟩ : _ ∧ k_ ≠ J))) (fun _ hk => hk.2) (.bool true)) (fun _ h_ => h_.1))) hb); replace a := Z (blk_below (g := z) (o := .cells #[.int .i64 q, .int .i64 s, .slice ah m.length aj, .int .i64 u, .bool true, .bool j] 24 (0, 0)) (by (with_reducible repeat apply pK); exact blk_off a.out ao.out off2_) hb); replace d := Z (blk_below (g := A) (o := .cells #[.int .i64 F, .int .u8 R] 58 (0, 0)) (by (with_reducible repeat apply pK); exact blk_off d.out ap.out off2_) hb); replace l := Z (blk_below (g := x) (o := .cells #[.int .i64 K, .int .i64 L, .slice ai y.length ag, .int .i64 M, .bool true, .bool O] 24 (0, 0)) (by (with_reducible repeat apply pK); exact blk_off l.out aq.out off2_) hb); replace af := Z (blk_below (g := J) (o := .cells #[.int .i64 K, .int .i64 L, .slice ai y.length ag, .int .i64 M, .bool true, .bool O] 24 (0, 0)) (by (with_reducible repeat apply pK); refine blk_put (cs := #[.int .i64 K, .int .i64 L, .slice ai y.length ag, .int .i64 M, .bool true, .bool O]) ?_ 4 _ rfl; (with_reducible repeat apply pK); exact af.out) hb); replace HB := Z (below_step bl_ hb); (try clear hb); (try clear aV); (try clear hk); (try clear hi); obtain ⟨eS, eT, eU, eV, eW, eX, gx, gy, gz, gA, gB, gC⟩ := cells6 a.out; obtain ⟨eY, eZ, e0, e1, e2, e3, gD, gE, gF, gG, gH, gI⟩ := cells6 l.out))
         go_meet
         case rel => exact ⟨_, H', ⟨by first | omega | exact Nat.le_refl _⟩, ⟨by (with_reducible repeat apply pV); exact Kd.V_mono G.out (fun _ hk => ⟨hk.1, ⟨hk.2.1, hk.2.2.1⟩⟩)⟩, ⟨by (with_reducible repeat apply pV); exact Kd.V_mono S.out (fun _ hk => ⟨hk.1, ⟨hk.2.1, hk.2.2.1⟩⟩)⟩, ⟨vK a.out⟩, ⟨vK d.out⟩, ⟨vK l.out⟩, ⟨bl_⟩⟩
        ·replace dK := Bool.eq_false_iff.mpr dK
         subst dK
         have H1 : (none) = some r := by rw [if_neg (show ¬ (false = true) by decide)] at H; exact H
         clear H
         have H := H1
         clear H1
         exact absurd H (by simp)
       ·replace dJ := Bool.eq_false_iff.mpr dJ
        subst dJ
        have H1 : (shutterlaw17_KeysLocked.j1 k q s m u false j F R K L y M Q O (some ak) ae) = some r := by rw [if_neg (show ¬ (false = true) by decide)] at H; exact H
        clear H
        have H := H1
        clear H1
        have H' := Z H
        clear H
        have lN := ac.out
        have mf := X.out
        have lO := al.out
        have mg := ad.out
        obtain ⟨e4, e5, e6, e7, e8, e9, gJ, gK, gL, gM, gN, gO⟩ := cells6 l.out
        go_wp2_with (first | ((with_reducible refine gate_dst (N := 8) rfl ?_); refine bx_ 8 24 #[.int .i64 0, .int .i64 0, .slice none 0 0, .int .i64 0, .bool false, .bool false] ?_; intro J hg lp hbox hb; replace G := Z (ve G.out hg hb); replace S := Z (ve S.out hg hb); have af := Z (hbox); have iA := Z (ln_ hg : w.heap.size ≤ J); have iz := Z (ln_ hg : w.heap.size ≤ J); replace HB := Z (below_step bl_ hb); have ao := Z (nl a.out hg); have a7 := Z (ng a.out hg); replace a := Z (kb a.out hb); have ap := Z (nl d.out hg); have a8 := Z (ng d.out hg); replace d := Z (kb d.out hb); have aq := Z (nl l.out hg); have a9 := Z (ng l.out hg); replace l := Z (kb l.out hb); clear hb hbox hg; have lP := a7.out; have mh := ao.out; have lQ := a8.out; have mi := ap.out; have lR := a9.out; have mj := aq.out; obtain ⟨fa, fc, fd, fe, ff, fg, gP, gQ, gR, gS, gT, gU⟩ := cells6 af.out) | ((with_reducible refine gate_store (t := 24) (p := 8) rfl ?_); refine sx_ 24 8 ((((((lp.setCell ⟨J, 0, none⟩ (.int .i64 K)).setCell ⟨J, 1, none⟩ (.int .i64 L)).setCell ⟨J, 2, none⟩ (.slice ai y.length ag)).setCell ⟨J, 3, none⟩ (.int .i64 M)).setCell ⟨J, 4, none⟩ (.bool Q)).setCell ⟨J, 5, none⟩ (.bool O)) ?_; intro dw hw; replace G : Aside0 (Kd.V k35 35 dw w.heap.size (fun k_ => k_ ≠ z ∧ k_ ≠ A ∧ k_ ≠ x ∧ k_ ≠ J) (.slice ai y.length ag) y) := ⟨(by rw [hw]; exact (by (with_reducible repeat apply pV); exact V_off G.out (fun k_ hk => hk.2) off2_ (fun _ hk => ⟨hk.1.1, ⟨hk.1.2.1, ⟨hk.1.2.2, hk.2⟩⟩⟩)))⟩; replace S : Aside0 (Kd.V k164 164 dw w.heap.size (fun k_ => k_ ≠ z ∧ k_ ≠ A ∧ k_ ≠ x ∧ k_ ≠ J) bm ae) := ⟨(by rw [hw]; exact (by (with_reducible repeat apply pV); exact V_off S.out (fun k_ hk => hk.2) off2_ (fun _ hk => ⟨hk.1.1, ⟨hk.1.2.1, ⟨hk.1.2.2, hk.2⟩⟩⟩)))⟩; replace a : Aside0 (dw.heap[z]? = some (.cells #[.int .i64 q, .int .i64 s, .slice ah m.length aj, .int .i64 u, .bool false, .bool j] 24 (0, 0))) := ⟨(by rw [hw]; exact (by (with_reducible repeat apply pK); exact blk_off a.out ao.out off2_))⟩; replace d : Aside0 (dw.heap[A]? = some (.cells #[.int .i64 F, .int .u8 R] 58 (0, 0))) := ⟨(by rw [hw]; exact (by (with_reducible repeat apply pK); exact blk_off d.out ap.out off2_))⟩; replace l : Aside0 (dw.heap[x]? = some (.cells #[.int .i64 K, .int .i64 L, .slice ai y.length ag, .int .i64 M, .bool Q, .bool O] 24 (0, 0))) := ⟨(by rw [hw]; exact (by (with_reducible repeat apply pK); exact blk_off l.out aq.out off2_))⟩; replace af : Aside0 (dw.heap[J]? = some (.cells #[.int .i64 K, .int .i64 L, .slice ai y.length ag, .int .i64 M, .bool Q, .bool O] 24 (0, 0))) := ⟨by rw [hw]; exact (put6 af.out)⟩; replace HB : Aside0 (Below w.heap.size w dw) := ⟨by rw [hw]; exact bl_⟩; clear hw; have lS := W.out; have mk := Y.out; obtain ⟨cK, cL, cM, cN, cO, cP, db, dc, dd, de, df, dg⟩ := cells6 a.out; obtain ⟨cQ, cR, cS, cT, cU, cV, dh, di, dj, dk, dl, dm⟩ := cells6 af.out) | (go_at_call 24; (with_reducible refine (shutterref10_Same.calls k K L _ _ y M false O q s _ _ m u false j true _ ?side1 ?side2 ?side3 ?side4 iN.out).mono ?_); (case side1 => refine (Kd.V_reads' (e := 35) (base := w.heap.size) (ok := fun k_ => (k_ ≠ z ∧ (k_ ≠ A ∧ (k_ ≠ x ∧ k_ ≠ J)))) (n := y.length) (c := ag) ?_).2.2; exact (by (with_reducible repeat apply pV); exact (Kd.V_mono (Kd.V_far (p := ⟨J, 4, none⟩) (Kd.V_mono G.out (fun k_ hk => (⟨hk, hk.2.2.2⟩ : _ ∧ k_ ≠ J))) (fun _ hk => hk.2) (.bool false)) (fun _ h_ => h_.1)))); (case side2 => exact (Kd.V_reads' G.out).2.1); (case side3 => exact Kd.C_below aL.out bl_); (case side4 => exact aK.out); rintro e mA ⟨rfl, hb⟩; replace G := Z (Kd.V_below (by (with_reducible repeat apply pV); exact (Kd.V_mono (Kd.V_far (p := ⟨J, 4, none⟩) (Kd.V_mono G.out (fun k_ hk => (⟨hk, hk.2.2.2⟩ : _ ∧ k_ ≠ J))) (fun _ hk => hk.2) (.bool false)) (fun _ h_ => h_.1))) hb); replace S := Z (Kd.V_below (by (with_reducible repeat apply pV); exact (Kd.V_mono (Kd.V_far (p := ⟨J, 4, none⟩) (Kd.V_mono S.out (fun k_ hk => (⟨hk, hk.2.2.2⟩ : _ ∧ k_ ≠ J))) (fun _ hk => hk.2) (.bool false)) (fun _ h_ => h_.1))) hb); replace a := Z (blk_below (g := z) (o := .cells #[.int .i64 q, .int .i64 s, .slice ah m.length aj, .int .i64 u, .bool false, .bool j] 24 (0, 0)) (by (with_reducible repeat apply pK); exact blk_off a.out ao.out off2_) hb); replace d := Z (blk_below (g := A) (o := .cells #[.int .i64 F, .int .u8 R] 58 (0, 0)) (by (with_reducible repeat apply pK); exact blk_off d.out ap.out off2_) hb); replace l := Z (blk_below (g := x) (o := .cells #[.int .i64 K, .int .i64 L, .slice ai y.length ag, .int .i64 M, .bool Q, .bool O] 24 (0, 0)) (by (with_reducible repeat apply pK); exact blk_off l.out aq.out off2_) hb); replace af := Z (blk_below (g := J) (o := .cells #[.int .i64 K, .int .i64 L, .slice ai y.length ag, .int .i64 M, .bool false, .bool O] 24 (0, 0)) (by (with_reducible repeat apply pK); refine blk_put (cs := #[.int .i64 K, .int .i64 L, .slice ai y.length ag, .int .i64 M, .bool Q, .bool O]) ?_ 4 _ rfl; (with_reducible repeat apply pK); exact af.out) hb); replace HB := Z (below_step bl_ hb); (try clear hb); (try clear aV); (try clear hk); (try clear hi); obtain ⟨cW, cX, cY, cZ, c0, da, dn, dp, dq, dr, ds, dt⟩ := cells6 a.out))
        go_meet
        case rel => exact ⟨_, H', ⟨by first | omega | exact Nat.le_refl _⟩, ⟨by (with_reducible repeat apply pV); exact Kd.V_mono G.out (fun _ hk => ⟨hk.1, ⟨hk.2.1, hk.2.2.1⟩⟩)⟩, ⟨by (with_reducible repeat apply pV); exact Kd.V_mono S.out (fun _ hk => ⟨hk.1, ⟨hk.2.1, hk.2.2.1⟩⟩)⟩, ⟨vK a.out⟩, ⟨vK d.out⟩, ⟨vK l.out⟩, ⟨bl_⟩⟩
      ·replace dI := Bool.eq_false_iff.mpr dI
       subst dI
       have H1 : (none) = some r := by rw [if_neg (show ¬ (false = true) by decide)] at H; exact H
       clear H
       have H := H1
       clear H1
       exact absurd H (by simp)
    case rest =>
     clear g9
     try clear c1
     try clear q1
     try clear c2
     try clear p2
     try clear c3
     try clear c4
     try clear c5
     try clear c6
     try clear c7
     try clear c8
     try clear c9
     try clear iO
     try clear iP
     try clear im
     try clear iQ
     try clear iR
     try clear c24
     try clear cC
     try clear bp
     try clear g2
     try clear iS
     try clear iT
     try clear iU
     try clear iV
     try clear iW
     try clear dD
     try clear dE
     try clear dF
     try clear dG
     try clear ko
     try clear kp
     try clear kr
     try clear ks
     try clear kt
     try clear ku
     try clear kv
     try clear kw
     try clear kx
     try clear dH
     try clear dI
     try clear dJ
     try clear dK
     try clear ky
     try clear kz
     try clear kA
     try clear kB
     try clear kC
     try clear kD
     try clear kE
     try clear kF
     try clear kG
     try clear kH
     try clear kI
     try clear kJ
     try clear cK
     try clear cL
     try clear cM
     try clear cN
     try clear cO
     try clear cP
     try clear cQ
     try clear cR
     try clear cS
     try clear cT
     try clear cU
     try clear cV
     try clear cW
     try clear cX
     try clear cY
     try clear cZ
     try clear c0
     try clear da
     try clear bu
     try clear bv
     try clear bw
     try clear bx
     try clear bz
     try clear bA
     try clear bB
     try clear bC
     try clear bD
     try clear bE
     try clear bF
     try clear bG
     try clear bH
     try clear bI
     try clear bJ
     try clear bK
     try clear bL
     try clear bM
     try clear bN
     try clear bO
     try clear bP
     try clear bQ
     try clear bR
     try clear bS
     try clear bT
     try clear bU
     try clear bV
     try clear bW
     try clear bX
     try clear bY
     try clear bZ
     try clear b0
     try clear b1
     try clear b2
     try clear dL
     try clear dM
     try clear dN
     try clear dO
     try clear dP
     try clear dQ
     try clear dR
     try clear dS
     try clear dT
     try clear dU
     try clear dV
     try clear dW
     try clear dX
     try clear dY
     try clear dZ
     try clear d0
     try clear d1
     try clear d2
     try clear d3
     try clear d4
     try clear d5
     try clear d6
     try clear d7
     try clear d8
     try clear d9
     try clear ea
     try clear eb
     try clear ec
     try clear ed
     try clear ee
     try clear ef
     try clear eg
     try clear eh
     try clear ei
     try clear ej
     try clear ek
     try clear el
     try clear em
     try clear en
     try clear eo
     try clear ep
     try clear eq
     try clear er
     try clear es
     try clear et
     try clear eu
     try clear ev
     try clear ew
     try clear ex
     try clear ey
     try clear eA
     try clear eB
     try clear eC
     try clear eD
     try clear eE
     try clear eF
     try clear eG
     try clear eH
     try clear eI
     try clear eJ
     try clear eK
     try clear eL
     try clear eM
     try clear eN
     try clear eO
     try clear eP
     try clear eQ
     try clear eR
     try clear eS
     try clear eT
     try clear eU
     try clear eV
     try clear eW
     try clear eX
     try clear eY
     try clear eZ
     try clear e0
     try clear e1
     try clear e2
     try clear e3
     try clear e4
     try clear e5
     try clear e6
     try clear e7
     try clear e8
     try clear e9
     try clear fa
     try clear fc
     try clear fd
     try clear fe
     try clear ff
     try clear fg
     try clear db
     try clear dc
     try clear dd
     try clear de
     try clear df
     try clear dg
     try clear dh
     try clear di
     try clear dj
     try clear dk
     try clear dl
     try clear dm
     try clear dn
     try clear dp
     try clear dq
     try clear dr
     try clear ds
     try clear dt
     try clear b3
     try clear b4
     try clear b5
     try clear b6
     try clear b7
     try clear b8
     try clear b9
     try clear ca
     try clear cb
     try clear cc
     try clear cd
     try clear ce
     try clear cf
     try clear cg
     try clear ch
     try clear ci
     try clear cj
     try clear ck
     try clear cl
     try clear cm
     try clear cn
     try clear co
     try clear cp
     try clear cq
     try clear cr
     try clear ct
     try clear cu
     try clear cv
     try clear cw
     try clear cx
     try clear cy
     try clear cz
     try clear cA
     try clear cB
     try clear fh
     try clear fi
     try clear fj
     try clear fk
     try clear fl
     try clear fm
     try clear fn
     try clear fo
     try clear fp
     try clear fq
     try clear fr
     try clear fs
     try clear ft
     try clear fu
     try clear fv
     try clear fw
     try clear fx
     try clear fy
     try clear fz
     try clear fA
     try clear fB
     try clear fC
     try clear fD
     try clear fE
     try clear fF
     try clear fG
     try clear fH
     try clear fI
     try clear fJ
     try clear fK
     try clear fL
     try clear fM
     try clear fN
     try clear fO
     try clear fP
     try clear fQ
     try clear fR
     try clear fS
     try clear fT
     try clear fU
     try clear fV
     try clear fW
     try clear fX
     try clear fY
     try clear fZ
     try clear ga
     try clear gb
     try clear gc
     try clear gd
     try clear ge
     try clear gf
     try clear gg
     try clear gh
     try clear gi
     try clear gj
     try clear gk
     try clear gl
     try clear gm
     try clear gn
     try clear go
     try clear gp
     try clear gq
     try clear gr
     try clear gs
     try clear gt
     try clear gu
     try clear gv
     try clear gw
     try clear gx
     try clear gy
     try clear gz
     try clear gA
     try clear gB
     try clear gC
     try clear gD
     try clear gE
     try clear gF
     try clear gG
     try clear gH
     try clear gI
     try clear gJ
     try clear gK
     try clear gL
     try clear gM
     try clear gN
     try clear gO
     try clear gP
     try clear gQ
     try clear gR
     try clear gS
     try clear gT
     try clear gU
     try clear p2
     try clear q1
     try clear im
     try clear ak
     try clear g3
     obtain ⟨kq, HA, ha, HO_1611002, HO_900007001, a, d, l, HB⟩ := hcut
     cases kq with
     | zero => exact absurd HA.out (by simp [shutterlaw17_KeysLocked.j1])
     | succ bc =>
      have H := HA.out
      clear HA
      simp only [shutterlaw17_KeysLocked.j1] at H
      have gX := Z H
      clear H
      go_upto_region 9 with (fail)
      go_cut [65] (fun iC wc => ∃ (kq : Nat) (bn : Bool), iC = .bool bn ∧ Aside0 (shutterlaw17_KeysLocked.j2 kq bn q s m u i j = some r) ∧ Aside0 (kq ≤ bc) ∧ Aside0 (Kd.V k35 35 wc w.heap.size (fun k_ => k_ ≠ z ∧ k_ ≠ A ∧ k_ ≠ x) (.slice ai y.length ag) y) ∧ Aside0 (wc.heap[z]? = some (.cells #[.int .i64 q, .int .i64 s, (.slice ah m.length aj), .int .i64 u, .bool i, .bool j] 24 (0, 0))) ∧ Aside0 (wc.heap[A]? = some (.cells #[.int .i64 F, .int .u8 R] 58 (0, 0))) ∧ Aside0 (wc.heap[x]? = some (.cells #[.int .i64 K, .int .i64 L, (.slice ai y.length ag), .int .i64 M, .bool Q, .bool O] 24 (0, 0))) ∧ Aside0 (Below w.heap.size w wc))
      case first =>
       have H := gX.out
       clear gX
       by_cases cJ : i = true
       ·subst cJ
        have H1 : (if F = 16 then (shutterlaw17_KeysLocked.j2 bc false q s m u true j) else (if (some ak).isNone = true then (none) else ((shutterref10_Same.f bc K L y M Q O q s m u true j).bind fun bd => (shutterlaw17_KeysLocked.j2 bc (!bd) q s m u true j)))) = some r := by rw [if_pos rfl] at H; exact H
        clear H
        have H := H1
        clear H1
        by_cases bg : F = 16
        ·rw [if_pos bg] at H
         have ba : (F == 16) = true := beq_iff_eq.mpr bg
         have g8 : (F != 16) = false := bne_eq_false_iff_eq.mpr bg
         clear bg
         (first | rw [ba] | (simp only [i64_w, i32_w]; rw [ba]) | skip)
         have H' := Z H
         clear H
         have kK := W.out
         have kY := Y.out
         have kL := X.out
         have kZ := ac.out
         obtain ⟨hc, he, hf, hh, hj, hl, hN, hO, hP, hQ, hR, hS⟩ := cells6 a.out
         have kM := ad.out
         have la := al.out
         obtain ⟨hm, hp, hT, hU⟩ := cells2 d.out
         go_wp2
         go_meet
         case rel => exact ⟨_, (false), (dn_), H', ⟨by have := ha.out; first | omega | exact Nat.le_refl _⟩, ⟨vV HO_1611002.out⟩, ⟨vK a.out⟩, ⟨vK d.out⟩, ⟨vK l.out⟩, ⟨bl_⟩⟩
        ·rw [if_neg bg] at H
         have ba : (F == 16) = false := beq_eq_false_iff_ne.mpr bg
         have g8 : (F != 16) = true := bne_iff_ne.mpr bg
         (first | rw [ba] | (simp only [i64_w, i32_w]; rw [ba]) | skip)
         ·have H1 : ((shutterref10_Same.f bc K L y M Q O q s m u true j).bind fun bd => (shutterlaw17_KeysLocked.j2 bc (!bd) q s m u true j)) = some r := by rw [if_neg (show ¬ (some ak).isNone = true by simp)] at H; exact H
          clear H
          have H := H1
          clear H1
          try simp only [errW_none, errW_some]
          replace H := Option.bind_eq_some_iff.mp H
          obtain ⟨bd, ig, H⟩ := H
          replace H : (shutterlaw17_KeysLocked.j2 bc (!bd) q s m u true j) = some r := H
          have iX := Z ig
          clear ig
          have H' := Z H
          clear H
          have kN := W.out
          have lb := Y.out
          have kO := X.out
          have lc := ac.out
          obtain ⟨hq, hs, ht, hu, hv, hx, hV, hW, hX, hY, hZ, h0⟩ := cells6 a.out
          have kP := ad.out
          have ld := al.out
          obtain ⟨hy, hz, h1, h2⟩ := cells2 d.out
          obtain ⟨hA, hB, hC, hD, hE, hF, h3, h4, h5, h6, h7, h8⟩ := cells6 l.out
          go_wp2_with (first | (go_at_call 24; (with_reducible refine (shutterref10_Same.calls bc K L _ _ y M Q O q s _ _ m u true j bd _ ?side1 ?side2 ?side3 ?side4 iX.out).mono ?_); (case side1 => repeat (first | exact (Kd.V_reads' HO_1611002.out).2.2 | (with_reducible apply pC))); (case side2 => exact (Kd.V_reads' HO_1611002.out).2.1); (case side3 => repeat (first | exact (Kd.C_below aL.out HB.out) | (with_reducible apply pC))); (case side4 => exact aK.out); rintro e mB ⟨rfl, hb⟩; replace HO_1611002 := Z (vb HO_1611002.out hb); replace HO_900007001 := Z (vb HO_900007001.out hb); replace a := Z (kb a.out hb); replace d := Z (kb d.out hb); replace l := Z (kb l.out hb); replace HB := Z (below_step bl_ hb); (try clear hb); (try clear aV); (try clear hk); (try clear hi)))
          go_meet
          case rel => exact ⟨_, (!bd), (dn_), H', ⟨by have := ha.out; first | omega | exact Nat.le_refl _⟩, ⟨vV HO_1611002.out⟩, ⟨vK a.out⟩, ⟨vK d.out⟩, ⟨vK l.out⟩, ⟨bl_⟩⟩
       ·replace cJ := Bool.eq_false_iff.mpr cJ
        subst cJ
        have H1 : (shutterlaw17_KeysLocked.j2 bc false q s m u false j) = some r := by rw [if_neg (show ¬ (false = true) by decide)] at H; exact H
        clear H
        have H := H1
        clear H1
        have H' := Z H
        clear H
        have kQ := W.out
        have le := Y.out
        have kR := X.out
        have lf := ac.out
        obtain ⟨hH, hI, hJ, hK, hL, hM, h9, ia, ib, ic, id, ie⟩ := cells6 a.out
        go_wp2
        go_meet
        case rel => exact ⟨_, (false), (dn_), H', ⟨by have := ha.out; first | omega | exact Nat.le_refl _⟩, ⟨vV HO_1611002.out⟩, ⟨vK a.out⟩, ⟨vK d.out⟩, ⟨vK l.out⟩, ⟨bl_⟩⟩
      case rest =>
       clear gX
       try clear c1
       try clear q1
       try clear c2
       try clear p2
       try clear c3
       try clear c4
       try clear c5
       try clear c6
       try clear c7
       try clear c8
       try clear c9
       try clear c10
       try clear mK
       try clear iO
       try clear iP
       try clear im
       try clear iQ
       try clear iR
       try clear c24
       try clear cC
       try clear bp
       try clear g2
       try clear iS
       try clear iT
       try clear iU
       try clear iV
       try clear iW
       try clear dD
       try clear dE
       try clear dF
       try clear dG
       try clear ko
       try clear kp
       try clear kr
       try clear ks
       try clear kt
       try clear ku
       try clear kv
       try clear kw
       try clear kx
       try clear dH
       try clear dI
       try clear dJ
       try clear dK
       try clear ky
       try clear kz
       try clear kA
       try clear kB
       try clear kC
       try clear kD
       try clear kE
       try clear kF
       try clear kG
       try clear kH
       try clear kI
       try clear kJ
       try clear cJ
       try clear bg
       try clear ba
       try clear g8
       try clear mn
       try clear mo
       try clear mq
       try clear mr
       try clear ms
       try clear mt
       try clear mu
       try clear mv
       try clear cK
       try clear cL
       try clear cM
       try clear cN
       try clear cO
       try clear cP
       try clear cQ
       try clear cR
       try clear cS
       try clear cT
       try clear cU
       try clear cV
       try clear cW
       try clear cX
       try clear cY
       try clear cZ
       try clear c0
       try clear da
       try clear hc
       try clear he
       try clear hf
       try clear hh
       try clear hj
       try clear hl
       try clear hm
       try clear hp
       try clear hq
       try clear hs
       try clear ht
       try clear hu
       try clear hv
       try clear hx
       try clear hy
       try clear hz
       try clear hA
       try clear hB
       try clear hC
       try clear hD
       try clear hE
       try clear hF
       try clear hH
       try clear hI
       try clear hJ
       try clear hK
       try clear hL
       try clear hM
       try clear bu
       try clear bv
       try clear bw
       try clear bx
       try clear bz
       try clear bA
       try clear bB
       try clear bC
       try clear bD
       try clear bE
       try clear bF
       try clear bG
       try clear bH
       try clear bI
       try clear bJ
       try clear bK
       try clear bL
       try clear bM
       try clear bN
       try clear bO
       try clear bP
       try clear bQ
       try clear bR
       try clear bS
       try clear bT
       try clear bU
       try clear bV
       try clear bW
       try clear bX
       try clear bY
       try clear bZ
       try clear b0
       try clear b1
       try clear b2
       try clear dL
       try clear dM
       try clear dN
       try clear dO
       try clear dP
       try clear dQ
       try clear dR
       try clear dS
       try clear dT
       try clear dU
       try clear dV
       try clear dW
       try clear dX
       try clear dY
       try clear dZ
       try clear d0
       try clear d1
       try clear d2
       try clear d3
       try clear d4
       try clear d5
       try clear d6
       try clear d7
       try clear d8
       try clear d9
       try clear ea
       try clear eb
       try clear ec
       try clear ed
       try clear ee
       try clear ef
       try clear eg
       try clear eh
       try clear ei
       try clear ej
       try clear ek
       try clear el
       try clear em
       try clear en
       try clear eo
       try clear ep
       try clear eq
       try clear er
       try clear es
       try clear et
       try clear eu
       try clear ev
       try clear ew
       try clear ex
       try clear ey
       try clear eA
       try clear eB
       try clear eC
       try clear eD
       try clear eE
       try clear eF
       try clear eG
       try clear eH
       try clear eI
       try clear eJ
       try clear eK
       try clear eL
       try clear eM
       try clear eN
       try clear eO
       try clear eP
       try clear eQ
       try clear eR
       try clear eS
       try clear eT
       try clear eU
       try clear eV
       try clear eW
       try clear eX
       try clear eY
       try clear eZ
       try clear e0
       try clear e1
       try clear e2
       try clear e3
       try clear e4
       try clear e5
       try clear e6
       try clear e7
       try clear e8
       try clear e9
       try clear fa
       try clear fc
       try clear fd
       try clear fe
       try clear ff
       try clear fg
       try clear db
       try clear dc
       try clear dd
       try clear de
       try clear df
       try clear dg
       try clear dh
       try clear di
       try clear dj
       try clear dk
       try clear dl
       try clear dm
       try clear dn
       try clear dp
       try clear dq
       try clear dr
       try clear ds
       try clear dt
       try clear hN
       try clear hO
       try clear hP
       try clear hQ
       try clear hR
       try clear hS
       try clear hT
       try clear hU
       try clear hV
       try clear hW
       try clear hX
       try clear hY
       try clear hZ
       try clear h0
       try clear h1
       try clear h2
       try clear h3
       try clear h4
       try clear h5
       try clear h6
       try clear h7
       try clear h8
       try clear h9
       try clear ia
       try clear ib
       try clear ic
       try clear id
       try clear ie
       try clear b3
       try clear b4
       try clear b5
       try clear b6
       try clear b7
       try clear b8
       try clear b9
       try clear ca
       try clear cb
       try clear cc
       try clear cd
       try clear ce
       try clear cf
       try clear cg
       try clear ch
       try clear ci
       try clear cj
       try clear ck
       try clear cl
       try clear cm
       try clear cn
       try clear co
       try clear cp
       try clear cq
       try clear cr
       try clear ct
       try clear cu
       try clear cv
       try clear cw
       try clear cx
       try clear cy
       try clear cz
       try clear cA
       try clear cB
       try clear fh
       try clear fi
       try clear fj
       try clear fk
       try clear fl
       try clear fm
       try clear fn
       try clear fo
       try clear fp
       try clear fq
       try clear fr
       try clear fs
       try clear ft
       try clear fu
       try clear fv
       try clear fw
       try clear fx
       try clear fy
       try clear fz
       try clear fA
       try clear fB
       try clear fC
       try clear fD
       try clear fE
       try clear fF
       try clear fG
       try clear fH
       try clear fI
       try clear fJ
       try clear fK
       try clear fL
       try clear fM
       try clear fN
       try clear fO
       try clear fP
       try clear fQ
       try clear fR
       try clear fS
       try clear fT
       try clear fU
       try clear fV
       try clear fW
       try clear fX
       try clear fY
       try clear fZ
       try clear ga
       try clear gb
       try clear gc
       try clear gd
       try clear ge
       try clear gf
       try clear gg
       try clear gh
       try clear gi
       try clear gj
       try clear gk
       try clear gl
       try clear gm
       try clear gn
       try clear go
       try clear gp
       try clear gq
       try clear gr
       try clear gs
       try clear gt
       try clear gu
       try clear gv
       try clear gw
       try clear gx
       try clear gy
       try clear gz
       try clear gA
       try clear gB
       try clear gC
       try clear gD
       try clear gE
       try clear gF
       try clear gG
       try clear gH
       try clear gI
       try clear gJ
       try clear gK
       try clear gL
       try clear gM
       try clear gN
       try clear gO
       try clear gP
       try clear gQ
       try clear gR
       try clear gS
       try clear gT
       try clear gU
       try clear p2
       try clear q1
       try clear im
       try clear ak
       try clear g3
       try clear io
       obtain ⟨kq, bn, rfl, HA, lq, HO_1611002, a, d, l, HB⟩ := hcut
       cases kq with
       | zero => exact absurd HA.out (by simp [shutterlaw17_KeysLocked.j2])
       | succ aU =>
        have H := HA.out
        clear HA
        simp only [shutterlaw17_KeysLocked.j2] at H
        by_cases gY : bn = true
        ·subst gY
         have H1 : (none) = some r := by rw [if_pos rfl] at H; exact H
         clear H
         have H := H1
         clear H1
         exact absurd H (by simp)
        ·replace gY := Bool.eq_false_iff.mpr gY
         subst gY
         have H1 : ((keys_Do.f aU q s m u i j 16 0).bind fun aR => (if aR.2.2.2.2.2.2.2.1.isNone = true then (if aR.2.2.2.2.2.2.1 = true then (none) else (if aR.2.2.2.2.1 = true then (none) else (if aR.2.2.2.2.2.1 = true then (none) else ((shutterref10_Same.f aU aR.1 aR.2.1 aR.2.2.1 aR.2.2.2.1 i j q s m u i j).bind fun ay => (some ay))))) else (none))) = some r := by rw [if_neg (show ¬ (false = true) by decide)] at H; exact H
         clear H
         have H := H1
         clear H1
         replace H := Option.bind_eq_some_iff.mp H
         obtain ⟨⟨aF, aG, au, aH, cH, bt, g5, ir, it⟩, ih, H⟩ := H
         replace H : (if ir.isNone = true then (if g5 = true then (none) else (if cH = true then (none) else (if bt = true then (none) else ((shutterref10_Same.f aU aF aG au aH i j q s m u i j).bind fun ay => (some ay))))) else (none)) = some r := H
         have iY := Z ih
         clear ih
         rcases ir with _ | iG
         ·have H1 : (if g5 = true then (none) else (if cH = true then (none) else (if bt = true then (none) else ((shutterref10_Same.f aU aF aG au aH i j q s m u i j).bind fun ay => (some ay))))) = some r := by rw [if_pos (show (none : Option Er).isNone = true by rfl)] at H; exact H
          clear H
          have H := H1
          clear H1
          try simp only [errW_none, errW_some]
          by_cases gZ : g5 = true
          ·subst gZ
           have H1 : (none) = some r := by rw [if_pos rfl] at H; exact H
           clear H
           have H := H1
           clear H1
           exact absurd H (by simp)
          ·replace gZ := Bool.eq_false_iff.mpr gZ
           subst gZ
           have H1 : (if cH = true then (none) else (if bt = true then (none) else ((shutterref10_Same.f aU aF aG au aH i j q s m u i j).bind fun ay => (some ay)))) = some r := by rw [if_neg (show ¬ (false = true) by decide)] at H; exact H
           clear H
           have H := H1
           clear H1
           by_cases g0 : cH = true
           ·subst g0
            have H1 : (none) = some r := by rw [if_pos rfl] at H; exact H
            clear H
            have H := H1
            clear H1
            exact absurd H (by simp)
           ·replace g0 := Bool.eq_false_iff.mpr g0
            subst g0
            have H1 : (if bt = true then (none) else ((shutterref10_Same.f aU aF aG au aH i j q s m u i j).bind fun ay => (some ay))) = some r := by rw [if_neg (show ¬ (false = true) by decide)] at H; exact H
            clear H
            have H := H1
            clear H1
            by_cases g1 : bt = true
            ·subst g1
             have H1 : (none) = some r := by rw [if_pos rfl] at H; exact H
             clear H
             have H := H1
             clear H1
             exact absurd H (by simp)
            ·replace g1 := Bool.eq_false_iff.mpr g1
             subst g1
             have H1 : ((shutterref10_Same.f aU aF aG au aH i j q s m u i j).bind fun ay => (some ay)) = some r := by rw [if_neg (show ¬ (false = true) by decide)] at H; exact H
             clear H
             have H := H1
             clear H1
             replace H := Option.bind_eq_some_iff.mp H
             obtain ⟨ay, ii, H⟩ := H
             replace H : (some ay) = some r := H
             have iZ := Z ii
             clear ii
             obtain rfl := Option.some.inj H
             have kS := W.out
             have lg := Y.out
             have kT := X.out
             have lh := ac.out
             obtain ⟨je, jf, jg, jh, ji, jj, jI, jJ, jK, jL, jM, jN⟩ := cells6 a.out
             go_wp2_with (first | ((with_reducible refine gate_callee (f := 42) rfl ?_); refine goesL_ (some 69) rfl rfl Tryd.func42 (by kernel_rfl) rfl #[.agg #[.int .i64 q, .int .i64 s, .slice ah m.length aj, .int .i64 u, .bool i, .bool j], .agg #[.int .i64 16, .int .u8 0]] rfl ag_ ?_; (with_reducible refine (keys_Do.calls aU q s (fun k_ => k_ < w.heap.size) _ _ m u i j 16 0 aF aG au aH false false false none it _ ?side1 iY.out).mono ?_); (case side1 => exact Kd.V_mk aK.out (Kd.F_below (Kd.C_F k35_heap aL.out) bl_)); rintro e mC ⟨mm, iJ, rfl, bj, bk, hb⟩; refine ⟨_, rfl, ?_⟩; replace HO_1611002 := Z (vb HO_1611002.out hb); have aw := Z (Kd.V_lower (Kd.V_mono (ok' := fun k_ => k_ ≠ z ∧ k_ ≠ A ∧ k_ ≠ x) bj (fun k_ hk_ => ⟨Or.elim hk_ (fun hs_ => fun e_ => Nat.not_le.2 hs_ (by rw [e_]; exact aI.out)) (fun hn_ => (fb a.out k_ hn_)), Or.elim hk_ (fun hs_ => fun e_ => Nat.not_le.2 hs_ (by rw [e_]; exact aJ.out)) (fun hn_ => (fb d.out k_ hn_)), Or.elim hk_ (fun hs_ => fun e_ => Nat.not_le.2 hs_ (by rw [e_]; exact bf.out)) (fun hn_ => (fb l.out k_ hn_))⟩)) (below_size bl_)); have aN := Z (Kd.V_lower (Kd.V_mono (ok' := fun k_ => k_ ≠ z ∧ k_ ≠ A ∧ k_ ≠ x) bk (fun k_ hk_ => ⟨Or.elim hk_ (fun hs_ => fun e_ => Nat.not_le.2 hs_ (by rw [e_]; exact aI.out)) (fun hn_ => (fb a.out k_ hn_)), Or.elim hk_ (fun hs_ => fun e_ => Nat.not_le.2 hs_ (by rw [e_]; exact aJ.out)) (fun hn_ => (fb d.out k_ hn_)), Or.elim hk_ (fun hs_ => fun e_ => Nat.not_le.2 hs_ (by rw [e_]; exact bf.out)) (fun hn_ => (fb l.out k_ hn_))⟩)) (below_size bl_)); replace a := Z (kb a.out hb); replace d := Z (kb d.out hb); replace l := Z (kb l.out hb); replace HB := Z (below_step bl_ hb); (try clear hb); (try clear aV); (try clear hk); (try clear hi); (try clear bj); (try clear bk); (try simp only [errW_none, errW_some])) | ((with_reducible refine gate_dst (N := 9) rfl ?_); refine bx_ 9 24 #[.int .i64 0, .int .i64 0, .slice none 0 0, .int .i64 0, .bool false, .bool false] ?_; intro ab hg kg hbox hb; replace HO_1611002 := Z (ve HO_1611002.out hg hb); replace aw := Z (ve aw.out hg hb); replace aN := Z (ve aN.out hg hb); have aP := Z (hbox); have kn := Z (ln_ hg : w.heap.size ≤ ab); have kl := Z (ln_ hg : w.heap.size ≤ ab); replace HB := Z (below_step bl_ hb); have a2 := Z (nl a.out hg); have dA := Z (ng a.out hg); replace a := Z (kb a.out hb); have a4 := Z (nl d.out hg); have dB := Z (ng d.out hg); replace d := Z (kb d.out hb); have a6 := Z (nl l.out hg); have dC := Z (ng l.out hg); replace l := Z (kb l.out hb); clear hb hbox hg; have kU := dA.out; have li := a2.out; have kV := dB.out; have lj := a4.out; have kW := dC.out; have lk := a6.out; obtain ⟨jk, jl, jm, jn, jo, jp, jO, jP, jQ, jR, jS, jT⟩ := cells6 aP.out; obtain ⟨bb, aZ, iE⟩ := Kd.V_slice aw.out; subst iE) | ((with_reducible refine gate_store (t := 24) (p := 9) rfl ?_); refine sx_ 24 9 ((((((kg.setCell ⟨ab, 0, none⟩ (.int .i64 aF)).setCell ⟨ab, 1, none⟩ (.int .i64 aG)).setCell ⟨ab, 2, none⟩ (.slice bb au.length aZ)).setCell ⟨ab, 3, none⟩ (.int .i64 aH)).setCell ⟨ab, 4, none⟩ (.bool false)).setCell ⟨ab, 5, none⟩ (.bool false)) ?_; intro bl hw; replace HO_1611002 : Aside0 (Kd.V k35 35 bl w.heap.size (fun k_ => k_ ≠ z ∧ k_ ≠ A ∧ k_ ≠ x ∧ k_ ≠ ab) (.slice ai y.length ag) y) := ⟨(by rw [hw]; exact (by (with_reducible repeat apply pV); exact V_off HO_1611002.out (fun k_ hk => hk.2) off2_ (fun _ hk => ⟨hk.1.1, ⟨hk.1.2.1, ⟨hk.1.2.2, hk.2⟩⟩⟩)))⟩; replace aw : Aside0 (Kd.V k35 35 bl w.heap.size (fun k_ => k_ ≠ z ∧ k_ ≠ A ∧ k_ ≠ x ∧ k_ ≠ ab) (.slice bb au.length aZ) au) := ⟨(by rw [hw]; exact (by (with_reducible repeat apply pV); exact V_off aw.out (fun k_ hk => hk.2) off2_ (fun _ hk => ⟨hk.1.1, ⟨hk.1.2.1, ⟨hk.1.2.2, hk.2⟩⟩⟩)))⟩; replace aN : Aside0 (Kd.V k164 164 bl w.heap.size (fun k_ => k_ ≠ z ∧ k_ ≠ A ∧ k_ ≠ x ∧ k_ ≠ ab) iJ it) := ⟨(by rw [hw]; exact (by (with_reducible repeat apply pV); exact V_off aN.out (fun k_ hk => hk.2) off2_ (fun _ hk => ⟨hk.1.1, ⟨hk.1.2.1, ⟨hk.1.2.2, hk.2⟩⟩⟩)))⟩; replace a : Aside0 (bl.heap[z]? = some (.cells #[.int .i64 q, .int .i64 s, .slice ah m.length aj, .int .i64 u, .bool i, .bool j] 24 (0, 0))) := ⟨(by rw [hw]; exact (by (with_reducible repeat apply pK); exact blk_off a.out a2.out off2_))⟩; replace d : Aside0 (bl.heap[A]? = some (.cells #[.int .i64 F, .int .u8 R] 58 (0, 0))) := ⟨(by rw [hw]; exact (by (with_reducible repeat apply pK); exact blk_off d.out a4.out off2_))⟩; replace l : Aside0 (bl.heap[x]? = some (.cells #[.int .i64 K, .int .i64 L, .slice ai y.length ag, .int .i64 M, .bool Q, .bool O] 24 (0, 0))) := ⟨(by rw [hw]; exact (by (with_reducible repeat apply pK); exact blk_off l.out a6.out off2_))⟩; replace aP : Aside0 (bl.heap[ab]? = some (.cells #[.int .i64 aF, .int .i64 aG, .slice bb au.length aZ, .int .i64 aH, .bool false, .bool false] 24 (0, 0))) := ⟨by rw [hw]; exact (put6 aP.out)⟩; replace HB : Aside0 (Below w.heap.size w bl) := ⟨by rw [hw]; exact bl_⟩; clear hw; obtain ⟨jq, jr, js, jt, ju, jv, jU, jV, jW, jX, jY, jZ⟩ := cells6 aP.out; obtain ⟨jw, jx, jy, jz, jA, jB, j3, j4, j5, j6, j7, j8⟩ := cells6 a.out) | ((with_reducible refine gate_callee (f := 24) rfl ?_); refine goesL_ (some 94) rfl rfl Tryd.func24 (by kernel_rfl) rfl #[.agg #[.int .i64 aF, .int .i64 aG, .slice bb au.length aZ, .int .i64 aH, .bool i, .bool j], .agg #[.int .i64 q, .int .i64 s, .slice ah m.length aj, .int .i64 u, .bool i, .bool j]] rfl ag_ ?_; (with_reducible refine (shutterref10_Same.calls aU aF aG _ _ au aH i j q s _ _ m u i j ay _ ?side1 ?side2 ?side3 ?side4 iZ.out).mono ?_); (case side1 => refine (Kd.V_reads' (e := 35) (base := w.heap.size) (ok := fun k_ => (k_ ≠ z ∧ (k_ ≠ A ∧ (k_ ≠ x ∧ k_ ≠ ab)))) (n := au.length) (c := aZ) ?_).2.2; exact (by (with_reducible repeat apply pV); exact (Kd.V_mono (Kd.V_far (p := ⟨ab, 5, none⟩) (Kd.V_far (p := ⟨ab, 4, none⟩) (Kd.V_mono aw.out (fun k_ hk => (⟨hk, hk.2.2.2⟩ : _ ∧ k_ ≠ ab))) (fun _ hk => hk.2) (.bool i)) (fun _ hk => hk.2) (.bool j)) (fun _ h_ => h_.1)))); (case side2 => exact (Kd.V_reads' aw.out).2.1); (case side3 => exact Kd.C_below aL.out bl_); (case side4 => exact aK.out); rintro e mD ⟨rfl, hb⟩; refine ⟨_, rfl, ?_⟩; replace HO_1611002 := Z (Kd.V_below (by (with_reducible repeat apply pV); exact (Kd.V_mono (Kd.V_far (p := ⟨ab, 5, none⟩) (Kd.V_far (p := ⟨ab, 4, none⟩) (Kd.V_mono HO_1611002.out (fun k_ hk => (⟨hk, hk.2.2.2⟩ : _ ∧ k_ ≠ ab))) (fun _ hk => hk.2) (.bool i)) (fun _ hk => hk.2) (.bool j)) (fun _ h_ => h_.1))) hb); replace aw := Z (Kd.V_below (by (with_reducible repeat apply pV); exact (Kd.V_mono (Kd.V_far (p := ⟨ab, 5, none⟩) (Kd.V_far (p := ⟨ab, 4, none⟩) (Kd.V_mono aw.out (fun k_ hk => (⟨hk, hk.2.2.2⟩ : _ ∧ k_ ≠ ab))) (fun _ hk => hk.2) (.bool i)) (fun _ hk => hk.2) (.bool j)) (fun _ h_ => h_.1))) hb); replace aN := Z (Kd.V_below (by (with_reducible repeat apply pV); exact (Kd.V_mono (Kd.V_far (p := ⟨ab, 5, none⟩) (Kd.V_far (p := ⟨ab, 4, none⟩) (Kd.V_mono aN.out (fun k_ hk => (⟨hk, hk.2.2.2⟩ : _ ∧ k_ ≠ ab))) (fun _ hk => hk.2) (.bool i)) (fun _ hk => hk.2) (.bool j)) (fun _ h_ => h_.1))) hb); replace a := Z (blk_below (g := z) (o := .cells #[.int .i64 q, .int .i64 s, .slice ah m.length aj, .int .i64 u, .bool i, .bool j] 24 (0, 0)) (by (with_reducible repeat apply pK); exact blk_off a.out a2.out off2_) hb); replace d := Z (blk_below (g := A) (o := .cells #[.int .i64 F, .int .u8 R] 58 (0, 0)) (by (with_reducible repeat apply pK); exact blk_off d.out a4.out off2_) hb); replace l := Z (blk_below (g := x) (o := .cells #[.int .i64 K, .int .i64 L, .slice ai y.length ag, .int .i64 M, .bool Q, .bool O] 24 (0, 0)) (by (with_reducible repeat apply pK); exact blk_off l.out a6.out off2_) hb); replace aP := Z (blk_below (g := ab) (o := .cells #[.int .i64 aF, .int .i64 aG, .slice bb au.length aZ, .int .i64 aH, .bool i, .bool j] 24 (0, 0)) (by (with_reducible repeat apply pK); refine blk_put (cs := #[.int .i64 aF, .int .i64 aG, .slice bb au.length aZ, .int .i64 aH, .bool i, .bool false]) ?_ 5 _ rfl; (with_reducible repeat apply pK); refine blk_put (cs := #[.int .i64 aF, .int .i64 aG, .slice bb au.length aZ, .int .i64 aH, .bool false, .bool false]) ?_ 4 _ rfl; (with_reducible repeat apply pK); exact aP.out) hb); replace HB := Z (below_step bl_ hb); (try clear hb); (try clear aV); (try clear hk); (try clear hi)))
             go_ret
             exact ⟨er_, bl_⟩
         ·have H1 : (none) = some r := by rw [if_neg (show ¬ (some iG).isNone = true by simp)] at H; exact H
          clear H
          have H := H1
          clear H1
          try simp only [errW_none, errW_some]
          exact absurd H (by simp)
  ·replace c6 := Bool.eq_false_iff.mpr c6
   subst c6
   have H1 : ((shutterlaw17_awake.f k).bind fun aB => (some aB)) = some r := by rw [if_neg (show ¬ (false = true) by decide)] at H; exact H
   clear H
   have H := H1
   clear H1
   replace H := Option.bind_eq_some_iff.mp H
   obtain ⟨aB, ij, H⟩ := H
   replace H : (some aB) = some r := H
   have iu := Z ij
   clear ij
   obtain rfl := Option.some.inj H
   go_enter Tryd.func14, Tryd.ntmps14
   go_wp2_with (first | ((with_reducible refine gate_dst (N := 2) rfl ?_); refine bx_ 2 24 #[.int .i64 q, .int .i64 s, .slice ah m.length aj, .int .i64 u, .bool i, .bool j] ?_; intro z hg mE hbox hb; have a := Z (hbox); have aI := Z (ln_ hg : w.heap.size ≤ z); have g6 := Z (ln_ hg : w.heap.size ≤ z); replace HB := Z (below_step bl_ hb); clear hb hbox hg) | ((with_reducible refine gate_dst (N := 3) rfl ?_); refine bx_ 3 58 #[.int .i64 F, .int .u8 R] ?_; intro A hg mF hbox hb; have d := Z (hbox); have aJ := Z (ln_ hg : w.heap.size ≤ A); have g7 := Z (ln_ hg : w.heap.size ≤ A); replace HB := Z (below_step bl_ hb); have W := Z (nl a.out hg); have Y := Z (ng a.out hg); replace a := Z (kb a.out hb); clear hb hbox hg) | ((with_reducible refine gate_callee (f := 41) rfl ?_); refine goesL_ (some 12) rfl rfl Tryd.func41 (by kernel_rfl) rfl #[] rfl ag_ ?_; (with_reducible refine (shutterlaw17_awake.calls k  true _ ?sideG A3.out).mono ?_); (case sideG => exact laidG_below HG.out bl_ rfl); rintro e mG ⟨rfl, hb⟩; refine ⟨_, rfl, ?_⟩; replace a := Z (kb a.out hb); replace d := Z (kb d.out hb); replace HB := Z (below_step bl_ hb); (try clear hb); (try clear aV); (try clear hk); (try clear hi); have kX := W.out; have ll := Y.out; obtain ⟨jC, jD, jE, jF, jG, jH, j9, ka, kc, kd, ke, kf⟩ := cells6 a.out) | (go_at_call 18; (with_reducible refine (shutterref10_Few.calls k q s _ _ m u i j false _ ?side1 ?side2 A5.out).mono ?_); (case side1 => repeat (first | exact (Kd.C_below aL.out HB.out) | (with_reducible apply pC))); (case side2 => exact aK.out); rintro e mH ⟨rfl, hb⟩; replace a := Z (kb a.out hb); replace d := Z (kb d.out hb); replace HB := Z (below_step bl_ hb); (try clear hb); (try clear aV); (try clear hk); (try clear hi)) | ((with_reducible refine gate_callee (f := 41) rfl ?_); refine goesL_ (some 19) rfl rfl Tryd.func41 (by kernel_rfl) rfl #[] rfl ag_ ?_; (with_reducible refine (shutterlaw17_awake.calls k  aB _ ?sideG iu.out).mono ?_); (case sideG => exact laidG_below HG.out bl_ rfl); rintro e mI ⟨rfl, hb⟩; refine ⟨_, rfl, ?_⟩; replace a := Z (kb a.out hb); replace d := Z (kb d.out hb); replace HB := Z (below_step bl_ hb); (try clear hb); (try clear aV); (try clear hk); (try clear hi)))
   go_ret
   have e_ : aB = true := Option.some.inj (iu.out.symm.trans A3.out)
   exact ⟨er_, bl_⟩
 ·replace c4 := Bool.eq_false_iff.mpr c4
  subst c4
  have H1 : (none) = some r := by rw [if_neg (show ¬ (false = true) by decide)] at H; exact H
  clear H
  have H := H1
  clear H1
  exact absurd H (by simp)

end Go.Proofs.YtggecanpjkpkiaaDoor.P
