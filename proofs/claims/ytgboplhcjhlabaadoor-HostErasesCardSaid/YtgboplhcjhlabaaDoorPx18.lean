/- pp.py and press2.py (wip/tools) wrote this text. -/
import Derived.Test.YtgboplhcjhlabaaDoorPx0
import Derived.Test.YtgboplhcjhlabaaDoorPxS
import Derived.Test.YtgboplhcjhlabaaDoorPx0L
import Derived.Test.YtgboplhcjhlabaaDoorPx4
import Derived.Test.YtgboplhcjhlabaaDoorPx5
import Derived.Test.YtgboplhcjhlabaaDoorPx6
import Derived.Test.YtgboplhcjhlabaaDoorPx16
import Derived.Test.YtgboplhcjhlabaaDoorPx17
import Derived.Test.YtgboplhcjhlabaaDoorPx17L
namespace Go.Proofs.YtgboplhcjhlabaaDoor.P
open Go.RowKit Go.Proofs.YtgboplhcjhlabaaDoorW.PrintWords Go.Proofs.YtgboplhcjhlabaaDoorW.PrintLast Go.Proofs.YtgboplhcjhlabaaDoorW.PrintMore
attribute [local go_sem] max2_int min2_int max_two min_two max_three min_three max_four min_four
attribute [local go_sem] Instr.field asAgg
set_option linter.unusedVariables false
set_option linter.unusedSimpArgs false

/-! ### shutterlaw13_HostErases: function 10 -/
mutual
def shutterlaw13_HostErases.j0 : Nat → Bool → Int → Int → List (S44) → Int → Bool → Bool → Int → Int → List (S44) → Int → Bool → Bool → Int → Bool → Bool → Bool → List (S30) → Option (Bool)
 | 0, _, _, _, _, _, _, _, _, _, _, _, _, _, _, _, _, _, _ => none
 | k + 1, x, c, d, e, g, h, i, o, p, q, r, s, t, b, j, l, m, n => if x = true then ((shutterlaw13_awake.f k).bind fun u => (some u)) else ((host_Do.f k c d e g h i b j l m n).bind fun a => (if a.2.2.2.2.2.2.1.isNone = true then ((shutterref10_Right.f k a.1 a.2.1 a.2.2.1 a.2.2.2.1 a.2.2.2.2.1 a.2.2.2.2.2.1).bind fun v => (if v = true then (if b = 242 then (shutterlaw13_HostErases.j1 k true c d e g h i o p q r s t b j l m n a.1 a.2.1 a.2.2.1 a.2.2.2.1 a.2.2.2.2.1 a.2.2.2.2.2.1) else (shutterlaw13_HostErases.j1 k (b == 246) c d e g h i o p q r s t b j l m n a.1 a.2.1 a.2.2.1 a.2.2.2.1 a.2.2.2.2.1 a.2.2.2.2.2.1)) else (none))) else ((shutterref10_Same.f k a.1 a.2.1 a.2.2.1 a.2.2.2.1 a.2.2.2.2.1 a.2.2.2.2.2.1 c d e g h i).bind fun w => (some w))))
def shutterlaw13_HostErases.j1 : Nat → Bool → Int → Int → List (S44) → Int → Bool → Bool → Int → Int → List (S44) → Int → Bool → Bool → Int → Bool → Bool → Bool → List (S30) → Int → Int → List (S44) → Int → Bool → Bool → Option (Bool)
 | 0, _, _, _, _, _, _, _, _, _, _, _, _, _, _, _, _, _, _, _, _, _, _, _, _ => none
 | k + 1, A, a, b, c, d, e, g, h, i, r, s, t, u, j, v, w, x, y, l, m, n, o, p, q => if A = true then ((shutterref10_Same.f k l m n o p q a b c d e g).bind fun z => (some z)) else (if j = 245 then (if h = a then (shutterlaw13_HostErases.j2 k (i != b) a b c d e g h i r s t u j v w x y l m n o p q) else (shutterlaw13_HostErases.j2 k true a b c d e g h i r s t u j v w x y l m n o p q)) else (shutterlaw13_HostErases.j2 k true a b c d e g h i r s t u j v w x y l m n o p q))
def shutterlaw13_HostErases.j2 : Nat → Bool → Int → Int → List (S44) → Int → Bool → Bool → Int → Int → List (S44) → Int → Bool → Bool → Int → Bool → Bool → Bool → List (S30) → Int → Int → List (S44) → Int → Bool → Bool → Option (Bool)
 | 0, _, _, _, _, _, _, _, _, _, _, _, _, _, _, _, _, _, _, _, _, _, _, _, _ => none
 | k + 1, B, v, w, x, y, b, c, d, e, g, h, z, A, i, j, l, m, n, o, p, q, r, s, t => if B = true then (some true) else ((host_Do.f k d e g h b c i j l m n).bind fun a => (if a.2.2.2.2.2.2.1.isNone = true then ((shutterref10_Same.f k a.1 a.2.1 a.2.2.1 a.2.2.2.1 a.2.2.2.2.1 a.2.2.2.2.2.1 o p q r s t).bind fun u => (some u)) else (none)))
end
def shutterlaw13_HostErases.f (k : Nat) (a : Int) (b : Int) (q : List (S44)) (c : Int) (d : Bool) (e : Bool) (g : Int) (h : Int) (r : List (S44)) (i : Int) (j : Bool) (l : Bool) (m : Int) (n : Bool) (o : Bool) (p : Bool) (s : List (S30)) : Option (Bool) := (shutterlaw13_awake.f k).bind fun t => (if t = true then ((shutterref10_Few.f k a b q c d e).bind fun u => (if u = true then ((shutterref10_Few.f k g h r i j l).bind fun v => (if v = true then ((shutterref08_Few.f k m n o p s).bind fun w => (shutterlaw13_HostErases.j0 k (!w) a b q c d e g h r i j l m n o p s)) else (shutterlaw13_HostErases.j0 k true a b q c d e g h r i j l m n o p s))) else (shutterlaw13_HostErases.j0 k true a b q c d e g h r i j l m n o p s))) else (none))
theorem shutterlaw13_HostErases.mono_l : ∀ k, (∀ j l o u v w x y z A a b c d e f g i, LeO (shutterlaw13_HostErases.j0 k j l o u v w x y z A a b c d e f g i) (shutterlaw13_HostErases.j0 (k + 1) j l o u v w x y z A a b c d e f g i)) ∧ (∀ j l o u v w x y z A a b c d e f g i m n p q s t, LeO (shutterlaw13_HostErases.j1 k j l o u v w x y z A a b c d e f g i m n p q s t) (shutterlaw13_HostErases.j1 (k + 1) j l o u v w x y z A a b c d e f g i m n p q s t)) ∧ (∀ j l o u v w x y z A a b c d e f g i m n p q s t, LeO (shutterlaw13_HostErases.j2 k j l o u v w x y z A a b c d e f g i m n p q s t) (shutterlaw13_HostErases.j2 (k + 1) j l o u v w x y z A a b c d e f g i m n p q s t))
 | 0 => ⟨fun _ _ _ _ _ _ _ _ _ _ _ _ _ _ _ _ _ _ r h => by simp [shutterlaw13_HostErases.j0] at h, fun _ _ _ _ _ _ _ _ _ _ _ _ _ _ _ _ _ _ _ _ _ _ _ _ r h => by simp [shutterlaw13_HostErases.j1] at h, fun _ _ _ _ _ _ _ _ _ _ _ _ _ _ _ _ _ _ _ _ _ _ _ _ r h => by simp [shutterlaw13_HostErases.j2] at h⟩
 | k + 1 => by
  obtain ⟨B, C, D⟩ := shutterlaw13_HostErases.mono_l k
  refine ⟨?_, ?_, ?_⟩
  ·intro j l o u v w x y z A a b c d e f g i
   unfold shutterlaw13_HostErases.j0
   repeat' first
   | (with_reducible exact B _ _ _ _ _ _ _ _ _ _ _ _ _ _ _ _ _ _)
   | (with_reducible exact C _ _ _ _ _ _ _ _ _ _ _ _ _ _ _ _ _ _ _ _ _ _ _ _)
   | (with_reducible exact D _ _ _ _ _ _ _ _ _ _ _ _ _ _ _ _ _ _ _ _ _ _ _ _)
   | (with_reducible exact host_Do.mono _ _ _ _ _ _ _ _ _ _ _ _)
   | (with_reducible exact shutterlaw13_awake.mono _)
   | (with_reducible exact shutterref08_Few.mono _ _ _ _ _ _)
   | (with_reducible exact shutterref10_Few.mono _ _ _ _ _ _ _)
   | (with_reducible exact shutterref10_Right.mono _ _ _ _ _ _ _)
   | (with_reducible exact shutterref10_Same.mono _ _ _ _ _ _ _ _ _ _ _ _ _)
   | (with_reducible exact LeO.refl _)
   | (with_reducible exact LeO.none _)
   | (with_reducible refine LeO.ite ?_ ?_)
   | (with_reducible refine LeO.bind ?_ (fun _ => ?_))
   | exact B _ _ _ _ _ _ _ _ _ _ _ _ _ _ _ _ _ _
   | exact C _ _ _ _ _ _ _ _ _ _ _ _ _ _ _ _ _ _ _ _ _ _ _ _
   | exact D _ _ _ _ _ _ _ _ _ _ _ _ _ _ _ _ _ _ _ _ _ _ _ _
   | exact host_Do.mono _ _ _ _ _ _ _ _ _ _ _ _
   | exact shutterlaw13_awake.mono _
   | exact shutterref08_Few.mono _ _ _ _ _ _
   | exact shutterref10_Few.mono _ _ _ _ _ _ _
   | exact shutterref10_Right.mono _ _ _ _ _ _ _
   | exact shutterref10_Same.mono _ _ _ _ _ _ _ _ _ _ _ _ _
   | exact LeO.none _
   | refine LeO.ite ?_ ?_
   | refine LeO.bind ?_ (fun _ => ?_)
  ·intro j l o u v w x y z A a b c d e f g i m n p q s t
   unfold shutterlaw13_HostErases.j1
   repeat' first
   | (with_reducible exact B _ _ _ _ _ _ _ _ _ _ _ _ _ _ _ _ _ _)
   | (with_reducible exact C _ _ _ _ _ _ _ _ _ _ _ _ _ _ _ _ _ _ _ _ _ _ _ _)
   | (with_reducible exact D _ _ _ _ _ _ _ _ _ _ _ _ _ _ _ _ _ _ _ _ _ _ _ _)
   | (with_reducible exact host_Do.mono _ _ _ _ _ _ _ _ _ _ _ _)
   | (with_reducible exact shutterlaw13_awake.mono _)
   | (with_reducible exact shutterref08_Few.mono _ _ _ _ _ _)
   | (with_reducible exact shutterref10_Few.mono _ _ _ _ _ _ _)
   | (with_reducible exact shutterref10_Right.mono _ _ _ _ _ _ _)
   | (with_reducible exact shutterref10_Same.mono _ _ _ _ _ _ _ _ _ _ _ _ _)
   | (with_reducible exact LeO.refl _)
   | (with_reducible exact LeO.none _)
   | (with_reducible refine LeO.ite ?_ ?_)
   | (with_reducible refine LeO.bind ?_ (fun _ => ?_))
   | exact B _ _ _ _ _ _ _ _ _ _ _ _ _ _ _ _ _ _
   | exact C _ _ _ _ _ _ _ _ _ _ _ _ _ _ _ _ _ _ _ _ _ _ _ _
   | exact D _ _ _ _ _ _ _ _ _ _ _ _ _ _ _ _ _ _ _ _ _ _ _ _
   | exact host_Do.mono _ _ _ _ _ _ _ _ _ _ _ _
   | exact shutterlaw13_awake.mono _
   | exact shutterref08_Few.mono _ _ _ _ _ _
   | exact shutterref10_Few.mono _ _ _ _ _ _ _
   | exact shutterref10_Right.mono _ _ _ _ _ _ _
   | exact shutterref10_Same.mono _ _ _ _ _ _ _ _ _ _ _ _ _
   | exact LeO.none _
   | refine LeO.ite ?_ ?_
   | refine LeO.bind ?_ (fun _ => ?_)
  ·intro j l o u v w x y z A a b c d e f g i m n p q s t
   unfold shutterlaw13_HostErases.j2
   repeat' first
   | (with_reducible exact B _ _ _ _ _ _ _ _ _ _ _ _ _ _ _ _ _ _)
   | (with_reducible exact C _ _ _ _ _ _ _ _ _ _ _ _ _ _ _ _ _ _ _ _ _ _ _ _)
   | (with_reducible exact D _ _ _ _ _ _ _ _ _ _ _ _ _ _ _ _ _ _ _ _ _ _ _ _)
   | (with_reducible exact host_Do.mono _ _ _ _ _ _ _ _ _ _ _ _)
   | (with_reducible exact shutterlaw13_awake.mono _)
   | (with_reducible exact shutterref08_Few.mono _ _ _ _ _ _)
   | (with_reducible exact shutterref10_Few.mono _ _ _ _ _ _ _)
   | (with_reducible exact shutterref10_Right.mono _ _ _ _ _ _ _)
   | (with_reducible exact shutterref10_Same.mono _ _ _ _ _ _ _ _ _ _ _ _ _)
   | (with_reducible exact LeO.refl _)
   | (with_reducible exact LeO.none _)
   | (with_reducible refine LeO.ite ?_ ?_)
   | (with_reducible refine LeO.bind ?_ (fun _ => ?_))
   | exact B _ _ _ _ _ _ _ _ _ _ _ _ _ _ _ _ _ _
   | exact C _ _ _ _ _ _ _ _ _ _ _ _ _ _ _ _ _ _ _ _ _ _ _ _
   | exact D _ _ _ _ _ _ _ _ _ _ _ _ _ _ _ _ _ _ _ _ _ _ _ _
   | exact host_Do.mono _ _ _ _ _ _ _ _ _ _ _ _
   | exact shutterlaw13_awake.mono _
   | exact shutterref08_Few.mono _ _ _ _ _ _
   | exact shutterref10_Few.mono _ _ _ _ _ _ _
   | exact shutterref10_Right.mono _ _ _ _ _ _ _
   | exact shutterref10_Same.mono _ _ _ _ _ _ _ _ _ _ _ _ _
   | exact LeO.none _
   | refine LeO.ite ?_ ?_
   | refine LeO.bind ?_ (fun _ => ?_)
theorem shutterlaw13_HostErases.mono : ∀ a0 a1 m n a4 o p q r s a b c d e g h k, LeO (shutterlaw13_HostErases.f k a0 a1 m n a4 o p q r s a b c d e g h) (shutterlaw13_HostErases.f (k + 1) a0 a1 m n a4 o p q r s a b c d e g h) := by
 intro a0 a1 m n a4 o p q r s a b c d e g h k
 obtain ⟨i, j, l⟩ := shutterlaw13_HostErases.mono_l k
 unfold shutterlaw13_HostErases.f
 repeat' first
   | (with_reducible exact i _ _ _ _ _ _ _ _ _ _ _ _ _ _ _ _ _ _)
   | (with_reducible exact j _ _ _ _ _ _ _ _ _ _ _ _ _ _ _ _ _ _ _ _ _ _ _ _)
   | (with_reducible exact l _ _ _ _ _ _ _ _ _ _ _ _ _ _ _ _ _ _ _ _ _ _ _ _)
   | (with_reducible exact host_Do.mono _ _ _ _ _ _ _ _ _ _ _ _)
   | (with_reducible exact shutterlaw13_awake.mono _)
   | (with_reducible exact shutterref08_Few.mono _ _ _ _ _ _)
   | (with_reducible exact shutterref10_Few.mono _ _ _ _ _ _ _)
   | (with_reducible exact shutterref10_Right.mono _ _ _ _ _ _ _)
   | (with_reducible exact shutterref10_Same.mono _ _ _ _ _ _ _ _ _ _ _ _ _)
   | (with_reducible exact LeO.refl _)
   | (with_reducible exact LeO.none _)
   | (with_reducible refine LeO.ite ?_ ?_)
   | (with_reducible refine LeO.bind ?_ (fun _ => ?_))
   | exact i _ _ _ _ _ _ _ _ _ _ _ _ _ _ _ _ _ _
   | exact j _ _ _ _ _ _ _ _ _ _ _ _ _ _ _ _ _ _ _ _ _ _ _ _
   | exact l _ _ _ _ _ _ _ _ _ _ _ _ _ _ _ _ _ _ _ _ _ _ _ _
   | exact host_Do.mono _ _ _ _ _ _ _ _ _ _ _ _
   | exact shutterlaw13_awake.mono _
   | exact shutterref08_Few.mono _ _ _ _ _ _
   | exact shutterref10_Few.mono _ _ _ _ _ _ _
   | exact shutterref10_Right.mono _ _ _ _ _ _ _
   | exact shutterref10_Same.mono _ _ _ _ _ _ _ _ _ _ _ _ _
   | exact LeO.none _
   | refine LeO.ite ?_ ?_
   | refine LeO.bind ?_ (fun _ => ?_)
set_option maxHeartbeats 8000000 in
set_option maxRecDepth 100000 in
theorem shutterlaw13_HostErases.calls (k : Nat) (m : Int) (u : Int) (az : Option Addr) (aB : Nat) (s : List (S44)) (x : Int) (l : Bool) (q : Bool) (z : Int) (F : Int) (aC : Option Addr) (aE : Nat) (E : List (S44)) (G : Int) (P : Bool) (M : Bool) (i : Int) (A : Bool) (B : Bool) (D : Bool) (aD : Option Addr) (aF : Nat) (y : List (S30)) (r : Bool) (w : World) (eo : Kd.C k44 w az s.length s) (el : s.length ≤ aB) (ep : Kd.C k44 w aC E.length E) (em : E.length ≤ aE) (eq : Kd.C k30 w aD y.length y) (en : y.length ≤ aF) (hG : LaidG w) (h : shutterlaw13_HostErases.f k m u s x l q z F E G P M i A B D y = some r) :
  Calls Tryd.prog 10 #[.agg #[.int .i64 m, .int .i64 u, .slice az s.length aB, .int .i64 x, .bool l, .bool q], .agg #[.int .i64 z, .int .i64 F, .slice aC E.length aE, .int .i64 G, .bool P, .bool M], .agg #[.int .i64 i, .bool A, .bool B, .bool D, .slice aD y.length aF]] w fun e w' => e = .returned (.bool r) ∧ Below w.heap.size w w' := by
 have HG := Z hG
 clear hG
 have lU := Tryd.underlying24
 have lW := Tryd.underlying60
 have lV := Tryd.underlying34
 have lX := Tryd.underlying75
 have aS := Z eo
 have aR := Z el
 clear eo el
 have dP := Z ep
 have dO := Z em
 clear ep em
 have cF := Z eq
 have cE := Z en
 clear eq en
 have HB := Z (Below.refl w.heap.size w)
 have H : ((shutterlaw13_awake.f k).bind fun dT => (if dT = true then ((shutterref10_Few.f k m u s x l q).bind fun a2 => (if a2 = true then ((shutterref10_Few.f k z F E G P M).bind fun aH => (if aH = true then ((shutterref08_Few.f k i A B D y).bind fun ax => (shutterlaw13_HostErases.j0 k (!ax) m u s x l q z F E G P M i A B D y)) else (shutterlaw13_HostErases.j0 k true m u s x l q z F E G P M i A B D y))) else (shutterlaw13_HostErases.j0 k true m u s x l q z F E G P M i A B D y))) else (none))) = some r := h
 clear h
 have ge := Z H
 clear H
 go_enter Tryd.func10, Tryd.ntmps10
 go_upto_region 1 with (first | ((with_reducible refine gate_dst (N := 3) rfl ?_); refine bx_ 3 24 #[.int .i64 m, .int .i64 u, .slice az s.length aB, .int .i64 x, .bool l, .bool q] ?_; intro ad hg w5 hbox hb; have a := Z (hbox); have a7 := Z (ln_ hg : w.heap.size ≤ ad); have km := Z (ln_ hg : w.heap.size ≤ ad); replace HB := Z (below_step bl_ hb); clear hb hbox hg) | ((with_reducible refine gate_dst (N := 4) rfl ?_); refine bx_ 4 24 #[.int .i64 z, .int .i64 F, .slice aC E.length aE, .int .i64 G, .bool P, .bool M] ?_; intro Y hg w6 hbox hb; have b := Z (hbox); have a8 := Z (ln_ hg : w.heap.size ≤ Y); have kn := Z (ln_ hg : w.heap.size ≤ Y); replace HB := Z (below_step bl_ hb); have ak := Z (nl a.out hg); have ao := Z (ng a.out hg); replace a := Z (kb a.out hb); clear hb hbox hg) | ((with_reducible refine gate_dst (N := 5) rfl ?_); refine bx_ 5 60 #[.int .i64 i, .bool A, .bool B, .bool D, .slice aD y.length aF] ?_; intro ae hg w7 hbox hb; have d := Z (hbox); have a9 := Z (ln_ hg : w.heap.size ≤ ae); have ko := Z (ln_ hg : w.heap.size ≤ ae); replace HB := Z (below_step bl_ hb); have af := Z (nl a.out hg); have ag := Z (ng a.out hg); replace a := Z (kb a.out hb); have al := Z (nl b.out hg); have ah := Z (ng b.out hg); replace b := Z (kb b.out hb); clear hb hbox hg))
 (try simp only [Act.put, sA, sB, sC])
 go_cut [27] (fun kj wc => ∃ (kq : Nat) (cG : Bool), kj = .bool cG ∧ Aside0 (shutterlaw13_HostErases.j0 kq cG m u s x l q z F E G P M i A B D y = some r) ∧ Aside0 (kq ≤ k) ∧ Aside0 (wc.heap[ad]? = some (.cells #[.int .i64 m, .int .i64 u, (.slice az s.length aB), .int .i64 x, .bool l, .bool q] 24 (0, 0))) ∧ Aside0 (wc.heap[Y]? = some (.cells #[.int .i64 z, .int .i64 F, (.slice aC E.length aE), .int .i64 G, .bool P, .bool M] 24 (0, 0))) ∧ Aside0 (wc.heap[ae]? = some (.cells #[.int .i64 i, .bool A, .bool B, .bool D, (.slice aD y.length aF)] 60 (0, 0))) ∧ Aside0 (Below w.heap.size w wc))
 case first =>
  have H := ge.out
  clear ge
  replace H := Option.bind_eq_some_iff.mp H
  obtain ⟨dT, gr, H⟩ := H
  replace H : (if dT = true then ((shutterref10_Few.f k m u s x l q).bind fun a2 => (if a2 = true then ((shutterref10_Few.f k z F E G P M).bind fun aH => (if aH = true then ((shutterref08_Few.f k i A B D y).bind fun ax => (shutterlaw13_HostErases.j0 k (!ax) m u s x l q z F E G P M i A B D y)) else (shutterlaw13_HostErases.j0 k true m u s x l q z F E G P M i A B D y))) else (shutterlaw13_HostErases.j0 k true m u s x l q z F E G P M i A B D y))) else (none)) = some r := H
  have A8 := Z gr
  clear gr
  by_cases c9 : dT = true
  ·subst c9
   have H1 : ((shutterref10_Few.f k m u s x l q).bind fun a2 => (if a2 = true then ((shutterref10_Few.f k z F E G P M).bind fun aH => (if aH = true then ((shutterref08_Few.f k i A B D y).bind fun ax => (shutterlaw13_HostErases.j0 k (!ax) m u s x l q z F E G P M i A B D y)) else (shutterlaw13_HostErases.j0 k true m u s x l q z F E G P M i A B D y))) else (shutterlaw13_HostErases.j0 k true m u s x l q z F E G P M i A B D y))) = some r := by rw [if_pos rfl] at H; exact H
   clear H
   have H := H1
   clear H1
   replace H := Option.bind_eq_some_iff.mp H
   obtain ⟨a2, fX, H⟩ := H
   replace H : (if a2 = true then ((shutterref10_Few.f k z F E G P M).bind fun aH => (if aH = true then ((shutterref08_Few.f k i A B D y).bind fun ax => (shutterlaw13_HostErases.j0 k (!ax) m u s x l q z F E G P M i A B D y)) else (shutterlaw13_HostErases.j0 k true m u s x l q z F E G P M i A B D y))) else (shutterlaw13_HostErases.j0 k true m u s x l q z F E G P M i A B D y)) = some r := H
   have fW := Z fX
   clear fX
   by_cases cH : a2 = true
   ·subst cH
    have H1 : ((shutterref10_Few.f k z F E G P M).bind fun aH => (if aH = true then ((shutterref08_Few.f k i A B D y).bind fun ax => (shutterlaw13_HostErases.j0 k (!ax) m u s x l q z F E G P M i A B D y)) else (shutterlaw13_HostErases.j0 k true m u s x l q z F E G P M i A B D y))) = some r := by rw [if_pos rfl] at H; exact H
    clear H
    have H := H1
    clear H1
    replace H := Option.bind_eq_some_iff.mp H
    obtain ⟨aH, fY, H⟩ := H
    replace H : (if aH = true then ((shutterref08_Few.f k i A B D y).bind fun ax => (shutterlaw13_HostErases.j0 k (!ax) m u s x l q z F E G P M i A B D y)) else (shutterlaw13_HostErases.j0 k true m u s x l q z F E G P M i A B D y)) = some r := H
    have gp := Z fY
    clear fY
    by_cases cI : aH = true
    ·subst cI
     have H1 : ((shutterref08_Few.f k i A B D y).bind fun ax => (shutterlaw13_HostErases.j0 k (!ax) m u s x l q z F E G P M i A B D y)) = some r := by rw [if_pos rfl] at H; exact H
     clear H
     have H := H1
     clear H1
     replace H := Option.bind_eq_some_iff.mp H
     obtain ⟨ax, fZ, H⟩ := H
     replace H : (shutterlaw13_HostErases.j0 k (!ax) m u s x l q z F E G P M i A B D y) = some r := H
     have jo := Z fZ
     clear fZ
     have H' := Z H
     clear H
     go_wp2_with (first | ((with_reducible refine gate_callee (f := 28) rfl ?_); refine goesL_ (some 11) rfl rfl Tryd.func28 (by kernel_rfl) rfl #[] rfl ag_ ?_; (with_reducible refine (shutterlaw13_awake.calls k  true _ ?sideG A8.out).mono ?_); (case sideG => exact laidG_below HG.out bl_ rfl); rintro e mr ⟨rfl, hb⟩; refine ⟨_, rfl, ?_⟩; replace a := Z (kb a.out hb); replace b := Z (kb b.out hb); replace d := Z (kb d.out hb); replace HB := Z (below_step bl_ hb); (try clear hb); (try clear aI); (try clear hk); (try clear hi); have ks := ak.out; have lf := ao.out; have kt := af.out; have lg := ag.out; obtain ⟨bi, bj, bk, bl, bm, bn, bS, bT, bU, bV, bW, bX⟩ := cells6 a.out) | (go_at_call 15; (with_reducible refine (shutterref10_Few.calls k m u _ _ s x l q true _ ?side1 ?side2 fW.out).mono ?_); (case side1 => repeat (first | exact (Kd.C_below aS.out HB.out) | (with_reducible apply pC))); (case side2 => exact aR.out); rintro e ms ⟨rfl, hb⟩; replace a := Z (kb a.out hb); replace b := Z (kb b.out hb); replace d := Z (kb d.out hb); replace HB := Z (below_step bl_ hb); (try clear hb); (try clear aI); (try clear hk); (try clear hi); have ku := al.out; have lh := ah.out; obtain ⟨bo, bp, bq, br, bs, bt, bY, bZ, b0, b1, b2, b3⟩ := cells6 b.out) | (go_at_call 15; (with_reducible refine (shutterref10_Few.calls k z F _ _ E G P M true _ ?side1 ?side2 gp.out).mono ?_); (case side1 => repeat (first | exact (Kd.C_below dP.out HB.out) | (with_reducible apply pC))); (case side2 => exact dO.out); rintro e mt ⟨rfl, hb⟩; replace a := Z (kb a.out hb); replace b := Z (kb b.out hb); replace d := Z (kb d.out hb); replace HB := Z (below_step bl_ hb); (try clear hb); (try clear aI); (try clear hk); (try clear hi); obtain ⟨bu, bv, bw, bx, bz, b4, b5, b6, b7, b8⟩ := cells5 d.out) | (go_at_call 33; (with_reducible refine (shutterref08_Few.calls k i A B D _ _ y ax _ ?side1 ?side2 jo.out).mono ?_); (case side1 => repeat (first | exact (Kd.C_below cF.out HB.out) | (with_reducible apply pC))); (case side2 => exact cE.out); rintro e mu ⟨rfl, hb⟩; replace a := Z (kb a.out hb); replace b := Z (kb b.out hb); replace d := Z (kb d.out hb); replace HB := Z (below_step bl_ hb); (try clear hb); (try clear aI); (try clear hk); (try clear hi)))
     go_meet
     case rel => exact ⟨_, (!ax), (dn_), H', ⟨by first | omega | exact Nat.le_refl _⟩, ⟨vK a.out⟩, ⟨vK b.out⟩, ⟨vK d.out⟩, ⟨bl_⟩⟩
    ·replace cI := Bool.eq_false_iff.mpr cI
     subst cI
     have H1 : (shutterlaw13_HostErases.j0 k true m u s x l q z F E G P M i A B D y) = some r := by rw [if_neg (show ¬ (false = true) by decide)] at H; exact H
     clear H
     have H := H1
     clear H1
     have H' := Z H
     clear H
     go_wp2_with (first | ((with_reducible refine gate_callee (f := 28) rfl ?_); refine goesL_ (some 11) rfl rfl Tryd.func28 (by kernel_rfl) rfl #[] rfl ag_ ?_; (with_reducible refine (shutterlaw13_awake.calls k  true _ ?sideG A8.out).mono ?_); (case sideG => exact laidG_below HG.out bl_ rfl); rintro e mv ⟨rfl, hb⟩; refine ⟨_, rfl, ?_⟩; replace a := Z (kb a.out hb); replace b := Z (kb b.out hb); replace d := Z (kb d.out hb); replace HB := Z (below_step bl_ hb); (try clear hb); (try clear aI); (try clear hk); (try clear hi); have kv := ak.out; have li := ao.out; have kw := af.out; have lj := ag.out; obtain ⟨bA, bB, bC, bD, bE, bF, b9, ca, cb, cc, cd, ce⟩ := cells6 a.out) | (go_at_call 15; (with_reducible refine (shutterref10_Few.calls k m u _ _ s x l q true _ ?side1 ?side2 fW.out).mono ?_); (case side1 => repeat (first | exact (Kd.C_below aS.out HB.out) | (with_reducible apply pC))); (case side2 => exact aR.out); rintro e mw ⟨rfl, hb⟩; replace a := Z (kb a.out hb); replace b := Z (kb b.out hb); replace d := Z (kb d.out hb); replace HB := Z (below_step bl_ hb); (try clear hb); (try clear aI); (try clear hk); (try clear hi); have kx := al.out; have lk := ah.out; obtain ⟨bG, bH, bI, bJ, bK, bL, cf, cg, ch, ci, cj, ck⟩ := cells6 b.out) | (go_at_call 15; (with_reducible refine (shutterref10_Few.calls k z F _ _ E G P M false _ ?side1 ?side2 gp.out).mono ?_); (case side1 => repeat (first | exact (Kd.C_below dP.out HB.out) | (with_reducible apply pC))); (case side2 => exact dO.out); rintro e mx ⟨rfl, hb⟩; replace a := Z (kb a.out hb); replace b := Z (kb b.out hb); replace d := Z (kb d.out hb); replace HB := Z (below_step bl_ hb); (try clear hb); (try clear aI); (try clear hk); (try clear hi)))
     go_meet
     case rel => exact ⟨_, (true), (dn_), H', ⟨by first | omega | exact Nat.le_refl _⟩, ⟨vK a.out⟩, ⟨vK b.out⟩, ⟨vK d.out⟩, ⟨bl_⟩⟩
   ·replace cH := Bool.eq_false_iff.mpr cH
    subst cH
    have H1 : (shutterlaw13_HostErases.j0 k true m u s x l q z F E G P M i A B D y) = some r := by rw [if_neg (show ¬ (false = true) by decide)] at H; exact H
    clear H
    have H := H1
    clear H1
    have H' := Z H
    clear H
    go_wp2_with (first | ((with_reducible refine gate_callee (f := 28) rfl ?_); refine goesL_ (some 11) rfl rfl Tryd.func28 (by kernel_rfl) rfl #[] rfl ag_ ?_; (with_reducible refine (shutterlaw13_awake.calls k  true _ ?sideG A8.out).mono ?_); (case sideG => exact laidG_below HG.out bl_ rfl); rintro e my ⟨rfl, hb⟩; refine ⟨_, rfl, ?_⟩; replace a := Z (kb a.out hb); replace b := Z (kb b.out hb); replace d := Z (kb d.out hb); replace HB := Z (below_step bl_ hb); (try clear hb); (try clear aI); (try clear hk); (try clear hi); have ky := ak.out; have ll := ao.out; have kz := af.out; have lm := ag.out; obtain ⟨bM, bN, bO, bP, bQ, bR, cl, cm, cn, co, cp, cq⟩ := cells6 a.out) | (go_at_call 15; (with_reducible refine (shutterref10_Few.calls k m u _ _ s x l q false _ ?side1 ?side2 fW.out).mono ?_); (case side1 => repeat (first | exact (Kd.C_below aS.out HB.out) | (with_reducible apply pC))); (case side2 => exact aR.out); rintro e mz ⟨rfl, hb⟩; replace a := Z (kb a.out hb); replace b := Z (kb b.out hb); replace d := Z (kb d.out hb); replace HB := Z (below_step bl_ hb); (try clear hb); (try clear aI); (try clear hk); (try clear hi)))
    go_meet
    case rel => exact ⟨_, (true), (dn_), H', ⟨by first | omega | exact Nat.le_refl _⟩, ⟨vK a.out⟩, ⟨vK b.out⟩, ⟨vK d.out⟩, ⟨bl_⟩⟩
  ·replace c9 := Bool.eq_false_iff.mpr c9
   subst c9
   have H1 : (none) = some r := by rw [if_neg (show ¬ (false = true) by decide)] at H; exact H
   clear H
   have H := H1
   clear H1
   exact absurd H (by simp)
 case rest =>
  clear ge
  try clear c1
  try clear c2
  try clear p2
  try clear c3
  try clear c9
  try clear c10
  try clear cH
  try clear cI
  try clear gs
  try clear gt
  try clear gu
  try clear gv
  try clear gw
  try clear gx
  try clear gy
  try clear gz
  try clear gA
  try clear bi
  try clear bj
  try clear bk
  try clear bl
  try clear bm
  try clear bn
  try clear bo
  try clear bp
  try clear bq
  try clear br
  try clear bs
  try clear bt
  try clear bu
  try clear bv
  try clear bw
  try clear bx
  try clear bz
  try clear bA
  try clear bB
  try clear bC
  try clear bD
  try clear bE
  try clear bF
  try clear bG
  try clear bH
  try clear bI
  try clear bJ
  try clear bK
  try clear bL
  try clear bM
  try clear bN
  try clear bO
  try clear bP
  try clear bQ
  try clear bR
  try clear bS
  try clear bT
  try clear bU
  try clear bV
  try clear bW
  try clear bX
  try clear bY
  try clear bZ
  try clear b0
  try clear b1
  try clear b2
  try clear b3
  try clear b4
  try clear b5
  try clear b6
  try clear b7
  try clear b8
  try clear b9
  try clear ca
  try clear cb
  try clear cc
  try clear cd
  try clear ce
  try clear cf
  try clear cg
  try clear ch
  try clear ci
  try clear cj
  try clear ck
  try clear cl
  try clear cm
  try clear cn
  try clear co
  try clear cp
  try clear cq
  obtain ⟨kq, cG, rfl, HA, dW, a, b, d, HB⟩ := hcut
  cases kq with
  | zero => exact absurd HA.out (by simp [shutterlaw13_HostErases.j0])
  | succ au =>
   have H := HA.out
   clear HA
   simp only [shutterlaw13_HostErases.j0] at H
   by_cases cJ : cG = true
   ·subst cJ
    have H1 : ((shutterlaw13_awake.f au).bind fun dU => (some dU)) = some r := by rw [if_pos rfl] at H; exact H
    clear H
    have H := H1
    clear H1
    replace H := Option.bind_eq_some_iff.mp H
    obtain ⟨dU, ga, H⟩ := H
    replace H : (some dU) = some r := H
    have jp := Z ga
    clear ga
    obtain rfl := Option.some.inj H
    go_wp2_with (first | ((with_reducible refine gate_callee (f := 28) rfl ?_); refine goesL_ (some 28) rfl rfl Tryd.func28 (by kernel_rfl) rfl #[] rfl ag_ ?_; (with_reducible refine (shutterlaw13_awake.calls au  dU _ ?sideG jp.out).mono ?_); (case sideG => exact laidG_below HG.out bl_ rfl); rintro e mA ⟨rfl, hb⟩; refine ⟨_, rfl, ?_⟩; replace a := Z (kb a.out hb); replace b := Z (kb b.out hb); replace d := Z (kb d.out hb); replace HB := Z (below_step bl_ hb); (try clear hb); (try clear aI); (try clear hk); (try clear hi)))
    go_ret
    exact ⟨er_, bl_⟩
   ·replace cJ := Bool.eq_false_iff.mpr cJ
    subst cJ
    have H1 : ((host_Do.f au m u s x l q i A B D y).bind fun aa => (if aa.2.2.2.2.2.2.1.isNone = true then ((shutterref10_Right.f au aa.1 aa.2.1 aa.2.2.1 aa.2.2.2.1 aa.2.2.2.2.1 aa.2.2.2.2.2.1).bind fun a3 => (if a3 = true then (if i = 242 then (shutterlaw13_HostErases.j1 au true m u s x l q z F E G P M i A B D y aa.1 aa.2.1 aa.2.2.1 aa.2.2.2.1 aa.2.2.2.2.1 aa.2.2.2.2.2.1) else (shutterlaw13_HostErases.j1 au (i == 246) m u s x l q z F E G P M i A B D y aa.1 aa.2.1 aa.2.2.1 aa.2.2.2.1 aa.2.2.2.2.1 aa.2.2.2.2.2.1)) else (none))) else ((shutterref10_Same.f au aa.1 aa.2.1 aa.2.2.1 aa.2.2.2.1 aa.2.2.2.2.1 aa.2.2.2.2.2.1 m u s x l q).bind fun a5 => (some a5)))) = some r := by rw [if_neg (show ¬ (false = true) by decide)] at H; exact H
    clear H
    have H := H1
    clear H1
    replace H := Option.bind_eq_some_iff.mp H
    obtain ⟨⟨S, T, O, U, W, X, gj, gk⟩, gb, H⟩ := H
    replace H : (if gj.isNone = true then ((shutterref10_Right.f au S T O U W X).bind fun a3 => (if a3 = true then (if i = 242 then (shutterlaw13_HostErases.j1 au true m u s x l q z F E G P M i A B D y S T O U W X) else (shutterlaw13_HostErases.j1 au (i == 246) m u s x l q z F E G P M i A B D y S T O U W X)) else (none))) else ((shutterref10_Same.f au S T O U W X m u s x l q).bind fun a5 => (some a5))) = some r := H
    have gq := Z gb
    clear gb
    rcases gj with _ | dS
    ·have H1 : ((shutterref10_Right.f au S T O U W X).bind fun a3 => (if a3 = true then (if i = 242 then (shutterlaw13_HostErases.j1 au true m u s x l q z F E G P M i A B D y S T O U W X) else (shutterlaw13_HostErases.j1 au (i == 246) m u s x l q z F E G P M i A B D y S T O U W X)) else (none))) = some r := by rw [if_pos (show (none : Option Er).isNone = true by rfl)] at H; exact H
     clear H
     have H := H1
     clear H1
     try simp only [errW_none, errW_some]
     replace H := Option.bind_eq_some_iff.mp H
     obtain ⟨a3, gc, H⟩ := H
     replace H : (if a3 = true then (if i = 242 then (shutterlaw13_HostErases.j1 au true m u s x l q z F E G P M i A B D y S T O U W X) else (shutterlaw13_HostErases.j1 au (i == 246) m u s x l q z F E G P M i A B D y S T O U W X)) else (none)) = some r := H
     have jq := Z gc
     clear gc
     by_cases cK : a3 = true
     ·subst cK
      have H1 : (if i = 242 then (shutterlaw13_HostErases.j1 au true m u s x l q z F E G P M i A B D y S T O U W X) else (shutterlaw13_HostErases.j1 au (i == 246) m u s x l q z F E G P M i A B D y S T O U W X)) = some r := by rw [if_pos rfl] at H; exact H
      clear H
      have H := H1
      clear H1
      have d2 := Z H
      clear H
      have kA := ak.out
      have ln := ao.out
      have kB := af.out
      have lo := ag.out
      obtain ⟨cL, cM, cN, cO, cP, cQ, dl, dm, dn, dp, dq, dr⟩ := cells6 a.out
      have kC := ah.out
      have lp := al.out
      obtain ⟨cR, cS, cT, cU, cV, ds, dt, du, dv, dw⟩ := cells5 d.out
      go_upto_region 8 with (first | ((with_reducible refine gate_callee (f := 31) rfl ?_); refine goesL_ (some 32) rfl rfl Tryd.func31 (by kernel_rfl) rfl #[.agg #[.int .i64 m, .int .i64 u, .slice az s.length aB, .int .i64 x, .bool l, .bool q], .agg #[.int .i64 i, .bool A, .bool B, .bool D, .slice aD y.length aF]] rfl ag_ ?_; (with_reducible refine (host_Do.calls au m u (fun k_ => k_ < w.heap.size) _ _ s x l q i A B D _ _ y S T O U W X none gk _ ?side1 ?side2 ?side3 gq.out).mono ?_); (case side1 => exact Kd.V_mk aR.out (Kd.F_below (Kd.C_F k44_heap aS.out) bl_)); (case side2 => repeat (first | exact (Kd.C_below cF.out HB.out) | (with_reducible apply pC))); (case side3 => exact cE.out); rintro e mB ⟨jm, jn, rfl, cB, cC, hb⟩; refine ⟨_, rfl, ?_⟩; have aj := Z (Kd.V_lower (Kd.V_mono (ok' := fun k_ => k_ ≠ ad ∧ k_ ≠ Y ∧ k_ ≠ ae) cB (fun k_ hk_ => ⟨Or.elim hk_ (fun hs_ => fun e_ => Nat.not_le.2 hs_ (by rw [e_]; exact a7.out)) (fun hn_ => (fb a.out k_ hn_)), Or.elim hk_ (fun hs_ => fun e_ => Nat.not_le.2 hs_ (by rw [e_]; exact a8.out)) (fun hn_ => (fb b.out k_ hn_)), Or.elim hk_ (fun hs_ => fun e_ => Nat.not_le.2 hs_ (by rw [e_]; exact a9.out)) (fun hn_ => (fb d.out k_ hn_))⟩)) (below_size bl_)); have ay := Z (Kd.V_lower (Kd.V_mono (ok' := fun k_ => k_ ≠ ad ∧ k_ ≠ Y ∧ k_ ≠ ae) cC (fun k_ hk_ => ⟨Or.elim hk_ (fun hs_ => fun e_ => Nat.not_le.2 hs_ (by rw [e_]; exact a7.out)) (fun hn_ => (fb a.out k_ hn_)), Or.elim hk_ (fun hs_ => fun e_ => Nat.not_le.2 hs_ (by rw [e_]; exact a8.out)) (fun hn_ => (fb b.out k_ hn_)), Or.elim hk_ (fun hs_ => fun e_ => Nat.not_le.2 hs_ (by rw [e_]; exact a9.out)) (fun hn_ => (fb d.out k_ hn_))⟩)) (below_size bl_)); replace a := Z (kb a.out hb); replace b := Z (kb b.out hb); replace d := Z (kb d.out hb); replace HB := Z (below_step bl_ hb); (try clear hb); (try clear aI); (try clear hk); (try clear hi); (try clear cB); (try clear cC); (try simp only [errW_none, errW_some])) | ((with_reducible refine gate_dst (N := 7) rfl ?_); refine bx_ 7 24 #[.int .i64 0, .int .i64 0, .slice none 0 0, .int .i64 0, .bool false, .bool false] ?_; intro j hg mC hbox hb; replace aj := Z (ve aj.out hg hb); replace ay := Z (ve ay.out hg hb); have Q := Z (hbox); have dN := Z (ln_ hg : w.heap.size ≤ j); have gm := Z (ln_ hg : w.heap.size ≤ j); replace HB := Z (below_step bl_ hb); have an := Z (nl a.out hg); have av := Z (ng a.out hg); replace a := Z (kb a.out hb); have ap := Z (nl b.out hg); have aq := Z (ng b.out hg); replace b := Z (kb b.out hb); have ai := Z (nl d.out hg); have am := Z (ng d.out hg); replace d := Z (kb d.out hb); clear hb hbox hg; have kD := av.out; have lq := an.out; have kE := aq.out; have lr := ap.out; have kF := am.out; have ls := ai.out; obtain ⟨cW, cX, cY, cZ, c0, da, dx, dy, dz, dA, dB, dC⟩ := cells6 Q.out; obtain ⟨aA, aw, gG⟩ := Kd.V_slice aj.out; subst gG) | ((with_reducible refine gate_callee (f := 21) rfl ?_); refine goesL_ (some 41) rfl rfl Tryd.func21 (by kernel_rfl) rfl #[.agg #[.int .i64 S, .int .i64 T, .slice aA O.length aw, .int .i64 U, .bool W, .bool X]] rfl ag_ ?_; (with_reducible refine (shutterref10_Right.calls au S T _ _ O U W X true _ ?side1 ?side2 jq.out).mono ?_); (case side1 => refine (Kd.V_reads' (e := 44) (base := w.heap.size) (ok := fun k_ => ((k_ ≠ ad ∧ (k_ ≠ Y ∧ k_ ≠ ae)) ∧ k_ ≠ j)) (n := O.length) (c := aw) ?_).2.2; exact (by (with_reducible repeat apply pV); exact (Kd.V_mono (f6V j (Kd.V_mono aj.out (fun k_ hk => (⟨hk, hk.2⟩ : _ ∧ k_ ≠ j))) (fun _ hk => hk.2)) (fun _ h_ => h_.1)))); (case side2 => exact (Kd.V_reads' aj.out).2.1); rintro e mD ⟨rfl, hb⟩; refine ⟨_, rfl, ?_⟩; replace aj := Z (Kd.V_below (by (with_reducible repeat apply pV); exact (Kd.V_mono (f6V j (Kd.V_mono aj.out (fun k_ hk => (⟨hk, hk.2⟩ : _ ∧ k_ ≠ j))) (fun _ hk => hk.2)) (fun _ h_ => h_.1))) hb); replace ay := Z (Kd.V_below (by (with_reducible repeat apply pV); exact (Kd.V_mono (f6V j (Kd.V_mono ay.out (fun k_ hk => (⟨hk, hk.2⟩ : _ ∧ k_ ≠ j))) (fun _ hk => hk.2)) (fun _ h_ => h_.1))) hb); replace a := Z (blk_below (g := ad) (o := .cells #[.int .i64 m, .int .i64 u, .slice az s.length aB, .int .i64 x, .bool l, .bool q] 24 (0, 0)) (by (with_reducible repeat apply pK); exact blk_off a.out an.out off2_) hb); replace b := Z (blk_below (g := Y) (o := .cells #[.int .i64 z, .int .i64 F, .slice aC E.length aE, .int .i64 G, .bool P, .bool M] 24 (0, 0)) (by (with_reducible repeat apply pK); exact blk_off b.out ap.out off2_) hb); replace d := Z (blk_below (g := ae) (o := .cells #[.int .i64 i, .bool A, .bool B, .bool D, .slice aD y.length aF] 60 (0, 0)) (by (with_reducible repeat apply pK); exact blk_off d.out ai.out off2_) hb); replace Q := Z (blk_below (g := j) (o := .cells #[.int .i64 S, .int .i64 T, .slice aA O.length aw, .int .i64 U, .bool W, .bool X] 24 (0, 0)) (put6 Q.out) hb); replace HB := Z (below_step bl_ hb); (try clear hb); (try clear aI); (try clear hk); (try clear hi)))
      (try simp only [Act.put, sA, sB, sC])
      go_cut [50] (fun kk wc => ∃ (kq : Nat) (bg : Bool), kk = .bool bg ∧ Aside0 (shutterlaw13_HostErases.j1 kq bg m u s x l q z F E G P M i A B D y S T O U W X = some r) ∧ Aside0 (kq ≤ au) ∧ Aside0 (Kd.V k44 44 wc w.heap.size (fun k_ => k_ ≠ ad ∧ k_ ≠ Y ∧ k_ ≠ ae ∧ k_ ≠ j) (.slice aA O.length aw) O) ∧ Aside0 (wc.heap[ad]? = some (.cells #[.int .i64 m, .int .i64 u, (.slice az s.length aB), .int .i64 x, .bool l, .bool q] 24 (0, 0))) ∧ Aside0 (wc.heap[Y]? = some (.cells #[.int .i64 z, .int .i64 F, (.slice aC E.length aE), .int .i64 G, .bool P, .bool M] 24 (0, 0))) ∧ Aside0 (wc.heap[ae]? = some (.cells #[.int .i64 i, .bool A, .bool B, .bool D, (.slice aD y.length aF)] 60 (0, 0))) ∧ Aside0 (wc.heap[j]? = some (.cells #[.int .i64 S, .int .i64 T, (.slice aA O.length aw), .int .i64 U, .bool W, .bool X] 24 (0, 0))) ∧ Aside0 (Below w.heap.size w wc))
      case first =>
       have H := d2.out
       clear d2
       by_cases bf : i = 242
       ·rw [if_pos bf] at H
        have aU : (i == 242) = true := beq_iff_eq.mpr bf
        have dR : (i != 242) = false := bne_eq_false_iff_eq.mpr bf
        clear bf
        (first | rw [aU] | (simp only [i64_w, i32_w]; rw [aU]) | skip)
        have H' := Z H
        clear H
        have kG := ag.out
        have lt := af.out
        have kH := ah.out
        have lu := al.out
        have kI := ai.out
        have lv := am.out
        obtain ⟨db, dc, dd, de, df, dD, dE, dF, dG, dH⟩ := cells5 d.out
        go_wp2
        go_meet
        case rel => exact ⟨_, (true), (dn_), H', ⟨by have := dW.out; first | omega | exact Nat.le_refl _⟩, ⟨by (with_reducible repeat apply pV); exact Kd.V_mono aj.out (fun _ hk => ⟨hk.1.1, ⟨hk.1.2.1, ⟨hk.1.2.2, hk.2⟩⟩⟩)⟩, ⟨vK a.out⟩, ⟨vK b.out⟩, ⟨vK d.out⟩, ⟨vK Q.out⟩, ⟨bl_⟩⟩
       ·rw [if_neg bf] at H
        have aU : (i == 242) = false := beq_eq_false_iff_ne.mpr bf
        have dR : (i != 242) = true := bne_iff_ne.mpr bf
        (first | rw [aU] | (simp only [i64_w, i32_w]; rw [aU]) | skip)
        have H' := Z H
        clear H
        have kJ := ag.out
        have lw := af.out
        have kK := ah.out
        have lx := al.out
        have kL := ai.out
        have ly := am.out
        obtain ⟨dg, dh, di, dj, dk, dI, dJ, dK, dL, dM⟩ := cells5 d.out
        go_wp2
        go_meet
        case rel => exact ⟨_, ((i == 246)), (dn_), H', ⟨by have := dW.out; first | omega | exact Nat.le_refl _⟩, ⟨by (with_reducible repeat apply pV); exact Kd.V_mono aj.out (fun _ hk => ⟨hk.1.1, ⟨hk.1.2.1, ⟨hk.1.2.2, hk.2⟩⟩⟩)⟩, ⟨vK a.out⟩, ⟨vK b.out⟩, ⟨vK d.out⟩, ⟨vK Q.out⟩, ⟨bl_⟩⟩
      case rest =>
       clear d2
       try clear c1
       try clear c2
       try clear p2
       try clear c3
       try clear c4
       try clear q4
       try clear c5
       try clear c6
       try clear c9
       try clear c10
       try clear cH
       try clear cI
       try clear gs
       try clear gt
       try clear gu
       try clear js
       try clear gv
       try clear gw
       try clear gx
       try clear gy
       try clear jt
       try clear gz
       try clear gA
       try clear cJ
       try clear cK
       try clear ju
       try clear jv
       try clear gB
       try clear jw
       try clear jx
       try clear jy
       try clear jz
       try clear bf
       try clear aU
       try clear dR
       try clear jA
       try clear jB
       try clear jC
       try clear jD
       try clear jE
       try clear jF
       try clear bi
       try clear bj
       try clear bk
       try clear bl
       try clear bm
       try clear bn
       try clear bo
       try clear bp
       try clear bq
       try clear br
       try clear bs
       try clear bt
       try clear bu
       try clear bv
       try clear bw
       try clear bx
       try clear bz
       try clear bA
       try clear bB
       try clear bC
       try clear bD
       try clear bE
       try clear bF
       try clear bG
       try clear bH
       try clear bI
       try clear bJ
       try clear bK
       try clear bL
       try clear bM
       try clear bN
       try clear bO
       try clear bP
       try clear bQ
       try clear bR
       try clear cL
       try clear cM
       try clear cN
       try clear cO
       try clear cP
       try clear cQ
       try clear cR
       try clear cS
       try clear cT
       try clear cU
       try clear cV
       try clear cW
       try clear cX
       try clear cY
       try clear cZ
       try clear c0
       try clear da
       try clear db
       try clear dc
       try clear dd
       try clear de
       try clear df
       try clear dg
       try clear dh
       try clear di
       try clear dj
       try clear dk
       try clear bS
       try clear bT
       try clear bU
       try clear bV
       try clear bW
       try clear bX
       try clear bY
       try clear bZ
       try clear b0
       try clear b1
       try clear b2
       try clear b3
       try clear b4
       try clear b5
       try clear b6
       try clear b7
       try clear b8
       try clear b9
       try clear ca
       try clear cb
       try clear cc
       try clear cd
       try clear ce
       try clear cf
       try clear cg
       try clear ch
       try clear ci
       try clear cj
       try clear ck
       try clear cl
       try clear cm
       try clear cn
       try clear co
       try clear cp
       try clear cq
       try clear dl
       try clear dm
       try clear dn
       try clear dp
       try clear dq
       try clear dr
       try clear ds
       try clear dt
       try clear du
       try clear dv
       try clear dw
       try clear dx
       try clear dy
       try clear dz
       try clear dA
       try clear dB
       try clear dC
       try clear dD
       try clear dE
       try clear dF
       try clear dG
       try clear dH
       try clear dI
       try clear dJ
       try clear dK
       try clear dL
       try clear dM
       try clear p2
       try clear dS
       obtain ⟨kq, bg, rfl, HA, d4, HO_466002, a, b, d, Q, HB⟩ := hcut
       cases kq with
       | zero => exact absurd HA.out (by simp [shutterlaw13_HostErases.j1])
       | succ cr =>
        have H := HA.out
        clear HA
        simp only [shutterlaw13_HostErases.j1] at H
        by_cases d1 : bg = true
        ·subst d1
         have H1 : ((shutterref10_Same.f cr S T O U W X m u s x l q).bind fun dV => (some dV)) = some r := by rw [if_pos rfl] at H; exact H
         clear H
         have H := H1
         clear H1
         replace H := Option.bind_eq_some_iff.mp H
         obtain ⟨dV, gd, H⟩ := H
         replace H : (some dV) = some r := H
         have jr := Z gd
         clear gd
         obtain rfl := Option.some.inj H
         have kM := av.out
         have lz := an.out
         have kN := aq.out
         have lA := ap.out
         have kO := am.out
         have lB := ai.out
         obtain ⟨er, es, et, eu, ev, ew, fc, fd, fe, ff, fg, fh⟩ := cells6 Q.out
         have kP := ak.out
         have lC := ao.out
         have kQ := af.out
         have lD := ag.out
         obtain ⟨ex, ey, ez, eA, eB, eC, fi, fj, fk, fl, fm, fn⟩ := cells6 a.out
         go_wp2_with (first | ((with_reducible refine gate_callee (f := 19) rfl ?_); refine goesL_ (some 53) rfl rfl Tryd.func19 (by kernel_rfl) rfl #[.agg #[.int .i64 S, .int .i64 T, .slice aA O.length aw, .int .i64 U, .bool W, .bool X], .agg #[.int .i64 m, .int .i64 u, .slice az s.length aB, .int .i64 x, .bool l, .bool q]] rfl ag_ ?_; (with_reducible refine (shutterref10_Same.calls cr S T _ _ O U W X m u _ _ s x l q dV _ ?side1 ?side2 ?side3 ?side4 jr.out).mono ?_); (case side1 => repeat (first | exact (Kd.V_reads' HO_466002.out).2.2 | (with_reducible apply pC))); (case side2 => exact (Kd.V_reads' HO_466002.out).2.1); (case side3 => repeat (first | exact (Kd.C_below aS.out HB.out) | (with_reducible apply pC))); (case side4 => exact aR.out); rintro e mE ⟨rfl, hb⟩; refine ⟨_, rfl, ?_⟩; replace HO_466002 := Z (vb HO_466002.out hb); replace a := Z (kb a.out hb); replace b := Z (kb b.out hb); replace d := Z (kb d.out hb); replace Q := Z (kb Q.out hb); replace HB := Z (below_step bl_ hb); (try clear hb); (try clear aI); (try clear hk); (try clear hi)))
         go_ret
         exact ⟨er_, bl_⟩
        ·replace d1 := Bool.eq_false_iff.mpr d1
         subst d1
         have H1 : (if i = 245 then (if z = m then (shutterlaw13_HostErases.j2 cr (F != u) m u s x l q z F E G P M i A B D y S T O U W X) else (shutterlaw13_HostErases.j2 cr true m u s x l q z F E G P M i A B D y S T O U W X)) else (shutterlaw13_HostErases.j2 cr true m u s x l q z F E G P M i A B D y S T O U W X)) = some r := by rw [if_neg (show ¬ (false = true) by decide)] at H; exact H
         clear H
         have H := H1
         clear H1
         have d3 := Z H
         clear H
         go_upto_region 10 with (fail)
         go_cut [70] (fun kl wc => ∃ (kq : Nat) (bh : Bool), kl = .bool bh ∧ Aside0 (shutterlaw13_HostErases.j2 kq bh m u s x l q z F E G P M i A B D y S T O U W X = some r) ∧ Aside0 (kq ≤ cr) ∧ Aside0 (Kd.V k44 44 wc w.heap.size (fun k_ => k_ ≠ ad ∧ k_ ≠ Y ∧ k_ ≠ ae ∧ k_ ≠ j) (.slice aA O.length aw) O) ∧ Aside0 (wc.heap[ad]? = some (.cells #[.int .i64 m, .int .i64 u, (.slice az s.length aB), .int .i64 x, .bool l, .bool q] 24 (0, 0))) ∧ Aside0 (wc.heap[Y]? = some (.cells #[.int .i64 z, .int .i64 F, (.slice aC E.length aE), .int .i64 G, .bool P, .bool M] 24 (0, 0))) ∧ Aside0 (wc.heap[ae]? = some (.cells #[.int .i64 i, .bool A, .bool B, .bool D, (.slice aD y.length aF)] 60 (0, 0))) ∧ Aside0 (wc.heap[j]? = some (.cells #[.int .i64 S, .int .i64 T, (.slice aA O.length aw), .int .i64 U, .bool W, .bool X] 24 (0, 0))) ∧ Aside0 (Below w.heap.size w wc))
         case first =>
          have H := d3.out
          clear d3
          by_cases cz : i = 245
          ·rw [if_pos cz] at H
           have bb : (i == 245) = true := beq_iff_eq.mpr cz
           have ei : (i != 245) = false := bne_eq_false_iff_eq.mpr cz
           clear cz
           (first | rw [bb] | (simp only [i64_w, i32_w]; rw [bb]) | skip)
           by_cases cA : z = m
           ·rw [if_pos cA] at H
            have ej : (z == m) = true := beq_iff_eq.mpr cA
            have ek : (z != m) = false := bne_eq_false_iff_eq.mpr cA
            clear cA
            have H' := Z H
            clear H
            have kR := ag.out
            have lE := af.out
            have kS := ah.out
            have lF := al.out
            have kT := ai.out
            have lG := am.out
            obtain ⟨eD, eE, eF, eG, eH, fo, fp, fq, fr, fs⟩ := cells5 d.out
            have kU := ao.out
            have lH := ak.out
            have kV := ap.out
            have lI := aq.out
            obtain ⟨eI, eJ, eK, eL, eM, eN, ft, fu, fv, fw, fx, fy⟩ := cells6 b.out
            have kW := an.out
            have lJ := av.out
            obtain ⟨eO, eP, eQ, eR, eS, eT, fz, fA, fB, fC, fD, fE⟩ := cells6 a.out
            go_wp2
            go_meet
            case rel => exact ⟨_, ((F != u)), (dn_), H', ⟨by have := dW.out; have := d4.out; first | omega | exact Nat.le_refl _⟩, ⟨vV HO_466002.out⟩, ⟨vK a.out⟩, ⟨vK b.out⟩, ⟨vK d.out⟩, ⟨vK Q.out⟩, ⟨bl_⟩⟩
           ·rw [if_neg cA] at H
            have ej : (z == m) = false := beq_eq_false_iff_ne.mpr cA
            have ek : (z != m) = true := bne_iff_ne.mpr cA
            have H' := Z H
            clear H
            have kX := ag.out
            have lK := af.out
            have kY := ah.out
            have lL := al.out
            have kZ := ai.out
            have lM := am.out
            obtain ⟨eU, eV, eW, eX, eY, fF, fG, fH, fI, fJ⟩ := cells5 d.out
            have la := ao.out
            have lN := ak.out
            have lb := ap.out
            have lO := aq.out
            obtain ⟨eZ, e0, e1, e2, e3, e4, fK, fL, fM, fN, fO, fP⟩ := cells6 b.out
            have lc := an.out
            have lP := av.out
            obtain ⟨e5, e6, e7, e8, e9, fa, fQ, fR, fS, fT, fU, fV⟩ := cells6 a.out
            go_wp2
            go_meet
            case rel => exact ⟨_, (true), (dn_), H', ⟨by have := dW.out; have := d4.out; first | omega | exact Nat.le_refl _⟩, ⟨vV HO_466002.out⟩, ⟨vK a.out⟩, ⟨vK b.out⟩, ⟨vK d.out⟩, ⟨vK Q.out⟩, ⟨bl_⟩⟩
          ·rw [if_neg cz] at H
           have bb : (i == 245) = false := beq_eq_false_iff_ne.mpr cz
           have ei : (i != 245) = true := bne_iff_ne.mpr cz
           (first | rw [bb] | (simp only [i64_w, i32_w]; rw [bb]) | skip)
           have H' := Z H
           clear H
           have ld := ag.out
           have lQ := af.out
           have le := ah.out
           have lR := al.out
           have jG := ai.out
           have jX := am.out
           obtain ⟨d5, d6, d7, d8, d9, ea, eb, ec, ed, ee⟩ := cells5 d.out
           go_wp2
           go_meet
           case rel => exact ⟨_, (true), (dn_), H', ⟨by have := dW.out; have := d4.out; first | omega | exact Nat.le_refl _⟩, ⟨vV HO_466002.out⟩, ⟨vK a.out⟩, ⟨vK b.out⟩, ⟨vK d.out⟩, ⟨vK Q.out⟩, ⟨bl_⟩⟩
         case rest =>
          clear d3
          try clear c1
          try clear c2
          try clear p2
          try clear c3
          try clear c4
          try clear q4
          try clear c5
          try clear c6
          try clear c7
          try clear c8
          try clear c9
          try clear c10
          try clear cH
          try clear cI
          try clear gs
          try clear gt
          try clear l6
          try clear gu
          try clear js
          try clear gv
          try clear gw
          try clear gx
          try clear gy
          try clear jt
          try clear gz
          try clear gA
          try clear cJ
          try clear cK
          try clear ju
          try clear jv
          try clear gB
          try clear jw
          try clear jx
          try clear jy
          try clear jz
          try clear bf
          try clear aU
          try clear dR
          try clear jA
          try clear jB
          try clear jC
          try clear jD
          try clear jE
          try clear jF
          try clear d1
          try clear l7
          try clear l8
          try clear l9
          try clear ma
          try clear mb
          try clear cz
          try clear bb
          try clear ei
          try clear cA
          try clear ej
          try clear ek
          try clear mc
          try clear md
          try clear me
          try clear mf
          try clear mg
          try clear mh
          try clear mi
          try clear mj
          try clear mk
          try clear ml
          try clear mm
          try clear mn
          try clear mo
          try clear mq
          try clear lT
          try clear d5
          try clear d6
          try clear d7
          try clear d8
          try clear d9
          try clear bi
          try clear bj
          try clear bk
          try clear bl
          try clear bm
          try clear bn
          try clear bo
          try clear bp
          try clear bq
          try clear br
          try clear bs
          try clear bt
          try clear bu
          try clear bv
          try clear bw
          try clear bx
          try clear bz
          try clear bA
          try clear bB
          try clear bC
          try clear bD
          try clear bE
          try clear bF
          try clear bG
          try clear bH
          try clear bI
          try clear bJ
          try clear bK
          try clear bL
          try clear bM
          try clear bN
          try clear bO
          try clear bP
          try clear bQ
          try clear bR
          try clear cL
          try clear cM
          try clear cN
          try clear cO
          try clear cP
          try clear cQ
          try clear cR
          try clear cS
          try clear cT
          try clear cU
          try clear cV
          try clear cW
          try clear cX
          try clear cY
          try clear cZ
          try clear c0
          try clear da
          try clear db
          try clear dc
          try clear dd
          try clear de
          try clear df
          try clear dg
          try clear dh
          try clear di
          try clear dj
          try clear dk
          try clear er
          try clear es
          try clear et
          try clear eu
          try clear ev
          try clear ew
          try clear ex
          try clear ey
          try clear ez
          try clear eA
          try clear eB
          try clear eC
          try clear eD
          try clear eE
          try clear eF
          try clear eG
          try clear eH
          try clear eI
          try clear eJ
          try clear eK
          try clear eL
          try clear eM
          try clear eN
          try clear eO
          try clear eP
          try clear eQ
          try clear eR
          try clear eS
          try clear eT
          try clear eU
          try clear eV
          try clear eW
          try clear eX
          try clear eY
          try clear eZ
          try clear e0
          try clear e1
          try clear e2
          try clear e3
          try clear e4
          try clear e5
          try clear e6
          try clear e7
          try clear e8
          try clear e9
          try clear fa
          try clear ea
          try clear eb
          try clear ec
          try clear ed
          try clear ee
          try clear bS
          try clear bT
          try clear bU
          try clear bV
          try clear bW
          try clear bX
          try clear bY
          try clear bZ
          try clear b0
          try clear b1
          try clear b2
          try clear b3
          try clear b4
          try clear b5
          try clear b6
          try clear b7
          try clear b8
          try clear b9
          try clear ca
          try clear cb
          try clear cc
          try clear cd
          try clear ce
          try clear cf
          try clear cg
          try clear ch
          try clear ci
          try clear cj
          try clear ck
          try clear cl
          try clear cm
          try clear cn
          try clear co
          try clear cp
          try clear cq
          try clear dl
          try clear dm
          try clear dn
          try clear dp
          try clear dq
          try clear dr
          try clear ds
          try clear dt
          try clear du
          try clear dv
          try clear dw
          try clear dx
          try clear dy
          try clear dz
          try clear dA
          try clear dB
          try clear dC
          try clear dD
          try clear dE
          try clear dF
          try clear dG
          try clear dH
          try clear dI
          try clear dJ
          try clear dK
          try clear dL
          try clear dM
          try clear fc
          try clear fd
          try clear fe
          try clear ff
          try clear fg
          try clear fh
          try clear fi
          try clear fj
          try clear fk
          try clear fl
          try clear fm
          try clear fn
          try clear fo
          try clear fp
          try clear fq
          try clear fr
          try clear fs
          try clear ft
          try clear fu
          try clear fv
          try clear fw
          try clear fx
          try clear fy
          try clear fz
          try clear fA
          try clear fB
          try clear fC
          try clear fD
          try clear fE
          try clear fF
          try clear fG
          try clear fH
          try clear fI
          try clear fJ
          try clear fK
          try clear fL
          try clear fM
          try clear fN
          try clear fO
          try clear fP
          try clear fQ
          try clear fR
          try clear fS
          try clear fT
          try clear fU
          try clear fV
          try clear p2
          try clear q4
          try clear gB
          try clear dS
          obtain ⟨kq, bh, rfl, HA, lS, HO_466002, a, b, d, Q, HB⟩ := hcut
          cases kq with
          | zero => exact absurd HA.out (by simp [shutterlaw13_HostErases.j2])
          | succ ct =>
           have H := HA.out
           clear HA
           simp only [shutterlaw13_HostErases.j2] at H
           by_cases dQ : bh = true
           ·subst dQ
            have H1 : (some true) = some r := by rw [if_pos rfl] at H; exact H
            clear H
            have H := H1
            clear H1
            obtain rfl := Option.some.inj H
            go_wp2
            go_ret
            exact ⟨er_, bl_⟩
           ·replace dQ := Bool.eq_false_iff.mpr dQ
            subst dQ
            have H1 : ((host_Do.f ct z F E G l q i A B D y).bind fun aT => (if aT.2.2.2.2.2.2.1.isNone = true then ((shutterref10_Same.f ct aT.1 aT.2.1 aT.2.2.1 aT.2.2.2.1 aT.2.2.2.2.1 aT.2.2.2.2.2.1 S T O U W X).bind fun a4 => (some a4)) else (none))) = some r := by rw [if_neg (show ¬ (false = true) by decide)] at H; exact H
            clear H
            have H := H1
            clear H1
            replace H := Option.bind_eq_some_iff.mp H
            obtain ⟨⟨aM, aN, aK, aO, aP, aQ, gl, jl⟩, ef, H⟩ := H
            replace H : (if gl.isNone = true then ((shutterref10_Same.f ct aM aN aK aO aP aQ S T O U W X).bind fun a4 => (some a4)) else (none)) = some r := H
            have gC := Z ef
            clear ef
            rcases gl with _ | jk
            ·have H1 : ((shutterref10_Same.f ct aM aN aK aO aP aQ S T O U W X).bind fun a4 => (some a4)) = some r := by rw [if_pos (show (none : Option Er).isNone = true by rfl)] at H; exact H
             clear H
             have H := H1
             clear H1
             try simp only [errW_none, errW_some]
             replace H := Option.bind_eq_some_iff.mp H
             obtain ⟨a4, eg, H⟩ := H
             replace H : (some a4) = some r := H
             have gD := Z eg
             clear eg
             obtain rfl := Option.some.inj H
             have jH := ak.out
             have jY := ao.out
             have jI := af.out
             have jZ := ag.out
             have jJ := an.out
             have j3 := av.out
             obtain ⟨gH, gI, gJ, gK, gL, gM, hZ, h0, h1, h2, h3, h4⟩ := cells6 a.out
             have jK := al.out
             have j4 := ah.out
             have jL := ap.out
             have j5 := aq.out
             obtain ⟨gN, gO, gP, gQ, gR, gS, h5, h6, h7, h8, h9, ia⟩ := cells6 b.out
             go_wp2_with (first | ((with_reducible refine gate_store (t := 4) (p := 73) rfl ?_); refine sx_ 4 73 (wc.setCell ⟨Y, 4, none⟩ (.bool l)) ?_; intro bd hw; replace HO_466002 : Aside0 (Kd.V k44 44 bd w.heap.size (fun k_ => k_ ≠ ad ∧ k_ ≠ Y ∧ k_ ≠ ae ∧ k_ ≠ j) (.slice aA O.length aw) O) := ⟨(by rw [hw]; exact (by (with_reducible repeat apply pV); exact V_off HO_466002.out (fun k_ hk => hk.2.1) off2_ (fun _ hk => ⟨hk.1, ⟨hk.2.1, ⟨hk.2.2.1, hk.2.2.2⟩⟩⟩)))⟩; replace a : Aside0 (bd.heap[ad]? = some (.cells #[.int .i64 m, .int .i64 u, .slice az s.length aB, .int .i64 x, .bool l, .bool q] 24 (0, 0))) := ⟨(by rw [hw]; exact (by (with_reducible repeat apply pK); exact blk_off a.out ak.out off2_))⟩; replace b : Aside0 (bd.heap[Y]? = some (.cells #[.int .i64 z, .int .i64 F, .slice aC E.length aE, .int .i64 G, .bool l, .bool M] 24 (0, 0))) := ⟨(by rw [hw]; exact (by (with_reducible repeat apply pK); refine blk_put (cs := #[.int .i64 z, .int .i64 F, .slice aC E.length aE, .int .i64 G, .bool P, .bool M]) ?_ 4 _ rfl; (with_reducible repeat apply pK); exact b.out))⟩; replace d : Aside0 (bd.heap[ae]? = some (.cells #[.int .i64 i, .bool A, .bool B, .bool D, .slice aD y.length aF] 60 (0, 0))) := ⟨(by rw [hw]; exact (by (with_reducible repeat apply pK); exact blk_off d.out ah.out off2_))⟩; replace Q : Aside0 (bd.heap[j]? = some (.cells #[.int .i64 S, .int .i64 T, .slice aA O.length aw, .int .i64 U, .bool W, .bool X] 24 (0, 0))) := ⟨(by rw [hw]; exact (by (with_reducible repeat apply pK); exact blk_off Q.out aq.out off2_))⟩; replace HB : Aside0 (Below w.heap.size w bd) := ⟨by rw [hw]; exact bl_⟩; clear hw; obtain ⟨gT, gU, gV, gW, gX, gY, ib, ic, id, ie, ig, ih⟩ := cells6 a.out; obtain ⟨gZ, g0, g1, g2, g3, g4, ii, ij, ik, il, im, io⟩ := cells6 b.out) | ((with_reducible refine gate_store (t := 4) (p := 76) rfl ?_); refine sx_ 4 76 (bd.setCell ⟨Y, 5, none⟩ (.bool q)) ?_; intro cu hw; replace HO_466002 : Aside0 (Kd.V k44 44 cu w.heap.size (fun k_ => k_ ≠ ad ∧ k_ ≠ Y ∧ k_ ≠ ae ∧ k_ ≠ j) (.slice aA O.length aw) O) := ⟨(by rw [hw]; exact (by (with_reducible repeat apply pV); exact V_off HO_466002.out (fun k_ hk => hk.2.1) off2_ (fun _ hk => ⟨hk.1, ⟨hk.2.1, ⟨hk.2.2.1, hk.2.2.2⟩⟩⟩)))⟩; replace a : Aside0 (cu.heap[ad]? = some (.cells #[.int .i64 m, .int .i64 u, .slice az s.length aB, .int .i64 x, .bool l, .bool q] 24 (0, 0))) := ⟨(by rw [hw]; exact (by (with_reducible repeat apply pK); exact blk_off a.out ak.out off2_))⟩; replace b : Aside0 (cu.heap[Y]? = some (.cells #[.int .i64 z, .int .i64 F, .slice aC E.length aE, .int .i64 G, .bool l, .bool q] 24 (0, 0))) := ⟨(by rw [hw]; exact (by (with_reducible repeat apply pK); refine blk_put (cs := #[.int .i64 z, .int .i64 F, .slice aC E.length aE, .int .i64 G, .bool l, .bool M]) ?_ 5 _ rfl; (with_reducible repeat apply pK); exact b.out))⟩; replace d : Aside0 (cu.heap[ae]? = some (.cells #[.int .i64 i, .bool A, .bool B, .bool D, .slice aD y.length aF] 60 (0, 0))) := ⟨(by rw [hw]; exact (by (with_reducible repeat apply pK); exact blk_off d.out ah.out off2_))⟩; replace Q : Aside0 (cu.heap[j]? = some (.cells #[.int .i64 S, .int .i64 T, .slice aA O.length aw, .int .i64 U, .bool W, .bool X] 24 (0, 0))) := ⟨(by rw [hw]; exact (by (with_reducible repeat apply pK); exact blk_off Q.out aq.out off2_))⟩; replace HB : Aside0 (Below w.heap.size w cu) := ⟨by rw [hw]; exact bl_⟩; clear hw; obtain ⟨g5, g6, g7, g8, g9, ha, ip, iq, ir, it, iu, iv⟩ := cells6 b.out; have jM := ai.out; have j6 := am.out; obtain ⟨hc, he, hf, hh, hj, iw, ix, iy, iz, iA⟩ := cells5 d.out) | ((with_reducible refine gate_callee (f := 31) rfl ?_); refine goesL_ (some 80) rfl rfl Tryd.func31 (by kernel_rfl) rfl #[.agg #[.int .i64 z, .int .i64 F, .slice aC E.length aE, .int .i64 G, .bool l, .bool q], .agg #[.int .i64 i, .bool A, .bool B, .bool D, .slice aD y.length aF]] rfl ag_ ?_; (with_reducible refine (host_Do.calls ct z F (fun k_ => k_ < w.heap.size) _ _ E G l q i A B D _ _ y aM aN aK aO aP aQ none jl _ ?side1 ?side2 ?side3 gC.out).mono ?_); (case side1 => exact Kd.V_mk dO.out (Kd.F_below (Kd.C_F k44_heap dP.out) bl_)); (case side2 => repeat (first | exact (Kd.C_below cF.out HB.out) | (with_reducible apply pC))); (case side3 => exact cE.out); rintro e l0 ⟨lY, lZ, rfl, cB, cC, hb⟩; refine ⟨_, rfl, ?_⟩; replace HO_466002 := Z (vb HO_466002.out hb); have aJ := Z (Kd.V_lower (Kd.V_mono (ok' := fun k_ => k_ ≠ ad ∧ k_ ≠ Y ∧ k_ ≠ ae ∧ k_ ≠ j) cB (fun k_ hk_ => ⟨Or.elim hk_ (fun hs_ => fun e_ => Nat.not_le.2 hs_ (by rw [e_]; exact a7.out)) (fun hn_ => (fb a.out k_ hn_)), Or.elim hk_ (fun hs_ => fun e_ => Nat.not_le.2 hs_ (by rw [e_]; exact a8.out)) (fun hn_ => (fb b.out k_ hn_)), Or.elim hk_ (fun hs_ => fun e_ => Nat.not_le.2 hs_ (by rw [e_]; exact a9.out)) (fun hn_ => (fb d.out k_ hn_)), Or.elim hk_ (fun hs_ => fun e_ => Nat.not_le.2 hs_ (by rw [e_]; exact dN.out)) (fun hn_ => (fb Q.out k_ hn_))⟩)) (below_size bl_)); have ba := Z (Kd.V_lower (Kd.V_mono (ok' := fun k_ => k_ ≠ ad ∧ k_ ≠ Y ∧ k_ ≠ ae ∧ k_ ≠ j) cC (fun k_ hk_ => ⟨Or.elim hk_ (fun hs_ => fun e_ => Nat.not_le.2 hs_ (by rw [e_]; exact a7.out)) (fun hn_ => (fb a.out k_ hn_)), Or.elim hk_ (fun hs_ => fun e_ => Nat.not_le.2 hs_ (by rw [e_]; exact a8.out)) (fun hn_ => (fb b.out k_ hn_)), Or.elim hk_ (fun hs_ => fun e_ => Nat.not_le.2 hs_ (by rw [e_]; exact a9.out)) (fun hn_ => (fb d.out k_ hn_)), Or.elim hk_ (fun hs_ => fun e_ => Nat.not_le.2 hs_ (by rw [e_]; exact dN.out)) (fun hn_ => (fb Q.out k_ hn_))⟩)) (below_size bl_)); replace a := Z (kb a.out hb); replace b := Z (kb b.out hb); replace d := Z (kb d.out hb); replace Q := Z (kb Q.out hb); replace HB := Z (below_step bl_ hb); (try clear hb); (try clear aI); (try clear hk); (try clear hi); (try clear cB); (try clear cC); (try simp only [errW_none, errW_some])) | ((with_reducible refine gate_dst (N := 9) rfl ?_); refine bx_ 9 24 #[.int .i64 0, .int .i64 0, .slice none 0 0, .int .i64 0, .bool false, .bool false] ?_; intro R hg l1 hbox hb; replace HO_466002 := Z (ve HO_466002.out hg hb); replace aJ := Z (ve aJ.out hg hb); replace ba := Z (ve ba.out hg hb); have cD := Z (hbox); have kr := Z (ln_ hg : w.heap.size ≤ R); have kp := Z (ln_ hg : w.heap.size ≤ R); replace HB := Z (below_step bl_ hb); have cv := Z (nl a.out hg); have dX := Z (ng a.out hg); replace a := Z (kb a.out hb); have cw := Z (nl b.out hg); have dY := Z (ng b.out hg); replace b := Z (kb b.out hb); have cx := Z (nl d.out hg); have dZ := Z (ng d.out hg); replace d := Z (kb d.out hb); have cy := Z (nl Q.out hg); have d0 := Z (ng Q.out hg); replace Q := Z (kb Q.out hb); clear hb hbox hg; have jN := dX.out; have j7 := cv.out; have jO := dY.out; have j8 := cw.out; have jP := dZ.out; have j9 := cx.out; have jQ := d0.out; have ka := cy.out; obtain ⟨hl, hm, hp, hq, hs, ht, iB, iC, iD, iE, iF, iG⟩ := cells6 cD.out; obtain ⟨a6, aV, gn⟩ := Kd.V_slice aJ.out; subst gn; obtain ⟨hu, hv, hx, hy, hz, hA, iH, iI, iJ, iK, iL, iM⟩ := cells6 Q.out) | (go_at_call 19; (with_reducible refine (shutterref10_Same.calls ct aM aN _ _ aK aO aP aQ S T _ _ O U W X a4 _ ?side1 ?side2 ?side3 ?side4 gD.out).mono ?_); (case side1 => refine (Kd.V_reads' (e := 44) (base := w.heap.size) (ok := fun k_ => ((k_ ≠ ad ∧ (k_ ≠ Y ∧ (k_ ≠ ae ∧ k_ ≠ j))) ∧ k_ ≠ R)) (n := aK.length) (c := aV) ?_).2.2; exact (by (with_reducible repeat apply pV); exact (Kd.V_mono (f6V R (Kd.V_mono aJ.out (fun k_ hk => (⟨hk, hk.2⟩ : _ ∧ k_ ≠ R))) (fun _ hk => hk.2)) (fun _ h_ => h_.1)))); (case side2 => exact (Kd.V_reads' aJ.out).2.1); (case side3 => refine (Kd.V_reads' (e := 44) (base := w.heap.size) (ok := fun k_ => ((k_ ≠ ad ∧ (k_ ≠ Y ∧ (k_ ≠ ae ∧ k_ ≠ j))) ∧ k_ ≠ R)) (n := O.length) (c := aw) ?_).2.2; exact (by (with_reducible repeat apply pV); exact (Kd.V_mono (f6V R (Kd.V_mono HO_466002.out (fun k_ hk => (⟨hk, hk.2⟩ : _ ∧ k_ ≠ R))) (fun _ hk => hk.2)) (fun _ h_ => h_.1)))); (case side4 => exact (Kd.V_reads' HO_466002.out).2.1); rintro e l2 ⟨rfl, hb⟩; replace HO_466002 := Z (Kd.V_below (by (with_reducible repeat apply pV); exact (Kd.V_mono (f6V R (Kd.V_mono HO_466002.out (fun k_ hk => (⟨hk, hk.2⟩ : _ ∧ k_ ≠ R))) (fun _ hk => hk.2)) (fun _ h_ => h_.1))) hb); replace aJ := Z (Kd.V_below (by (with_reducible repeat apply pV); exact (Kd.V_mono (f6V R (Kd.V_mono aJ.out (fun k_ hk => (⟨hk, hk.2⟩ : _ ∧ k_ ≠ R))) (fun _ hk => hk.2)) (fun _ h_ => h_.1))) hb); replace ba := Z (Kd.V_below (by (with_reducible repeat apply pV); exact (Kd.V_mono (f6V R (Kd.V_mono ba.out (fun k_ hk => (⟨hk, hk.2⟩ : _ ∧ k_ ≠ R))) (fun _ hk => hk.2)) (fun _ h_ => h_.1))) hb); replace a := Z (blk_below (g := ad) (o := .cells #[.int .i64 m, .int .i64 u, .slice az s.length aB, .int .i64 x, .bool l, .bool q] 24 (0, 0)) (by (with_reducible repeat apply pK); exact blk_off a.out cv.out off2_) hb); replace b := Z (blk_below (g := Y) (o := .cells #[.int .i64 z, .int .i64 F, .slice aC E.length aE, .int .i64 G, .bool l, .bool q] 24 (0, 0)) (by (with_reducible repeat apply pK); exact blk_off b.out cw.out off2_) hb); replace d := Z (blk_below (g := ae) (o := .cells #[.int .i64 i, .bool A, .bool B, .bool D, .slice aD y.length aF] 60 (0, 0)) (by (with_reducible repeat apply pK); exact blk_off d.out cx.out off2_) hb); replace Q := Z (blk_below (g := j) (o := .cells #[.int .i64 S, .int .i64 T, .slice aA O.length aw, .int .i64 U, .bool W, .bool X] 24 (0, 0)) (by (with_reducible repeat apply pK); exact blk_off Q.out cy.out off2_) hb); replace cD := Z (blk_below (g := R) (o := .cells #[.int .i64 aM, .int .i64 aN, .slice a6 aK.length aV, .int .i64 aO, .bool aP, .bool aQ] 24 (0, 0)) (put6 cD.out) hb); replace HB := Z (below_step bl_ hb); (try clear hb); (try clear aI); (try clear hk); (try clear hi)))
             go_ret
             exact ⟨er_, bl_⟩
            ·have H1 : (none) = some r := by rw [if_neg (show ¬ (some jk).isNone = true by simp)] at H; exact H
             clear H
             have H := H1
             clear H1
             try simp only [errW_none, errW_some]
             exact absurd H (by simp)
     ·replace cK := Bool.eq_false_iff.mpr cK
      subst cK
      have H1 : (none) = some r := by rw [if_neg (show ¬ (false = true) by decide)] at H; exact H
      clear H
      have H := H1
      clear H1
      exact absurd H (by simp)
    ·have H1 : ((shutterref10_Same.f au S T O U W X m u s x l q).bind fun a5 => (some a5)) = some r := by rw [if_neg (show ¬ (some dS).isNone = true by simp)] at H; exact H
     clear H
     have H := H1
     clear H1
     try simp only [errW_none, errW_some]
     replace H := Option.bind_eq_some_iff.mp H
     obtain ⟨a5, eh, H⟩ := H
     replace H : (some a5) = some r := H
     have gE := Z eh
     clear eh
     obtain rfl := Option.some.inj H
     have jR := ak.out
     have kc := ao.out
     have jS := af.out
     have kd := ag.out
     obtain ⟨hB, hC, hD, hE, hF, hH, iN, iO, iP, iQ, iR, iS⟩ := cells6 a.out
     have jT := ah.out
     have ke := al.out
     obtain ⟨hI, hJ, hK, hL, hM, iT, iU, iV, iW, iX⟩ := cells5 d.out
     go_wp2_with (first | ((with_reducible refine gate_callee (f := 31) rfl ?_); refine goesL_ (some 32) rfl rfl Tryd.func31 (by kernel_rfl) rfl #[.agg #[.int .i64 m, .int .i64 u, .slice az s.length aB, .int .i64 x, .bool l, .bool q], .agg #[.int .i64 i, .bool A, .bool B, .bool D, .slice aD y.length aF]] rfl ag_ ?_; (with_reducible refine (host_Do.calls au m u (fun k_ => k_ < w.heap.size) _ _ s x l q i A B D _ _ y S T O U W X (some dS) gk _ ?side1 ?side2 ?side3 gq.out).mono ?_); (case side1 => exact Kd.V_mk aR.out (Kd.F_below (Kd.C_F k44_heap aS.out) bl_)); (case side2 => repeat (first | exact (Kd.C_below cF.out HB.out) | (with_reducible apply pC))); (case side3 => exact cE.out); rintro e l3 ⟨jm, jn, rfl, cB, cC, hb⟩; refine ⟨_, rfl, ?_⟩; have aj := Z (Kd.V_lower (Kd.V_mono (ok' := fun k_ => k_ ≠ ad ∧ k_ ≠ Y ∧ k_ ≠ ae) cB (fun k_ hk_ => ⟨Or.elim hk_ (fun hs_ => fun e_ => Nat.not_le.2 hs_ (by rw [e_]; exact a7.out)) (fun hn_ => (fb a.out k_ hn_)), Or.elim hk_ (fun hs_ => fun e_ => Nat.not_le.2 hs_ (by rw [e_]; exact a8.out)) (fun hn_ => (fb b.out k_ hn_)), Or.elim hk_ (fun hs_ => fun e_ => Nat.not_le.2 hs_ (by rw [e_]; exact a9.out)) (fun hn_ => (fb d.out k_ hn_))⟩)) (below_size bl_)); have ay := Z (Kd.V_lower (Kd.V_mono (ok' := fun k_ => k_ ≠ ad ∧ k_ ≠ Y ∧ k_ ≠ ae) cC (fun k_ hk_ => ⟨Or.elim hk_ (fun hs_ => fun e_ => Nat.not_le.2 hs_ (by rw [e_]; exact a7.out)) (fun hn_ => (fb a.out k_ hn_)), Or.elim hk_ (fun hs_ => fun e_ => Nat.not_le.2 hs_ (by rw [e_]; exact a8.out)) (fun hn_ => (fb b.out k_ hn_)), Or.elim hk_ (fun hs_ => fun e_ => Nat.not_le.2 hs_ (by rw [e_]; exact a9.out)) (fun hn_ => (fb d.out k_ hn_))⟩)) (below_size bl_)); replace a := Z (kb a.out hb); replace b := Z (kb b.out hb); replace d := Z (kb d.out hb); replace HB := Z (below_step bl_ hb); (try clear hb); (try clear aI); (try clear hk); (try clear hi); (try clear cB); (try clear cC); (try simp only [errW_none, errW_some])) | ((with_reducible refine gate_dst (N := 7) rfl ?_); refine bx_ 7 24 #[.int .i64 0, .int .i64 0, .slice none 0 0, .int .i64 0, .bool false, .bool false] ?_; intro j hg l4 hbox hb; replace aj := Z (ve aj.out hg hb); replace ay := Z (ve ay.out hg hb); have Q := Z (hbox); have dN := Z (ln_ hg : w.heap.size ≤ j); have gm := Z (ln_ hg : w.heap.size ≤ j); replace HB := Z (below_step bl_ hb); have an := Z (nl a.out hg); have av := Z (ng a.out hg); replace a := Z (kb a.out hb); have ap := Z (nl b.out hg); have aq := Z (ng b.out hg); replace b := Z (kb b.out hb); have ai := Z (nl d.out hg); have am := Z (ng d.out hg); replace d := Z (kb d.out hb); clear hb hbox hg; have jU := av.out; have kf := an.out; have jV := aq.out; have kg := ap.out; have jW := am.out; have kh := ai.out; obtain ⟨hN, hO, hP, hQ, hR, hS, iY, iZ, ja, jb, jc, jd⟩ := cells6 Q.out; obtain ⟨be, bc, go⟩ := Kd.V_slice aj.out; subst go; obtain ⟨hT, hU, hV, hW, hX, hY, je, jf, jg, jh, ji, jj⟩ := cells6 a.out) | ((with_reducible refine gate_callee (f := 19) rfl ?_); refine goesL_ (some 39) rfl rfl Tryd.func19 (by kernel_rfl) rfl #[.agg #[.int .i64 S, .int .i64 T, .slice be O.length bc, .int .i64 U, .bool W, .bool X], .agg #[.int .i64 m, .int .i64 u, .slice az s.length aB, .int .i64 x, .bool l, .bool q]] rfl ag_ ?_; (with_reducible refine (shutterref10_Same.calls au S T _ _ O U W X m u _ _ s x l q a5 _ ?side1 ?side2 ?side3 ?side4 gE.out).mono ?_); (case side1 => refine (Kd.V_reads' (e := 44) (base := w.heap.size) (ok := fun k_ => ((k_ ≠ ad ∧ (k_ ≠ Y ∧ k_ ≠ ae)) ∧ k_ ≠ j)) (n := O.length) (c := bc) ?_).2.2; exact (by (with_reducible repeat apply pV); exact (Kd.V_mono (f6V j (Kd.V_mono aj.out (fun k_ hk => (⟨hk, hk.2⟩ : _ ∧ k_ ≠ j))) (fun _ hk => hk.2)) (fun _ h_ => h_.1)))); (case side2 => exact (Kd.V_reads' aj.out).2.1); (case side3 => exact Kd.C_below aS.out bl_); (case side4 => exact aR.out); rintro e l5 ⟨rfl, hb⟩; refine ⟨_, rfl, ?_⟩; replace aj := Z (Kd.V_below (by (with_reducible repeat apply pV); exact (Kd.V_mono (f6V j (Kd.V_mono aj.out (fun k_ hk => (⟨hk, hk.2⟩ : _ ∧ k_ ≠ j))) (fun _ hk => hk.2)) (fun _ h_ => h_.1))) hb); replace ay := Z (Kd.V_below (by (with_reducible repeat apply pV); exact (Kd.V_mono (f6V j (Kd.V_mono ay.out (fun k_ hk => (⟨hk, hk.2⟩ : _ ∧ k_ ≠ j))) (fun _ hk => hk.2)) (fun _ h_ => h_.1))) hb); replace a := Z (blk_below (g := ad) (o := .cells #[.int .i64 m, .int .i64 u, .slice az s.length aB, .int .i64 x, .bool l, .bool q] 24 (0, 0)) (by (with_reducible repeat apply pK); exact blk_off a.out an.out off2_) hb); replace b := Z (blk_below (g := Y) (o := .cells #[.int .i64 z, .int .i64 F, .slice aC E.length aE, .int .i64 G, .bool P, .bool M] 24 (0, 0)) (by (with_reducible repeat apply pK); exact blk_off b.out ap.out off2_) hb); replace d := Z (blk_below (g := ae) (o := .cells #[.int .i64 i, .bool A, .bool B, .bool D, .slice aD y.length aF] 60 (0, 0)) (by (with_reducible repeat apply pK); exact blk_off d.out ai.out off2_) hb); replace Q := Z (blk_below (g := j) (o := .cells #[.int .i64 S, .int .i64 T, .slice be O.length bc, .int .i64 U, .bool W, .bool X] 24 (0, 0)) (put6 Q.out) hb); replace HB := Z (below_step bl_ hb); (try clear hb); (try clear aI); (try clear hk); (try clear hi)))
     go_ret
     exact ⟨er_, bl_⟩

end Go.Proofs.YtgboplhcjhlabaaDoor.P
