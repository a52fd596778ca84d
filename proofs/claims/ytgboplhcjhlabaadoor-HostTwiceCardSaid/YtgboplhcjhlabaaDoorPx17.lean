/- pp.py and press2.py (wip/tools) wrote this text. -/
import Derived.Test.YtgboplhcjhlabaaDoorPx0
import Derived.Test.YtgboplhcjhlabaaDoorPxS
import Derived.Test.YtgboplhcjhlabaaDoorPx0L
import Derived.Test.YtgboplhcjhlabaaDoorPx2
namespace Go.Proofs.YtgboplhcjhlabaaDoor.P
open Go.RowKit Go.Proofs.YtgboplhcjhlabaaDoorW.PrintWords Go.Proofs.YtgboplhcjhlabaaDoorW.PrintLast Go.Proofs.YtgboplhcjhlabaaDoorW.PrintMore
attribute [local go_sem] max2_int min2_int max_two min_two max_three min_three max_four min_four
attribute [local go_sem] Instr.field asAgg
set_option linter.unusedVariables false
set_option linter.unusedSimpArgs false

attribute [local go_sem high] eqA44
/-! ### shutterref08_Few: function 33 -/
mutual
def shutterref08_Few.l0 : Nat → Int → Int → Bool → Bool → Bool → List (S30) → Option (Bool)
 | 0, _, _, _, _, _, _ => none
 | k + 1, f, b, c, d, e, a => if f < (a.length : Int) then (shutterref08_Few.j1 k f (decide (f < 100)) b c d e a) else (shutterref08_Few.j1 k f false b c d e a)
def shutterref08_Few.j1 : Nat → Int → Bool → Int → Bool → Bool → Bool → List (S30) → Option (Bool)
 | 0, _, _, _, _, _, _, _ => none
 | k + 1, f, x12, b, c, d, e, a => if x12 = true then (if 0 ≤ f then (if f < (a.length : Int) then (if (((rd_T30 a f).f1).length : Int) > 9000 then (some false) else (shutterref08_Few.l0 k (wrap64 (f + 1)) b c d e a)) else (none)) else (none)) else (some (decide ((a.length : Int) ≤ 60)))
end
def shutterref08_Few.f (k : Nat) (a : Int) (b : Bool) (c : Bool) (d : Bool) (e : List (S30)) : Option (Bool) := shutterref08_Few.l0 k 0 a b c d e
theorem shutterref08_Few.mono_l : ∀ k, (∀ a b c d e f, LeO (shutterref08_Few.l0 k a b c d e f) (shutterref08_Few.l0 (k + 1) a b c d e f)) ∧ (∀ a b c d e f j, LeO (shutterref08_Few.j1 k a b c d e f j) (shutterref08_Few.j1 (k + 1) a b c d e f j))
 | 0 => ⟨fun _ _ _ _ _ _ r h => by simp [shutterref08_Few.l0] at h, fun _ _ _ _ _ _ _ r h => by simp [shutterref08_Few.j1] at h⟩
 | k + 1 => by
  obtain ⟨g, i⟩ := shutterref08_Few.mono_l k
  refine ⟨?_, ?_⟩
  ·intro a b c d e f
   unfold shutterref08_Few.l0
   repeat' first
   | (with_reducible exact g _ _ _ _ _ _)
   | (with_reducible exact i _ _ _ _ _ _ _)
   | (with_reducible exact LeO.refl _)
   | (with_reducible exact LeO.none _)
   | (with_reducible refine LeO.ite ?_ ?_)
   | (with_reducible refine LeO.bind ?_ (fun _ => ?_))
   | exact g _ _ _ _ _ _
   | exact i _ _ _ _ _ _ _
   | exact LeO.none _
   | refine LeO.ite ?_ ?_
   | refine LeO.bind ?_ (fun _ => ?_)
  ·intro a b c d e f j
   unfold shutterref08_Few.j1
   repeat' first
   | (with_reducible exact g _ _ _ _ _ _)
   | (with_reducible exact i _ _ _ _ _ _ _)
   | (with_reducible exact LeO.refl _)
   | (with_reducible exact LeO.none _)
   | (with_reducible refine LeO.ite ?_ ?_)
   | (with_reducible refine LeO.bind ?_ (fun _ => ?_))
   | exact g _ _ _ _ _ _
   | exact i _ _ _ _ _ _ _
   | exact LeO.none _
   | refine LeO.ite ?_ ?_
   | refine LeO.bind ?_ (fun _ => ?_)
theorem shutterref08_Few.mono : ∀ a0 a1 c d a4 k, LeO (shutterref08_Few.f k a0 a1 c d a4) (shutterref08_Few.f (k + 1) a0 a1 c d a4) := by
 intro a0 a1 c d a4 k
 obtain ⟨a, b⟩ := shutterref08_Few.mono_l k
 unfold shutterref08_Few.f
 repeat' first
   | (with_reducible exact a _ _ _ _ _ _)
   | (with_reducible exact b _ _ _ _ _ _ _)
   | (with_reducible exact LeO.refl _)
   | (with_reducible exact LeO.none _)
   | (with_reducible refine LeO.ite ?_ ?_)
   | (with_reducible refine LeO.bind ?_ (fun _ => ?_))
   | exact a _ _ _ _ _ _
   | exact b _ _ _ _ _ _ _
   | exact LeO.none _
   | refine LeO.ite ?_ ?_
   | refine LeO.bind ?_ (fun _ => ?_)
set_option maxHeartbeats 8000000 in
set_option maxRecDepth 100000 in
theorem shutterref08_Few.calls (k : Nat) (s : Int) (u : Bool) (v : Bool) (x : Bool) (E : Option Addr) (F : Nat) (b : List (S30)) (r : Bool) (w : World) (L : Kd.C k30 w E b.length b) (K : b.length ≤ F) (h : shutterref08_Few.f k s u v x b = some r) :
  Calls Tryd.prog 33 #[.agg #[.int .i64 s, .bool u, .bool v, .bool x, .slice E b.length F]] w fun e w' => e = .returned (.bool r) ∧ Below w.heap.size w w' := by
 have a8 := Tryd.underlying60
 have J := Z L
 have a5 := Z K
 clear L K
 have HB := Z (Below.refl w.heap.size w)
 have H : (shutterref08_Few.l0 k 0 s u v x b) = some r := h
 clear h
 have H' := Z H
 clear H
 go_enter Tryd.func33, Tryd.ntmps33
 go_wp2_with (first | ((with_reducible refine gate_dst (N := 1) rfl ?_); refine bx_ 1 60 #[.int .i64 s, .bool u, .bool v, .bool x, .slice E b.length F] ?_; intro B hg w2 hbox hb; have c := Z (hbox); have a4 := Z (ln_ hg : w.heap.size ≤ B); have a3 := Z (ln_ hg : w.heap.size ≤ B); replace HB := Z (below_step bl_ hb); clear hb hbox hg))
 go_loopg [3] k (fun kq v3 w' => ∃ (a : Int), v3 = .int .i64 a ∧ Aside0 (shutterref08_Few.l0 kq a s u v x b = some r) ∧ Aside0 (kq ≤ k) ∧ Aside0 (w'.heap[B]? = some (.cells #[.int .i64 s, .bool u, .bool v, .bool x, (.slice E b.length F)] 60 (0, 0))) ∧ Aside0 (Below w.heap.size w w'))
 case atStart => exact ⟨(0), (dn_), H', ⟨Nat.le_refl _⟩, ⟨vK c.out⟩, ⟨bl_⟩⟩
 case round =>
  clear H'
  try clear p2
  obtain ⟨a, rfl, HA, I, c, HB⟩ := hrel
  cases gk with
  | zero => exact absurd HA.out (by simp [shutterref08_Few.l0])
  | succ k1 =>
   have H := HA.out
   clear HA
   simp only [shutterref08_Few.l0] at H
   have Q := Z H
   clear H
   go_upto_region 2 with (fail)
   go_cut [12] (fun a2 wc => ∃ (kq : Nat) (D : Bool), a2 = .bool D ∧ Aside0 (shutterref08_Few.j1 kq a D s u v x b = some r) ∧ Aside0 (kq ≤ k1) ∧ Aside0 (wc.heap[B]? = some (.cells #[.int .i64 s, .bool u, .bool v, .bool x, (.slice E b.length F)] 60 (0, 0))) ∧ Aside0 (Below w.heap.size w wc))
   case first =>
    have H := Q.out
    clear Q
    by_cases c4 : a < (b.length : Int)
    ·rw [if_pos c4] at H
     have A : decide (a < (b.length : Int)) = true := decide_eq_true c4
     clear c4
     (first | rw [A] | (simp only [i64_w, i32_w]; rw [A]) | skip)
     have H' := Z H
     clear H
     obtain ⟨S, T, U, V, W, ad, ae, af, ag, ah⟩ := cells5 c.out
     go_wp2
     go_meet
     case rel => exact ⟨_, (decide (a < 100)), (dn_), H', ⟨by have := I.out; first | omega | exact Nat.le_refl _⟩, ⟨vK c.out⟩, ⟨bl_⟩⟩
    ·rw [if_neg c4] at H
     have A : decide (a < (b.length : Int)) = false := decide_eq_false c4
     clear c4
     (first | rw [A] | (simp only [i64_w, i32_w]; rw [A]) | skip)
     have H' := Z H
     clear H
     obtain ⟨X, Y, aa, ab, ac, ai, aj, ak, al, am⟩ := cells5 c.out
     go_wp2
     go_meet
     case rel => exact ⟨_, (false), (dn_), H', ⟨by have := I.out; first | omega | exact Nat.le_refl _⟩, ⟨vK c.out⟩, ⟨bl_⟩⟩
   case rest =>
    clear Q
    try clear p2
    try clear c3
    try clear c4
    try clear A
    try clear S
    try clear T
    try clear U
    try clear V
    try clear W
    try clear X
    try clear Y
    try clear aa
    try clear ab
    try clear ac
    try clear ad
    try clear ae
    try clear af
    try clear ag
    try clear ah
    try clear ai
    try clear aj
    try clear ak
    try clear al
    try clear am
    try clear p2
    obtain ⟨kq, D, rfl, HA, aq, c, HB⟩ := hcut
    cases kq with
    | zero => exact absurd HA.out (by simp [shutterref08_Few.j1])
    | succ ar =>
     have H := HA.out
     clear HA
     simp only [shutterref08_Few.j1] at H
     by_cases c7 : D = true
     ·subst c7
      have H1 : (if 0 ≤ a then (if a < (b.length : Int) then (if (((rd_T30 b a).f1).length : Int) > 9000 then (some false) else (shutterref08_Few.l0 ar (wrap64 (a + 1)) s u v x b)) else (none)) else (none)) = some r := by rw [if_pos rfl] at H; exact H
      clear H
      have H := H1
      clear H1
      by_cases c8 : 0 ≤ a
      ·rw [if_pos c8] at H
       have a6 : decide (0 ≤ a) = true := decide_eq_true c8
       clear c8
       by_cases c9 : a < (b.length : Int)
       ·rw [if_pos c9] at H
        have a7 : decide (a < (b.length : Int)) = true := decide_eq_true c9
        clear c9
        by_cases c10 : (((rd_T30 b a).f1).length : Int) > 9000
        ·rw [if_pos c10] at H
         have ao : decide (9000 < (((rd_T30 b a).f1).length : Int)) = true := decide_eq_true c10
         have ap : decide (9000 < ((rd_T30 b a).f1).length) = true := decide_eq_true (by omega)
         clear c10
         obtain rfl := Option.some.inj H
         obtain ⟨ay, az, aA, aB, aC, aN, aO, aP, aQ, aR⟩ := cells5 c.out
         have y : 0 ≤ (a : Int) := od_
         have z : a < (b.length : Int) := od_
         obtain ⟨an, P, R, G, d, g, i, j, l, m, n, o, q, p⟩ := at_T30 J.out a y z
         cases G
         replace d := (HB.out.cell (bk_ w _ d)).trans d
         replace g := (HB.out.cell (bk_ w _ g)).trans g
         replace i := (HB.out.cell (bk_ w _ i)).trans i
         replace j := (HB.out.cell (bk_ w _ j)).trans j
         replace l := (HB.out.cell (bk_ w _ l)).trans l
         replace m := (HB.out.cell (bk_ w _ m)).trans m
         replace n := (HB.out.cell (bk_ w _ n)).trans n
         replace o := (HB.out.cell (bk_ w _ o)).trans o
         have O := Z p
         have M := Z q
         clear p q
         replace y := eq_true y
         replace z := eq_true z
         go_wp2
         go_ret
         exact ⟨er_, bl_⟩
        ·rw [if_neg c10] at H
         have ao : decide (9000 < (((rd_T30 b a).f1).length : Int)) = false := decide_eq_false c10
         have ap : decide (9000 < ((rd_T30 b a).f1).length) = false := decide_eq_false (by omega)
         clear c10
         have H' := Z H
         clear H
         obtain ⟨aD, aE, aF, aG, aH, aS, aT, aU, aV, aW⟩ := cells5 c.out
         have y : 0 ≤ (a : Int) := od_
         have z : a < (b.length : Int) := od_
         obtain ⟨an, P, R, G, d, g, i, j, l, m, n, o, q, p⟩ := at_T30 J.out a y z
         cases G
         replace d := (HB.out.cell (bk_ w _ d)).trans d
         replace g := (HB.out.cell (bk_ w _ g)).trans g
         replace i := (HB.out.cell (bk_ w _ i)).trans i
         replace j := (HB.out.cell (bk_ w _ j)).trans j
         replace l := (HB.out.cell (bk_ w _ l)).trans l
         replace m := (HB.out.cell (bk_ w _ m)).trans m
         replace n := (HB.out.cell (bk_ w _ n)).trans n
         replace o := (HB.out.cell (bk_ w _ o)).trans o
         have O := Z p
         have M := Z q
         clear p q
         replace y := eq_true y
         replace z := eq_true z
         go_wp2
         go_roundg ar
         case measure => have := I.out; have := aq.out; omega
         case rel => exact ⟨(wrap64 (a + 1)), (dn_), H', ⟨by have := I.out; have := aq.out; omega⟩, ⟨vK c.out⟩, ⟨bl_⟩⟩
       ·rw [if_neg c9] at H
        exact absurd H (by simp)
      ·rw [if_neg c8] at H
       exact absurd H (by simp)
     ·replace c7 := Bool.eq_false_iff.mpr c7
      subst c7
      have H1 : (some (decide ((b.length : Int) ≤ 60))) = some r := by rw [if_neg (show ¬ (false = true) by decide)] at H; exact H
      clear H
      have H := H1
      clear H1
      obtain rfl := Option.some.inj H
      obtain ⟨aI, aJ, aK, aL, aM, aX, aY, aZ, a0, a1⟩ := cells5 c.out
      go_wp2
      go_ret
      exact ⟨er_, bl_⟩

end Go.Proofs.YtgboplhcjhlabaaDoor.P
