/- pp.py and press2.py (wip/tools) wrote this text. -/
import Derived.Test.YtgboplhcjhlabaaDoorPx0
import Derived.Test.YtgboplhcjhlabaaDoorPxS
import Derived.Test.YtgboplhcjhlabaaDoorPx0L
import Derived.Test.YtgboplhcjhlabaaDoorPx4
import Derived.Test.YtgboplhcjhlabaaDoorPx10
import Derived.Test.YtgboplhcjhlabaaDoorPx13
import Derived.Test.YtgboplhcjhlabaaDoorPx15
namespace Go.Proofs.YtgboplhcjhlabaaDoor.P
open Go.RowKit Go.Proofs.YtgboplhcjhlabaaDoorW.PrintWords Go.Proofs.YtgboplhcjhlabaaDoorW.PrintLast Go.Proofs.YtgboplhcjhlabaaDoorW.PrintMore
attribute [local go_sem] max2_int min2_int max_two min_two max_three min_three max_four min_four
attribute [local go_sem] Instr.field asAgg
set_option linter.unusedVariables false
set_option linter.unusedSimpArgs false

/-- At this world alone. -/
theorem gateW_ {P : Program} {ops : Array Oper} {l : List Oper} {a : Act} {Q : Exit → Act → World → Prop} (W : World) (h : wpList P ops Q l a W) : wpList P ops Q l a W := h
/-- A screen stored whole into a variable in memory. -/
theorem stS_ {a : Act} {o : Oper} {W : World} {g p q : Nat} {x0 x1 x3 : Int} {A : Option Addr} {n c : Nat} {b4 b5 : Bool} {c0 c1 c2 c3 c4 c5 : Value} (ho : o.op = .store 24 (.tmp p) (.tmp q)) (hp : a.eval (.tmp p) = .pointer (some ⟨g, 0, none⟩)) (hq : a.eval (.tmp q) = .agg #[.int .i64 x0, .int .i64 x1, .slice A n c, .int .i64 x3, .bool b4, .bool b5]) (hb : W.heap[g]? = some (.cells #[c0, c1, c2, c3, c4, c5] 24 (0, 0))) :
    (execOp a.eval o).run Tryd.prog W = .ok .skip ((((((W.setCell ⟨g, 0, none⟩ (.int .i64 x0)).setCell ⟨g, 1, none⟩ (.int .i64 x1)).setCell ⟨g, 2, none⟩ (.slice A n c)).setCell ⟨g, 3, none⟩ (.int .i64 x3)).setCell ⟨g, 4, none⟩ (.bool b4)).setCell ⟨g, 5, none⟩ (.bool b5)) := by
  have hu := Tryd.underlying24
  obtain ⟨z0, z1, z2, z3, z4, z5, y0, y1, y2, y3, y4, y5⟩ := cells6 hb
  clear hb
  unfold execOp
  rw [ho]
  simp only [hp, hq]
  go_simp
/-! ### host_Do: function 31 -/
mutual
def host_Do.j0 : Nat → Int → Int → List (S44) → Int → Bool → Bool → Int → Bool → Bool → Bool → List (S30) → Int → Int → List (S44) → Int → Bool → Bool → Option (Int × Int × (List (S44)) × Int × Bool × Bool × Option Er × (List (S184)))
 | 0, _, _, _, _, _, _, _, _, _, _, _, _, _, _, _, _, _ => none
 | k + 1, c, d, e, g, h, i, j, l, m, b, n, o, p, q, r, s, t => if b = true then ((host_Reset.f o p q r s t true).bind fun a => (host_Do.j1 k c d e g h i j l m b n a.1 a.2.1 a.2.2.1 a.2.2.2.1 a.2.2.2.2.1 a.2.2.2.2.2)) else (host_Do.j1 k c d e g h i j l m b n o p q r s t)
def host_Do.j1 : Nat → Int → Int → List (S44) → Int → Bool → Bool → Int → Bool → Bool → Bool → List (S30) → Int → Int → List (S44) → Int → Bool → Bool → Option (Int × Int × (List (S44)) × Int × Bool × Bool × Option Er × (List (S184)))
 | 0, _, _, _, _, _, _, _, _, _, _, _, _, _, _, _, _, _ => none
 | k + 1, d, e, g, h, i, j, s, t, l, u, m, n, o, p, c, q, r => (paint_All.f k n o p c q r c m).bind fun a => (if a.2.2.2.2.2.2.2.1.isNone = true then (if l = true then ((host_unlocked.f a.1 a.2.1 a.2.2.1 a.2.2.2.1 a.2.2.2.2.1 a.2.2.2.2.2.1).bind fun b => (some (b.1, b.2.1, b.2.2.1, b.2.2.2.1, b.2.2.2.2.1, b.2.2.2.2.2, none, ([] : List (S184))))) else (some (a.1, a.2.1, a.2.2.1, a.2.2.2.1, a.2.2.2.2.1, a.2.2.2.2.2.1, none, ([] : List (S184))))) else (some (d, e, g, h, i, j, some (a.2.2.2.2.2.2.2.1.getD ez), a.2.2.2.2.2.2.2.2)))
end
def host_Do.f (k : Nat) (e : Int) (g : Int) (l : List (S44)) (h : Int) (i : Bool) (j : Bool) (d : Int) (n : Bool) (o : Bool) (p : Bool) (q : List (S30)) : Option (Int × Int × (List (S44)) × Int × Bool × Bool × Option Er × (List (S184))) := (grid_Size.f e g l h i j).bind fun r => ((stream_Write.f k d n o p q r).bind fun m => (if m.2.1.isNone = true then ((grid_Copy.f e g l h i j).bind fun a => (if d = 245 then (if 0 < (a.2.2.1.length : Int) then (host_Do.j0 k e g l h i j d n o p q a.1 a.2.1 (List.replicate a.2.2.1.length z44) 0 a.2.2.2.2.1 a.2.2.2.2.2) else (none)) else (if d = 241 then (host_Do.j0 k e g l h i j d n o p q a.1 a.2.1 a.2.2.1 a.2.2.2.1 a.2.2.2.2.1 a.2.2.2.2.2) else (if d = 111 then ((host_clean.f k a.1 a.2.1 a.2.2.1 a.2.2.2.1 a.2.2.2.2.1 a.2.2.2.2.2).bind fun b => ((host_unlocked.f b.1 b.2.1 b.2.2.1 b.2.2.2.1 b.2.2.2.2.1 b.2.2.2.2.2).bind fun c => (some (c.1, c.2.1, c.2.2.1, c.2.2.2.1, c.2.2.2.2.1, c.2.2.2.2.2, none, ([] : List (S184)))))) else (some (a.1, a.2.1, a.2.2.1, a.2.2.2.1, a.2.2.2.2.1, a.2.2.2.2.2, none, ([] : List (S184)))))))) else (some (e, g, l, h, i, j, some (m.2.1.getD ez), m.2.2))))
theorem host_Do.mono_l : ∀ k, (∀ i j l m n o p q s t a b c d e f g, LeO (host_Do.j0 k i j l m n o p q s t a b c d e f g) (host_Do.j0 (k + 1) i j l m n o p q s t a b c d e f g)) ∧ (∀ i j l m n o p q s t a b c d e f g, LeO (host_Do.j1 k i j l m n o p q s t a b c d e f g) (host_Do.j1 (k + 1) i j l m n o p q s t a b c d e f g))
 | 0 => ⟨fun _ _ _ _ _ _ _ _ _ _ _ _ _ _ _ _ _ r h => by simp [host_Do.j0] at h, fun _ _ _ _ _ _ _ _ _ _ _ _ _ _ _ _ _ r h => by simp [host_Do.j1] at h⟩
 | k + 1 => by
  obtain ⟨u, v⟩ := host_Do.mono_l k
  refine ⟨?_, ?_⟩
  ·intro i j l m n o p q s t a b c d e f g
   unfold host_Do.j0
   repeat' first
   | (with_reducible exact u _ _ _ _ _ _ _ _ _ _ _ _ _ _ _ _ _)
   | (with_reducible exact v _ _ _ _ _ _ _ _ _ _ _ _ _ _ _ _ _)
   | (with_reducible exact host_clean.mono _ _ _ _ _ _ _)
   | (with_reducible exact paint_All.mono _ _ _ _ _ _ _ _ _)
   | (with_reducible exact stream_Write.mono _ _ _ _ _ _ _)
   | (with_reducible exact LeO.refl _)
   | (with_reducible exact LeO.none _)
   | (with_reducible refine LeO.ite ?_ ?_)
   | (with_reducible refine LeO.bind ?_ (fun _ => ?_))
   | exact u _ _ _ _ _ _ _ _ _ _ _ _ _ _ _ _ _
   | exact v _ _ _ _ _ _ _ _ _ _ _ _ _ _ _ _ _
   | exact host_clean.mono _ _ _ _ _ _ _
   | exact paint_All.mono _ _ _ _ _ _ _ _ _
   | exact stream_Write.mono _ _ _ _ _ _ _
   | exact LeO.none _
   | refine LeO.ite ?_ ?_
   | refine LeO.bind ?_ (fun _ => ?_)
  ·intro i j l m n o p q s t a b c d e f g
   unfold host_Do.j1
   repeat' first
   | (with_reducible exact u _ _ _ _ _ _ _ _ _ _ _ _ _ _ _ _ _)
   | (with_reducible exact v _ _ _ _ _ _ _ _ _ _ _ _ _ _ _ _ _)
   | (with_reducible exact host_clean.mono _ _ _ _ _ _ _)
   | (with_reducible exact paint_All.mono _ _ _ _ _ _ _ _ _)
   | (with_reducible exact stream_Write.mono _ _ _ _ _ _ _)
   | (with_reducible exact LeO.refl _)
   | (with_reducible exact LeO.none _)
   | (with_reducible refine LeO.ite ?_ ?_)
   | (with_reducible refine LeO.bind ?_ (fun _ => ?_))
   | exact u _ _ _ _ _ _ _ _ _ _ _ _ _ _ _ _ _
   | exact v _ _ _ _ _ _ _ _ _ _ _ _ _ _ _ _ _
   | exact host_clean.mono _ _ _ _ _ _ _
   | exact paint_All.mono _ _ _ _ _ _ _ _ _
   | exact stream_Write.mono _ _ _ _ _ _ _
   | exact LeO.none _
   | refine LeO.ite ?_ ?_
   | refine LeO.bind ?_ (fun _ => ?_)
theorem host_Do.mono : ∀ a0 a1 d e a4 g h i j l a k, LeO (host_Do.f k a0 a1 d e a4 g h i j l a) (host_Do.f (k + 1) a0 a1 d e a4 g h i j l a) := by
 intro a0 a1 d e a4 g h i j l a k
 obtain ⟨b, c⟩ := host_Do.mono_l k
 unfold host_Do.f
 repeat' first
   | (with_reducible exact b _ _ _ _ _ _ _ _ _ _ _ _ _ _ _ _ _)
   | (with_reducible exact c _ _ _ _ _ _ _ _ _ _ _ _ _ _ _ _ _)
   | (with_reducible exact host_clean.mono _ _ _ _ _ _ _)
   | (with_reducible exact paint_All.mono _ _ _ _ _ _ _ _ _)
   | (with_reducible exact stream_Write.mono _ _ _ _ _ _ _)
   | (with_reducible exact LeO.refl _)
   | (with_reducible exact LeO.none _)
   | (with_reducible refine LeO.ite ?_ ?_)
   | (with_reducible refine LeO.bind ?_ (fun _ => ?_))
   | exact b _ _ _ _ _ _ _ _ _ _ _ _ _ _ _ _ _
   | exact c _ _ _ _ _ _ _ _ _ _ _ _ _ _ _ _ _
   | exact host_clean.mono _ _ _ _ _ _ _
   | exact paint_All.mono _ _ _ _ _ _ _ _ _
   | exact stream_Write.mono _ _ _ _ _ _ _
   | exact LeO.none _
   | refine LeO.ite ?_ ?_
   | refine LeO.bind ?_ (fun _ => ?_)
def host_Do.T1 : Bool × List (List Nat × List Nat) := (true, [([], []), ([], []), ([1], [1]), ([0, 2, 2], [0, 2]), ([3], [3]), ([4], [4]), ([4], [4]), ([5, 3, 0, 1, 2, 3, 4, 5], [5]), ([6, 7, 0, 1, 2, 3, 4, 5, 6, 7], [6])])
def host_Do.B1 : List Nat := [0, 0, 2, 7, 15, 31, 31, 63, 255]
theorem host_Do.tab1 : rtab .any (opsOf Tryd.f31 1) = host_Do.T1 := by kernel_rfl
theorem host_Do.bits1 : waitsOk host_Do.T1.2 host_Do.B1 = true := by kernel_rfl
set_option maxHeartbeats 8000000 in
set_option maxRecDepth 100000 in
theorem host_Do.calls (k : Nat) (G : Int) (J : Int) (au : Nat → Prop) (av : Option Addr) (aw : Nat) (x : List (S44)) (O : Int) (P : Bool) (Q : Bool) (y : Int) (am : Bool) (aj : Bool) (ar : Bool) (aU : Option Addr) (aV : Nat) (ac : List (S30)) (r1 : Int) (r2 : Int) (r3 : List (S44)) (r4 : Int) (r5 : Bool) (r6 : Bool) (r7 : Option Er) (r8 : List (S184)) (w : World) (hN : Kd.V k44 44 w w.heap.size (fun k_ => au k_) (.slice av x.length aw) x) (fr : Kd.C k30 w aU ac.length ac) (fq : ac.length ≤ aV) (h : host_Do.f k G J x O P Q y am aj ar ac = some (r1, r2, r3, r4, r5, r6, r7, r8)) :
  Calls Tryd.prog 31 #[.agg #[.int .i64 G, .int .i64 J, .slice av x.length aw, .int .i64 O, .bool P, .bool Q], .agg #[.int .i64 y, .bool am, .bool aj, .bool ar, .slice aU ac.length aV]] w fun e w' => ∃ hR hS : Value, e = .returned (.tuple #[.agg #[.int .i64 r1, .int .i64 r2, hR, .int .i64 r4, .bool r5, .bool r6], errW hS r7]) ∧ Kd.V k44 44 w' w.heap.size (fun k_ => (au k_ ∨ w.heap.size ≤ k_)) hR r3 ∧ Kd.V k184 184 w' w.heap.size (fun k_ => (au k_ ∨ w.heap.size ≤ k_)) hS r8 ∧ Below w.heap.size w w' := by
 have ox := Tryd.underlying24
 have oz := Tryd.underlying60
 have oy := Tryd.underlying34
 have oA := Tryd.underlying75
 have s := Z (show Kd.V k44 44 w w.heap.size (fun k_ => (au k_ ∨ w.heap.size ≤ k_)) (.slice av x.length aw) x from Kd.V_mono hN (fun k_ hk => .inl hk))
 have bZ := Z fr
 have bY := Z fq
 clear fr fq
 have HB := Z (Below.refl w.heap.size w)
 have H : ((grid_Size.f G J x O P Q).bind fun bB => ((stream_Write.f k y am aj ar ac bB).bind fun bu => (if bu.2.1.isNone = true then ((grid_Copy.f G J x O P Q).bind fun m => (if y = 245 then (if 0 < (m.2.2.1.length : Int) then (host_Do.j0 k G J x O P Q y am aj ar ac m.1 m.2.1 (List.replicate m.2.2.1.length z44) 0 m.2.2.2.2.1 m.2.2.2.2.2) else (none)) else (if y = 241 then (host_Do.j0 k G J x O P Q y am aj ar ac m.1 m.2.1 m.2.2.1 m.2.2.2.1 m.2.2.2.2.1 m.2.2.2.2.2) else (if y = 111 then ((host_clean.f k m.1 m.2.1 m.2.2.1 m.2.2.2.1 m.2.2.2.2.1 m.2.2.2.2.2).bind fun ag => ((host_unlocked.f ag.1 ag.2.1 ag.2.2.1 ag.2.2.2.1 ag.2.2.2.2.1 ag.2.2.2.2.2).bind fun T => (some (T.1, T.2.1, T.2.2.1, T.2.2.2.1, T.2.2.2.2.1, T.2.2.2.2.2, none, ([] : List (S184)))))) else (some (m.1, m.2.1, m.2.2.1, m.2.2.2.1, m.2.2.2.2.1, m.2.2.2.2.2, none, ([] : List (S184)))))))) else (some (G, J, x, O, P, Q, some (bu.2.1.getD ez), bu.2.2))))) = some (r1, r2, r3, r4, r5, r6, r7, r8) := h
 clear h
 replace H := Option.bind_eq_some_iff.mp H
 obtain ⟨bB, hO, H⟩ := H
 replace H : ((stream_Write.f k y am aj ar ac bB).bind fun bu => (if bu.2.1.isNone = true then ((grid_Copy.f G J x O P Q).bind fun m => (if y = 245 then (if 0 < (m.2.2.1.length : Int) then (host_Do.j0 k G J x O P Q y am aj ar ac m.1 m.2.1 (List.replicate m.2.2.1.length z44) 0 m.2.2.2.2.1 m.2.2.2.2.2) else (none)) else (if y = 241 then (host_Do.j0 k G J x O P Q y am aj ar ac m.1 m.2.1 m.2.2.1 m.2.2.2.1 m.2.2.2.2.1 m.2.2.2.2.2) else (if y = 111 then ((host_clean.f k m.1 m.2.1 m.2.2.1 m.2.2.2.1 m.2.2.2.2.1 m.2.2.2.2.2).bind fun ag => ((host_unlocked.f ag.1 ag.2.1 ag.2.2.1 ag.2.2.2.1 ag.2.2.2.2.1 ag.2.2.2.2.2).bind fun T => (some (T.1, T.2.1, T.2.2.1, T.2.2.2.1, T.2.2.2.2.1, T.2.2.2.2.2, none, ([] : List (S184)))))) else (some (m.1, m.2.1, m.2.2.1, m.2.2.2.1, m.2.2.2.2.1, m.2.2.2.2.2, none, ([] : List (S184)))))))) else (some (G, J, x, O, P, Q, some (bu.2.1.getD ez), bu.2.2)))) = some (r1, r2, r3, r4, r5, r6, r7, r8) := H
 have A3 := Z hO
 clear hO
 replace H := Option.bind_eq_some_iff.mp H
 obtain ⟨⟨e5, e6, ch⟩, fa, H⟩ := H
 replace H : (if e6.isNone = true then ((grid_Copy.f G J x O P Q).bind fun m => (if y = 245 then (if 0 < (m.2.2.1.length : Int) then (host_Do.j0 k G J x O P Q y am aj ar ac m.1 m.2.1 (List.replicate m.2.2.1.length z44) 0 m.2.2.2.2.1 m.2.2.2.2.2) else (none)) else (if y = 241 then (host_Do.j0 k G J x O P Q y am aj ar ac m.1 m.2.1 m.2.2.1 m.2.2.2.1 m.2.2.2.2.1 m.2.2.2.2.2) else (if y = 111 then ((host_clean.f k m.1 m.2.1 m.2.2.1 m.2.2.2.1 m.2.2.2.2.1 m.2.2.2.2.2).bind fun ag => ((host_unlocked.f ag.1 ag.2.1 ag.2.2.1 ag.2.2.2.1 ag.2.2.2.2.1 ag.2.2.2.2.2).bind fun T => (some (T.1, T.2.1, T.2.2.1, T.2.2.2.1, T.2.2.2.2.1, T.2.2.2.2.2, none, ([] : List (S184)))))) else (some (m.1, m.2.1, m.2.2.1, m.2.2.2.1, m.2.2.2.2.1, m.2.2.2.2.2, none, ([] : List (S184)))))))) else (some (G, J, x, O, P, Q, some (e6.getD ez), ch))) = some (r1, r2, r3, r4, r5, r6, r7, r8) := H
 have A4 := Z fa
 clear fa
 rcases e6 with _ | cg
 ·have H1 : ((grid_Copy.f G J x O P Q).bind fun m => (if y = 245 then (if 0 < (m.2.2.1.length : Int) then (host_Do.j0 k G J x O P Q y am aj ar ac m.1 m.2.1 (List.replicate m.2.2.1.length z44) 0 m.2.2.2.2.1 m.2.2.2.2.2) else (none)) else (if y = 241 then (host_Do.j0 k G J x O P Q y am aj ar ac m.1 m.2.1 m.2.2.1 m.2.2.2.1 m.2.2.2.2.1 m.2.2.2.2.2) else (if y = 111 then ((host_clean.f k m.1 m.2.1 m.2.2.1 m.2.2.2.1 m.2.2.2.2.1 m.2.2.2.2.2).bind fun ag => ((host_unlocked.f ag.1 ag.2.1 ag.2.2.1 ag.2.2.2.1 ag.2.2.2.2.1 ag.2.2.2.2.2).bind fun T => (some (T.1, T.2.1, T.2.2.1, T.2.2.2.1, T.2.2.2.2.1, T.2.2.2.2.2, none, ([] : List (S184)))))) else (some (m.1, m.2.1, m.2.2.1, m.2.2.2.1, m.2.2.2.2.1, m.2.2.2.2.2, none, ([] : List (S184)))))))) = some (r1, r2, r3, r4, r5, r6, r7, r8) := by rw [if_pos (show (none : Option Er).isNone = true by rfl)] at H; exact H
  clear H
  have H := H1
  clear H1
  try simp only [errW_none, errW_some]
  replace H := Option.bind_eq_some_iff.mp H
  obtain ⟨⟨X, ab, u, ak, ad, af⟩, hP, H⟩ := H
  replace H : (if y = 245 then (if 0 < (u.length : Int) then (host_Do.j0 k G J x O P Q y am aj ar ac X ab (List.replicate u.length z44) 0 ad af) else (none)) else (if y = 241 then (host_Do.j0 k G J x O P Q y am aj ar ac X ab u ak ad af) else (if y = 111 then ((host_clean.f k X ab u ak ad af).bind fun ag => ((host_unlocked.f ag.1 ag.2.1 ag.2.2.1 ag.2.2.2.1 ag.2.2.2.2.1 ag.2.2.2.2.2).bind fun T => (some (T.1, T.2.1, T.2.2.1, T.2.2.2.1, T.2.2.2.2.1, T.2.2.2.2.2, none, ([] : List (S184)))))) else (some (X, ab, u, ak, ad, af, none, ([] : List (S184))))))) = some (r1, r2, r3, r4, r5, r6, r7, r8) := H
  have A5 := Z hP
  clear hP
  have hj := Z H
  clear H
  go_enter Tryd.func31, Tryd.ntmps31
  try go_wp2_with (first | ((with_reducible refine gate_dst (N := 2) rfl ?_); refine bx_ 2 24 #[.int .i64 G, .int .i64 J, .slice av x.length aw, .int .i64 O, .bool P, .bool Q] ?_; intro F hg w7 hbox hb; replace s := Z (ve s.out hg hb); have b := Z (hbox); have hC := Z (ln_ hg : w.heap.size ≤ F); have hz := Z (ln_ hg : w.heap.size ≤ F); replace HB := Z (below_step bl_ hb); clear hb hbox hg) | ((with_reducible refine gate_dst (N := 3) rfl ?_); refine bx_ 3 60 #[.int .i64 y, .bool am, .bool aj, .bool ar, .slice aU ac.length aV] ?_; intro I hg w8 hbox hb; replace s := Z (ve s.out hg hb); have d := Z (hbox); have hD := Z (ln_ hg : w.heap.size ≤ I); have hA := Z (ln_ hg : w.heap.size ≤ I); replace HB := Z (below_step bl_ hb); have a2 := Z (nl b.out hg); have a3 := Z (ng b.out hg); replace b := Z (kb b.out hb); clear hb hbox hg) | ((with_reducible refine gate_dst (N := 4) rfl ?_); refine bx_ 4 24 #[.int .i64 0, .int .i64 0, .slice none 0 0, .int .i64 0, .bool false, .bool false] ?_; intro q hg w9 hbox hb; replace s := Z (ve s.out hg hb); have j := Z (hbox); have hE := Z (ln_ hg : w.heap.size ≤ q); have hB := Z (ln_ hg : w.heap.size ≤ q); replace HB := Z (below_step bl_ hb); have aW := Z (nl b.out hg); have aX := Z (ng b.out hg); replace b := Z (kb b.out hb); have aR := Z (nl d.out hg); have aS := Z (ng d.out hg); replace d := Z (kb d.out hb); clear hb hbox hg))
  have z := Z (Kd.V_drew s.out)
  have A := Z (blk_drew b.out)
  have B := Z (blk_drew d.out)
  have D := Z (blk_drew j.out)
  have E := Z (below_drew1 HB.out)
  clear s
  clear b
  clear d
  clear j
  clear HB
  have s := z
  have b := A
  have d := B
  have j := D
  have HB := E
  clear z A B D E
  refine start_ (n := 9) (S := fun w' => w'.cell? ⟨I, 0, none⟩ = some (.int .i64 y) ∧ w'.cell? ⟨I, 1, none⟩ = some (.bool am) ∧ w'.cell? ⟨I, 2, none⟩ = some (.bool aj) ∧ w'.cell? ⟨I, 3, none⟩ = some (.bool ar) ∧ w'.cell? ⟨I, 4, none⟩ = some (.slice aU ac.length aV) ∧ w'.cell? ⟨F, 0, none⟩ = some (.int .i64 G) ∧ w'.cell? ⟨F, 1, none⟩ = some (.int .i64 J) ∧ w'.cell? ⟨F, 2, none⟩ = some (.slice av x.length aw) ∧ w'.cell? ⟨F, 3, none⟩ = some (.int .i64 O) ∧ w'.cell? ⟨F, 4, none⟩ = some (.bool P) ∧ w'.cell? ⟨F, 5, none⟩ = some (.bool Q)) (ds := []) (bv 9 0) (by kernel_rfl) rfl rfl ⟨(blk_cell d.out 0).trans rfl, (blk_cell d.out 1).trans rfl, (blk_cell d.out 2).trans rfl, (blk_cell d.out 3).trans rfl, (blk_cell d.out 4).trans rfl, (blk_cell b.out 0).trans rfl, (blk_cell b.out 1).trans rfl, (blk_cell b.out 2).trans rfl, (blk_cell b.out 3).trans rfl, (blk_cell b.out 4).trans rfl, (blk_cell b.out 5).trans rfl⟩ (fun hHeld => ?_); refine with_tabW host_Do.tab1 host_Do.bits1 (fun HT_ HW_ => ?_)
  generalize w9.drew = oX at s b d j HB hHeld ⊢
  refine take_ (i := 0) (N := some 13) (v := ?_) (a' := ?_) (bv 9 1) rfl rfl (take_ofW HT_.out HW_.out (by kernel_rfl)) (fun _ _ _ h => h) (Or.inl ⟨by rfl, ?_⟩) hHeld ?_ ?_
  rotate_left
  ·rintro w' ⟨s0, s1, s2, s3, s4, s5, s6, s7, s8, s9, hv⟩
   go_simp
   with_reducible rfl
  rotate_left
  ·simp only [Act.put, sA, sB, sC, i64_w, i32_w]
   rfl
  refine take_ (i := 1) (N := some 14) (v := ?_) (a' := ?_) (bv 9 3) rfl rfl (take_ofW HT_.out HW_.out (by kernel_rfl)) (fun _ _ _ h => h) (Or.inl ⟨by rfl, ?_⟩) hHeld ?_ ?_
  rotate_left
  ·rintro w' ⟨s0, s1, s2, s3, s4, s5, s6, s7, s8, s9, hv⟩
   go_simp
   with_reducible rfl
  rotate_left
  ·simp only [Act.put, sA, sB, sC, i64_w, i32_w]
   rfl
  refine one_ (i := 2) (N := some 15) (bv 9 7) rfl rfl (one_of HT_.out (by kernel_rfl)) (by decide) (fun K hK => ?_)
  refine goes_ Tryd.func37 (by kernel_rfl) rfl #[.agg #[.int .i64 G, .int .i64 J, .slice av x.length aw, .int .i64 O, .bool P, .bool Q]] (by rfl) rfl rfl ag_ ?_
  with_reducible refine (grid_Size.calls G J _ _ x O P Q bB _ ?side1 ?side2 A3.out).mono ?_
  (case side1 => repeat (first | exact (Kd.V_reads' s.out).2.2 | (with_reducible apply pC)))
  (case side2 => exact (Kd.V_reads' s.out).2.1)
  rintro e oY ⟨rfl, hb⟩
  refine ⟨_, rfl, ?_⟩
  have z := Z (vb s.out hb)
  have A := Z (kb b.out hb)
  have B := Z (kb d.out hb)
  have D := Z (kb j.out hb)
  have E := Z (below_step bl_ hb)
  clear s
  clear b
  clear d
  clear j
  clear HB
  have s := z
  have b := A
  have d := B
  have j := D
  have HB := E
  clear z A B D E
  (try clear hb)
  (try clear bH)
  (try clear hk)
  (try clear hi)
  refine hK.out _ _ ⟨(blk_cell d.out 0).trans rfl, (blk_cell d.out 1).trans rfl, (blk_cell d.out 2).trans rfl, (blk_cell d.out 3).trans rfl, (blk_cell d.out 4).trans rfl, (blk_cell b.out 0).trans rfl, (blk_cell b.out 1).trans rfl, (blk_cell b.out 2).trans rfl, (blk_cell b.out 3).trans rfl, (blk_cell b.out 4).trans rfl, (blk_cell b.out 5).trans rfl⟩ (fun hHeld => ?_)
  clear hK K
  refine norm_ (a' := ?_) ?_ ?_
  rotate_left
  ·show Act.put _ (some 15) _ = _
   simp only [Act.put, sA, sB, sC, i64_w, i32_w]
   rfl
  refine one_ (i := 3) (N := some 16) (bv 9 15) rfl rfl (one_of HT_.out (by kernel_rfl)) (by decide) (fun K hK => ?_)
  refine goes_ Tryd.func48 (by kernel_rfl) rfl #[.agg #[.int .i64 y, .bool am, .bool aj, .bool ar, .slice aU ac.length aV], .int .i64 bB] (by rfl) rfl rfl ag_ ?_
  with_reducible refine (stream_Write.calls k y am aj ar _ _ ac bB e5 none ch _ ?side1 ?side2 A4.out).mono ?_
  (case side1 => repeat (first | exact (Kd.C_below bZ.out HB.out) | (with_reducible apply pC)))
  (case side2 => exact bY.out)
  rintro e oZ ⟨bE, hx, rfl, aA, bq, hb⟩
  refine ⟨_, rfl, ?_⟩
  have z := Z (Kd.V_elder' (vV s.out) (Kd.R_base aA) hb)
  have A := Z (Kd.R_lower (Kd.R_newM (M := fun k_ => (w.heap.size ≤ k_)) (Kd.R_mono (ok' := fun k_ => True) aA (fun _ hk_ => trivial)) (below_size bl_) (fun k_ h_ => h_)) (below_size bl_))
  have B := Z (Kd.V_lower (Kd.V_mono (ok' := fun k_ => (au k_ ∨ w.heap.size ≤ k_) ∧ some k_ ≠ (bE : Value).ownBlock ∧ k_ ≠ F ∧ k_ ≠ I ∧ k_ ≠ q) bq (fun k_ hk_ => ⟨(.inr (Nat.le_trans (below_size bl_) hk_.1)), hk_.2, (Kd.freshB (g := F) (o := .cells #[.int .i64 G, .int .i64 J, .slice av x.length aw, .int .i64 O, .bool P, .bool Q] 24 (0, 0)) (vK b.out) k_ hk_.1), (Kd.freshB (g := I) (o := .cells #[.int .i64 y, .bool am, .bool aj, .bool ar, .slice aU ac.length aV] 60 (0, 0)) (vK d.out) k_ hk_.1), (Kd.freshB (g := q) (o := .cells #[.int .i64 0, .int .i64 0, .slice none 0 0, .int .i64 0, .bool false, .bool false] 24 (0, 0)) (vK j.out) k_ hk_.1)⟩)) (below_size bl_))
  have D := Z (kb b.out hb)
  have E := Z (kb d.out hb)
  have U := Z (kb j.out hb)
  have W := Z (below_step bl_ hb)
  clear s
  clear b
  clear d
  clear j
  clear HB
  have s := z
  have ap := A
  have aJ := B
  have b := D
  have d := E
  have j := U
  have HB := W
  clear z A B D E U W
  (try clear hb)
  (try clear bH)
  (try clear hk)
  (try clear hi)
  (try clear aA)
  (try clear bq)
  (try simp only [errW_none, errW_some])
  refine hK.out _ _ ⟨(blk_cell d.out 0).trans rfl, (blk_cell d.out 1).trans rfl, (blk_cell d.out 2).trans rfl, (blk_cell d.out 3).trans rfl, (blk_cell d.out 4).trans rfl, (blk_cell b.out 0).trans rfl, (blk_cell b.out 1).trans rfl, (blk_cell b.out 2).trans rfl, (blk_cell b.out 3).trans rfl, (blk_cell b.out 4).trans rfl, (blk_cell b.out 5).trans rfl⟩ (fun hHeld => ?_)
  clear hK K
  refine norm_ (a' := ?_) ?_ ?_
  rotate_left
  ·show Act.put _ (some 16) _ = _
   simp only [Act.put, sA, sB, sC, i64_w, i32_w]
   rfl
  refine pure_ (i := 4) (N := some 12) (v := ?_) (a' := ?_) (bv 9 31) rfl rfl (any_of HT_.out (by kernel_rfl)) (fun _ _ _ h => h) (Or.inl ⟨by rfl, ?_⟩) ?_ ?_
  rotate_left
  ·intro w'
   go_simp
   with_reducible rfl
  rotate_left
  ·simp only [Act.put, sA, sB, sC, i64_w, i32_w]
   rfl
  refine pure_ (i := 5) (N := some 17) (v := ?_) (a' := ?_) (bv 9 63) rfl rfl (any_of HT_.out (by kernel_rfl)) (fun _ _ _ h => h) (Or.inl ⟨by rfl, ?_⟩) ?_ ?_
  rotate_left
  ·intro w'
   go_simp
   with_reducible rfl
  rotate_left
  ·simp only [Act.put, sA, sB, sC, i64_w, i32_w]
   rfl
  refine pure_ (i := 6) (N := some 18) (v := ?_) (a' := ?_) (bv 9 127) rfl rfl (any_of HT_.out (by kernel_rfl)) (fun _ _ _ h => h) (Or.inl ⟨by rfl, ?_⟩) ?_ ?_
  rotate_left
  ·intro w'
   go_simp
   with_reducible rfl
  rotate_left
  ·simp only [Act.put, sA, sB, sC, i64_w, i32_w]
   rfl
  refine pure_ (i := 7) (N := some 6) (v := ?_) (a' := ?_) (bv 9 255) rfl rfl (any_of HT_.out (by kernel_rfl)) (fun _ _ _ h => h) (Or.inl ⟨by rfl, ?_⟩) ?_ ?_
  rotate_left
  ·intro w'
   go_simp
   with_reducible rfl
  rotate_left
  ·simp only [Act.put, sA, sB, sC, i64_w, i32_w]
   rfl
  refine pure_ (i := 8) (N := some 7) (v := ?_) (a' := ?_) (bv 9 511) rfl rfl (any_of HT_.out (by kernel_rfl)) (fun _ _ _ h => h) (Or.inl ⟨by rfl, ?_⟩) ?_ ?_
  rotate_left
  ·intro w'
   go_simp
   with_reducible rfl
  rotate_left
  ·simp only [Act.put, sA, sB, sC, i64_w, i32_w]
   rfl
  refine done_ (done_of HT_.out (by kernel_rfl)) ?_
  have ni := a2.out
  have nR := a3.out
  have nj := aW.out
  have nS := aX.out
  obtain ⟨cr, ct, cu, cv, cw, cx, dD, dE, dF, dG, dH, dI⟩ := cells6 b.out
  go_upto_block 2 with (first | ((with_reducible refine gate_callee (f := 38) rfl ?_); refine goesL_ (some 24) rfl rfl Tryd.func38 (by kernel_rfl) rfl #[.agg #[.int .i64 G, .int .i64 J, .slice av x.length aw, .int .i64 O, .bool P, .bool Q]] rfl ag_ ?_; (with_reducible refine (grid_Copy.calls G J _ _ x O P Q X ab u ak ad af _ ?side1 ?side2 A5.out).mono ?_); (case side1 => repeat (first | exact (Kd.V_reads' s.out).2.2 | (with_reducible apply pC))); (case side2 => exact (Kd.V_reads' s.out).2.1); rintro e o0 ⟨oB, rfl, aA, hb⟩; refine ⟨_, rfl, ?_⟩; replace s := Z (Kd.V_elder' (vV s.out) (Kd.R_base aA) hb); replace ap := Z (rb ap.out hb); replace aJ := Z (Kd.V_elder' (vV aJ.out) (Kd.R_base aA) hb); have al := Z (Kd.R_lower (Kd.R_newM (M := fun k_ => (w.heap.size ≤ k_)) aA (below_size bl_) (fun k_ h_ => h_)) (below_size bl_)); replace b := Z (kb b.out hb); replace d := Z (kb d.out hb); replace j := Z (kb j.out hb); replace HB := Z (below_step bl_ hb); (try clear hb); (try clear bH); (try clear hk); (try clear hi); (try clear aA)) | ((with_reducible refine gate_dst (N := 8) rfl ?_); refine bx_ 8 24 #[.int .i64 0, .int .i64 0, .slice none 0 0, .int .i64 0, .bool false, .bool false] ?_; intro a hg bR hbox hb; replace s := Z (ve s.out hg hb); replace ap := Z (rb ap.out hb); replace aJ := Z (ve aJ.out hg hb); replace al := Z (rb al.out hb); have l := Z (hbox); have nh := Z (ln_ hg : w.heap.size ≤ a); have nf := Z (ln_ hg : w.heap.size ≤ a); replace HB := Z (below_step bl_ hb); have ax := Z (nl b.out hg); have aY := Z (ng b.out hg); replace b := Z (kb b.out hb); have aq := Z (nl d.out hg); have aT := Z (ng d.out hg); replace d := Z (kb d.out hb); have r := Z (nl j.out hg); have aZ := Z (ng j.out hg); replace j := Z (kb j.out hb); clear hb hbox hg; have nk := aY.out; have nT := ax.out; have nm := aT.out; have nU := aq.out; have nn := aZ.out; have nV := r.out; obtain ⟨cy, cz, cA, cB, cC, cD, dJ, dK, dL, dM, dN, dO⟩ := cells6 l.out; obtain ⟨an, aa, hY⟩ := Kd.R_slice al.out; subst hY; have no := aR.out; have nW := aS.out; obtain ⟨cE, cF, cG, cH, cI, dP, dQ, dR, dS, dT⟩ := cells5 d.out))
  (try simp only [Act.put, sA, sB, sC])
  go_cut [] (fun wc => ∃ (kq : Nat) (a0 : List (S44)) (a1 : Int) (u283002 : Value), Aside0 (host_Do.j0 kq G J x O P Q y am aj ar ac X ab a0 a1 ad af = some (r1, r2, r3, r4, r5, r6, r7, r8)) ∧ Aside0 (kq ≤ k) ∧ Aside0 (Kd.V k44 44 wc w.heap.size (fun k_ => (au k_ ∨ w.heap.size ≤ k_) ∧ some k_ ≠ (u283002 : Value).ownBlock ∧ k_ ≠ F ∧ k_ ≠ I ∧ k_ ≠ q ∧ k_ ≠ a) (.slice av x.length aw) x) ∧ Aside0 (Kd.R k44 44 wc w.heap.size (fun k_ => (w.heap.size ≤ k_)) u283002 a0) ∧ Aside0 (wc.heap[F]? = some (.cells #[.int .i64 G, .int .i64 J, (.slice av x.length aw), .int .i64 O, .bool P, .bool Q] 24 (0, 0))) ∧ Aside0 (wc.heap[I]? = some (.cells #[.int .i64 y, .bool am, .bool aj, .bool ar, (.slice aU ac.length aV)] 60 (0, 0))) ∧ Aside0 (wc.heap[q]? = some (.cells #[.int .i64 0, .int .i64 0, (.slice none 0 0), .int .i64 0, .bool false, .bool false] 24 (0, 0))) ∧ Aside0 (wc.heap[a]? = some (.cells #[.int .i64 X, .int .i64 ab, u283002, .int .i64 a1, .bool ad, .bool af] 24 (0, 0))) ∧ Aside0 (Below w.heap.size w wc))
  case first =>
   have H := hj.out
   clear hj
   by_cases b0 : y = 245
   ·rw [if_pos b0] at H
    have bw : (y == 245) = true := beq_iff_eq.mpr b0
    have eH : (y != 245) = false := bne_eq_false_iff_eq.mpr b0
    clear b0
    (first | rw [bw] | (simp only [i64_w, i32_w]; rw [bw]) | skip)
    by_cases cq : 0 < (u.length : Int)
    ·rw [if_pos cq] at H
     have fk : decide (0 < (u.length : Int)) = true := decide_eq_true cq
     have fl : decide (0 < u.length) = true := decide_eq_true (by omega)
     clear cq
     obtain ⟨e9, b9⟩ : ∃ y_ : List (S44), y_ = (List.replicate u.length z44) := ⟨_, rfl⟩
     replace H : (host_Do.j0 k G J x O P Q y am aj ar ac X ab e9 0 ad af) = some (r1, r2, r3, r4, r5, r6, r7, r8) := by first | (rw [b9]; with_reducible exact H) | (have hh := (Option.bind_some _ _).symm.trans H; rw [b9]; with_reducible exact hh) | (have hh := (Option.bind_some _ _).symm.trans H; with_reducible exact hh) | with_reducible exact H | (rw [b9]; exact H) | exact H
     have hF := Z b9
     clear b9
     have H' := Z H
     clear H
     have np := aY.out
     have nX := ax.out
     have nq := aT.out
     have nY := aq.out
     have nr := aZ.out
     have nZ := r.out
     obtain ⟨cJ, cK, cL, cM, cN, cO, dU, dV, dW, dX, dY, dZ⟩ := cells6 l.out
     have z : Aside0 (Kd.V k44 44 ((((((bR.setCell ⟨a, 0, none⟩ (.int .i64 X)).setCell ⟨a, 1, none⟩ (.int .i64 ab)).setCell ⟨a, 2, none⟩ (.slice an u.length aa)).setCell ⟨a, 3, none⟩ (.int .i64 ak)).setCell ⟨a, 4, none⟩ (.bool ad)).setCell ⟨a, 5, none⟩ (.bool af)) w.heap.size (fun k_ => (au k_ ∨ w.heap.size ≤ k_) ∧ some k_ ≠ (bE : Value).ownBlock ∧ some k_ ≠ (.slice an u.length aa : Value).ownBlock ∧ k_ ≠ F ∧ k_ ≠ I ∧ k_ ≠ q ∧ k_ ≠ a) (.slice av x.length aw) x) := ⟨by (with_reducible repeat apply pV); exact Kd.V_mono (f6V a (Kd.V_mono s.out (fun k_ hk => (⟨hk, hk.2⟩ : _ ∧ k_ ≠ a))) (fun _ hk => hk.2)) (fun _ hk => ⟨hk.1.1.1.1.1.1.1, ⟨hk.1.1.1.2, ⟨hk.1.1.2, ⟨hk.1.1.1.1.1.1.2, ⟨hk.1.1.1.1.1.2, ⟨hk.1.1.1.1.2, hk.1.2⟩⟩⟩⟩⟩⟩)⟩
     have A : Aside0 (Kd.R (Kd.int .u8) 5 ((((((bR.setCell ⟨a, 0, none⟩ (.int .i64 X)).setCell ⟨a, 1, none⟩ (.int .i64 ab)).setCell ⟨a, 2, none⟩ (.slice an u.length aa)).setCell ⟨a, 3, none⟩ (.int .i64 ak)).setCell ⟨a, 4, none⟩ (.bool ad)).setCell ⟨a, 5, none⟩ (.bool af)) w.heap.size (fun k_ => (w.heap.size ≤ k_)) bE e5) := ⟨by (with_reducible repeat apply pR); exact Kd.R_mono (f6R a (Kd.R_types ap.out l.out (by decide)) (fun _ hk => hk.2)) (fun _ hk => hk.1.1)⟩
     have B : Aside0 (Kd.V k184 184 ((((((bR.setCell ⟨a, 0, none⟩ (.int .i64 X)).setCell ⟨a, 1, none⟩ (.int .i64 ab)).setCell ⟨a, 2, none⟩ (.slice an u.length aa)).setCell ⟨a, 3, none⟩ (.int .i64 ak)).setCell ⟨a, 4, none⟩ (.bool ad)).setCell ⟨a, 5, none⟩ (.bool af)) w.heap.size (fun k_ => (au k_ ∨ w.heap.size ≤ k_) ∧ some k_ ≠ (bE : Value).ownBlock ∧ some k_ ≠ (.slice an u.length aa : Value).ownBlock ∧ k_ ≠ F ∧ k_ ≠ I ∧ k_ ≠ q ∧ k_ ≠ a) hx ch) := ⟨by (with_reducible repeat apply pV); exact Kd.V_mono (f6V a (Kd.V_mono aJ.out (fun k_ hk => (⟨hk, hk.2⟩ : _ ∧ k_ ≠ a))) (fun _ hk => hk.2)) (fun _ hk => ⟨hk.1.1.1.1, ⟨hk.1.1.1.2.1, ⟨hk.1.1.2, ⟨hk.1.1.1.2.2.1, ⟨hk.1.1.1.2.2.2.1, ⟨hk.1.1.1.2.2.2.2, hk.1.2⟩⟩⟩⟩⟩⟩)⟩
     have D : Aside0 (Kd.R k44 44 ((((((bR.setCell ⟨a, 0, none⟩ (.int .i64 X)).setCell ⟨a, 1, none⟩ (.int .i64 ab)).setCell ⟨a, 2, none⟩ (.slice an u.length aa)).setCell ⟨a, 3, none⟩ (.int .i64 ak)).setCell ⟨a, 4, none⟩ (.bool ad)).setCell ⟨a, 5, none⟩ (.bool af)) w.heap.size (fun k_ => (w.heap.size ≤ k_)) (.slice an u.length aa) u) := ⟨by (with_reducible repeat apply pR); exact Kd.R_mono (f6R a (Kd.R_types al.out l.out (by decide)) (fun _ hk => hk.2)) (fun _ hk => hk.1.1)⟩
     have E : Aside0 (((((((bR.setCell ⟨a, 0, none⟩ (.int .i64 X)).setCell ⟨a, 1, none⟩ (.int .i64 ab)).setCell ⟨a, 2, none⟩ (.slice an u.length aa)).setCell ⟨a, 3, none⟩ (.int .i64 ak)).setCell ⟨a, 4, none⟩ (.bool ad)).setCell ⟨a, 5, none⟩ (.bool af)).heap[F]? = some (.cells #[.int .i64 G, .int .i64 J, .slice av x.length aw, .int .i64 O, .bool P, .bool Q] 24 (0, 0))) := ⟨blk_off b.out ax.out off2_⟩
     have U : Aside0 (((((((bR.setCell ⟨a, 0, none⟩ (.int .i64 X)).setCell ⟨a, 1, none⟩ (.int .i64 ab)).setCell ⟨a, 2, none⟩ (.slice an u.length aa)).setCell ⟨a, 3, none⟩ (.int .i64 ak)).setCell ⟨a, 4, none⟩ (.bool ad)).setCell ⟨a, 5, none⟩ (.bool af)).heap[I]? = some (.cells #[.int .i64 y, .bool am, .bool aj, .bool ar, .slice aU ac.length aV] 60 (0, 0))) := ⟨blk_off d.out aq.out off2_⟩
     have W : Aside0 (((((((bR.setCell ⟨a, 0, none⟩ (.int .i64 X)).setCell ⟨a, 1, none⟩ (.int .i64 ab)).setCell ⟨a, 2, none⟩ (.slice an u.length aa)).setCell ⟨a, 3, none⟩ (.int .i64 ak)).setCell ⟨a, 4, none⟩ (.bool ad)).setCell ⟨a, 5, none⟩ (.bool af)).heap[q]? = some (.cells #[.int .i64 0, .int .i64 0, .slice none 0 0, .int .i64 0, .bool false, .bool false] 24 (0, 0))) := ⟨blk_off j.out r.out off2_⟩
     have ae : Aside0 (((((((bR.setCell ⟨a, 0, none⟩ (.int .i64 X)).setCell ⟨a, 1, none⟩ (.int .i64 ab)).setCell ⟨a, 2, none⟩ (.slice an u.length aa)).setCell ⟨a, 3, none⟩ (.int .i64 ak)).setCell ⟨a, 4, none⟩ (.bool ad)).setCell ⟨a, 5, none⟩ (.bool af)).heap[a]? = some (.cells #[.int .i64 X, .int .i64 ab, .slice an u.length aa, .int .i64 ak, .bool ad, .bool af] 24 (0, 0))) := ⟨put6 l.out⟩
     have ao : Aside0 (Below w.heap.size w ((((((bR.setCell ⟨a, 0, none⟩ (.int .i64 X)).setCell ⟨a, 1, none⟩ (.int .i64 ab)).setCell ⟨a, 2, none⟩ (.slice an u.length aa)).setCell ⟨a, 3, none⟩ (.int .i64 ak)).setCell ⟨a, 4, none⟩ (.bool ad)).setCell ⟨a, 5, none⟩ (.bool af))) := ⟨bl_⟩
     (try clear s)
     (try clear ap)
     (try clear aJ)
     (try clear al)
     (try clear b)
     (try clear d)
     (try clear j)
     (try clear l)
     (try clear HB)
     generalize ((((((bR.setCell ⟨a, 0, none⟩ (.int .i64 X)).setCell ⟨a, 1, none⟩ (.int .i64 ab)).setCell ⟨a, 2, none⟩ (.slice an u.length aa)).setCell ⟨a, 3, none⟩ (.int .i64 ak)).setCell ⟨a, 4, none⟩ (.bool ad)).setCell ⟨a, 5, none⟩ (.bool af)) = bc at z A B D E U W ae ao ⊢
     have s := z
     have ap := A
     have aJ := B
     have al := D
     have b := E
     have d := U
     have j := W
     have l := ae
     have HB := ao
     clear z A B D E U W ae ao
     obtain ⟨cP, cQ, cR, cS, cT, cU, d0, d1, d2, d3, d4, d5⟩ := cells6 l.out
     have p27 : 0 ≤ (0 : Int) := (by omega)
     have cf : (0 : Int) < ((u.length : Int) : Int) := od_
     have hu : (0 < u.length) = True := eq_true (by omega)
     obtain ⟨aH, ow, hq, hs, h5, ov, hl⟩ := Kd.R_form al.out (by omega)
     (first | cases hq | (injection hq with ea_ en_ ec_; (first | subst ea_ | (injection ea_ with ea_; subst ea_)); subst ec_; clear en_))
     have hV := Z hs
     have os := Z hl
     clear hs h5 hl
     obtain ⟨ou, hM, ht, bz, bA⟩ := Kd.R_elem al.out z44 (0 : Int) p27 cf
     obtain rfl := k44_openM ht
     have b3 : bc.cell? ⟨aH, (0 : Int).toNat * 6, none⟩ = some (.bool ((rd_T44 u 0).f0)) := bz 0 _ rfl
     have b4 : bc.cell? ⟨aH, (0 : Int).toNat * 6 + 1, none⟩ = some (.bool ((rd_T44 u 0).f1.f0)) := bz 1 _ rfl
     have b5 : bc.cell? ⟨aH, (0 : Int).toNat * 6 + 2, none⟩ = some (.bool ((rd_T44 u 0).f1.f1)) := bz 2 _ rfl
     have b6 : bc.cell? ⟨aH, (0 : Int).toNat * 6 + 3, none⟩ = some (.int .i64 ((rd_T44 u 0).f1.f2)) := bz 3 _ rfl
     have b7 : bc.cell? ⟨aH, (0 : Int).toNat * 6 + 4, none⟩ = some (.bool ((rd_T44 u 0).f1.f3)) := bz 4 _ rfl
     have b8 : bc.cell? ⟨aH, (0 : Int).toNat * 6 + 5, none⟩ = some (.int .u8 ((rd_T44 u 0).f2)) := bz 5 _ rfl
     have eT : bc.frozen? ⟨aH, (0 : Int).toNat * 6, none⟩ = false := bA 0
     have eU : bc.frozen? ⟨aH, (0 : Int).toNat * 6 + 1, none⟩ = false := bA 1
     have eV : bc.frozen? ⟨aH, (0 : Int).toNat * 6 + 2, none⟩ = false := bA 2
     have eW : bc.frozen? ⟨aH, (0 : Int).toNat * 6 + 3, none⟩ = false := bA 3
     have eX : bc.frozen? ⟨aH, (0 : Int).toNat * 6 + 4, none⟩ = false := bA 4
     have eY : bc.frozen? ⟨aH, (0 : Int).toNat * 6 + 5, none⟩ = false := bA 5
     clear hM bz bA ht
     (try rw [show ((0 : Int)).toNat = 0 from rfl] at b3)
     (try simp only [Nat.reduceMul, Nat.zero_mul, Nat.zero_add, Nat.reduceAdd] at b3)
     (try rw [show ((0 : Int)).toNat = 0 from rfl] at eT)
     (try simp only [Nat.reduceMul, Nat.zero_mul, Nat.zero_add, Nat.reduceAdd] at eT)
     (try rw [show ((0 : Int)).toNat = 0 from rfl] at b4)
     (try simp only [Nat.reduceMul, Nat.zero_mul, Nat.zero_add, Nat.reduceAdd] at b4)
     (try rw [show ((0 : Int)).toNat = 0 from rfl] at eU)
     (try simp only [Nat.reduceMul, Nat.zero_mul, Nat.zero_add, Nat.reduceAdd] at eU)
     (try rw [show ((0 : Int)).toNat = 0 from rfl] at b5)
     (try simp only [Nat.reduceMul, Nat.zero_mul, Nat.zero_add, Nat.reduceAdd] at b5)
     (try rw [show ((0 : Int)).toNat = 0 from rfl] at eV)
     (try simp only [Nat.reduceMul, Nat.zero_mul, Nat.zero_add, Nat.reduceAdd] at eV)
     (try rw [show ((0 : Int)).toNat = 0 from rfl] at b6)
     (try simp only [Nat.reduceMul, Nat.zero_mul, Nat.zero_add, Nat.reduceAdd] at b6)
     (try rw [show ((0 : Int)).toNat = 0 from rfl] at eW)
     (try simp only [Nat.reduceMul, Nat.zero_mul, Nat.zero_add, Nat.reduceAdd] at eW)
     (try rw [show ((0 : Int)).toNat = 0 from rfl] at b7)
     (try simp only [Nat.reduceMul, Nat.zero_mul, Nat.zero_add, Nat.reduceAdd] at b7)
     (try rw [show ((0 : Int)).toNat = 0 from rfl] at eX)
     (try simp only [Nat.reduceMul, Nat.zero_mul, Nat.zero_add, Nat.reduceAdd] at eX)
     (try rw [show ((0 : Int)).toNat = 0 from rfl] at b8)
     (try simp only [Nat.reduceMul, Nat.zero_mul, Nat.zero_add, Nat.reduceAdd] at b8)
     (try rw [show ((0 : Int)).toNat = 0 from rfl] at eY)
     (try simp only [Nat.reduceMul, Nat.zero_mul, Nat.zero_add, Nat.reduceAdd] at eY)
     replace p27 := eq_true p27
     replace cf := eq_true cf
     have hm := Z (show Kd.R k44 44 bc w.heap.size (fun k_ => (w.heap.size ≤ k_)) (.slice (some ⟨aH, 0, none⟩) u.length aa) u from (by (with_reducible repeat apply pR); exact al.out))
     have e1 := clear_all hm.out
     have hW := Z (clear_run hm.out)
     go_wp2_with (first | ((with_reducible refine gate_dst (N := 34) rfl ?_); refine Kd.event_run (v := .slice (some ⟨aH, 0, none⟩) u.length aa) (w1 := bc) rfl ?hr ?_; (case hr => go_simp; first | done | rfl); refine Kd.event_run (v := .tuple #[]) (w1 := bc.setCells aH 0 (zl u.length)) rfl ?hr ?_; (case hr => (have hz_ := hW.out; go_simp; first | done | rfl)); obtain ⟨hT, hw⟩ : ∃ w_ : World, w_ = bc.setCells aH 0 (zl u.length) := ⟨_, rfl⟩; rw [← hw]; have hg : bc.grownBy hT (some aH) := (by rw [hw]; exact e1.2); have hp_ : Kd.R k44 44 hT w.heap.size (fun k_ => (w.heap.size ≤ k_)) (.slice (some ⟨aH, 0, none⟩) u.length aa) e9 := (by rw [hw, hF.out]; exact e1.1); clear e1; replace s := Z (Kd.V_afterv (v := (.slice (some ⟨aH, 0, none⟩) u.length aa)) (v1 := (.slice (some ⟨aH, 0, none⟩) u.length aa)) (ok := (fun k_ => (au k_ ∨ w.heap.size ≤ k_) ∧ some k_ ≠ (bE : Value).ownBlock ∧ k_ ≠ F ∧ k_ ≠ I ∧ k_ ≠ q ∧ k_ ≠ a)) (by (with_reducible repeat apply pV); exact Kd.V_mono s.out (fun _ hk => ⟨⟨hk.1, ⟨hk.2.1, ⟨hk.2.2.2.1, ⟨hk.2.2.2.2.1, ⟨hk.2.2.2.2.2.1, hk.2.2.2.2.2.2⟩⟩⟩⟩⟩, hk.2.2.1⟩)) hg (.inl rfl)); replace b := Z (blk_grown (g := F) (o := .cells #[.int .i64 G, .int .i64 J, .slice av x.length aw, .int .i64 O, .bool P, .bool Q] 24 (0, 0)) (vK b.out) hg (Kd.R_ne al.out b.out (by decide))); replace d := Z (blk_grown (g := I) (o := .cells #[.int .i64 y, .bool am, .bool aj, .bool ar, .slice aU ac.length aV] 60 (0, 0)) (vK d.out) hg (Kd.R_ne al.out d.out (by decide))); replace j := Z (blk_grown (g := q) (o := .cells #[.int .i64 0, .int .i64 0, .slice none 0 0, .int .i64 0, .bool false, .bool false] 24 (0, 0)) (vK j.out) hg (Kd.R_ne al.out j.out (by decide))); replace ap := Z (Kd.R_over' (v := (.slice (some ⟨aH, 0, none⟩) u.length aa)) (by (with_reducible repeat apply pR); exact ap.out) (Kd.R_typed al.out) (by decide) hg); replace aJ := Z (Kd.V_afterv (v := (.slice (some ⟨aH, 0, none⟩) u.length aa)) (v1 := (.slice (some ⟨aH, 0, none⟩) u.length aa)) (ok := (fun k_ => (au k_ ∨ w.heap.size ≤ k_) ∧ some k_ ≠ (bE : Value).ownBlock ∧ k_ ≠ F ∧ k_ ≠ I ∧ k_ ≠ q ∧ k_ ≠ a)) (by (with_reducible repeat apply pV); exact Kd.V_mono aJ.out (fun _ hk => ⟨⟨hk.1, ⟨hk.2.1, ⟨hk.2.2.2.1, ⟨hk.2.2.2.2.1, ⟨hk.2.2.2.2.2.1, hk.2.2.2.2.2.2⟩⟩⟩⟩⟩, hk.2.2.1⟩)) hg (.inl rfl)); replace l := Z (blk_grown (g := a) (o := .cells #[.int .i64 X, .int .i64 ab, .slice (some ⟨aH, 0, none⟩) u.length aa, .int .i64 ak, .bool ad, .bool af] 24 (0, 0)) (vK l.out) hg (Kd.R_ne al.out l.out (by decide))); replace al := Z (hp_); replace HB := Z (HB.out.grown hg HB.out.size (fun k_ e_ => by injection e_ with e_; rw [← e_]; exact hV.out)); clear hg hw hp_; obtain ⟨cV, cW, cX, cY, cZ, c0, d6, d7, d8, d9, ea, eb⟩ := cells6 l.out))
     go_meet
     case rel => exact ⟨_, (e9), (0), (.slice (some ⟨aH, 0, none⟩) u.length aa), H', ⟨by first | omega | exact Nat.le_refl _⟩, ⟨by (with_reducible repeat apply pV); exact Kd.V_mono (Kd.V_far (p := ⟨a, 3, none⟩) (Kd.V_mono s.out (fun k_ hk => (⟨hk, hk.1.2.2.2.2.2⟩ : _ ∧ k_ ≠ a))) (fun _ hk => hk.2) (.int .i64 0)) (fun _ hk => ⟨hk.1.1.1, ⟨hk.1.2, ⟨hk.1.1.2.2.1, ⟨hk.1.1.2.2.2.1, ⟨hk.1.1.2.2.2.2.1, hk.1.1.2.2.2.2.2⟩⟩⟩⟩⟩)⟩, ⟨by (with_reducible repeat apply pR); exact Kd.R_mono (Kd.R_far (p := ⟨a, 3, none⟩) (Kd.R_types al.out l.out (by decide)) (fun _ hk => hk.2) (.int .i64 0)) (fun _ hk => hk.1)⟩, ⟨blk_off b.out ax.out off2_⟩, ⟨blk_off d.out aq.out off2_⟩, ⟨blk_off j.out r.out off2_⟩, ⟨by (with_reducible repeat apply pK); refine blk_put (cs := #[.int .i64 X, .int .i64 ab, .slice (some ⟨aH, 0, none⟩) u.length aa, .int .i64 ak, .bool ad, .bool af]) ?_ 3 _ rfl; (with_reducible repeat apply pK); exact l.out⟩, ⟨bl_⟩⟩
    ·rw [if_neg cq] at H
     exact absurd H (by simp)
   ·rw [if_neg b0] at H
    have bw : (y == 245) = false := beq_eq_false_iff_ne.mpr b0
    have eH : (y != 245) = true := bne_iff_ne.mpr b0
    (first | rw [bw] | (simp only [i64_w, i32_w]; rw [bw]) | skip)
    by_cases b1 : y = 241
    ·rw [if_pos b1] at H
     have eI : (y == 241) = true := beq_iff_eq.mpr b1
     have eJ : (y != 241) = false := bne_eq_false_iff_eq.mpr b1
     clear b1
     have H' := Z H
     clear H
     go_wp2
     go_meet
     case rel => exact ⟨_, (u), (ak), (.slice an u.length aa), H', ⟨by first | omega | exact Nat.le_refl _⟩, ⟨by (with_reducible repeat apply pV); exact Kd.V_mono (f6V a (Kd.V_mono s.out (fun k_ hk => (⟨hk, hk.2⟩ : _ ∧ k_ ≠ a))) (fun _ hk => hk.2)) (fun _ hk => ⟨hk.1.1.1.1.1.1.1, ⟨hk.1.1.2, ⟨hk.1.1.1.1.1.1.2, ⟨hk.1.1.1.1.1.2, ⟨hk.1.1.1.1.2, hk.1.2⟩⟩⟩⟩⟩)⟩, ⟨by (with_reducible repeat apply pR); exact Kd.R_mono (f6R a (Kd.R_types al.out l.out (by decide)) (fun _ hk => hk.2)) (fun _ hk => hk.1.1)⟩, ⟨blk_off b.out ax.out off2_⟩, ⟨blk_off d.out aq.out off2_⟩, ⟨blk_off j.out r.out off2_⟩, ⟨put6 l.out⟩, ⟨bl_⟩⟩
    ·rw [if_neg b1] at H
     have eI : (y == 241) = false := beq_eq_false_iff_ne.mpr b1
     have eJ : (y != 241) = true := bne_iff_ne.mpr b1
     by_cases b2 : y = 111
     ·rw [if_pos b2] at H
      have eK : (y == 111) = true := beq_iff_eq.mpr b2
      have eL : (y != 111) = false := bne_eq_false_iff_eq.mpr b2
      clear b2
      replace H := Option.bind_eq_some_iff.mp H
      obtain ⟨⟨eM, eN, ci, eO, eP, eQ⟩, g7, H⟩ := H
      replace H : ((host_unlocked.f eM eN ci eO eP eQ).bind fun T => (some (T.1, T.2.1, T.2.2.1, T.2.2.2.1, T.2.2.2.2.1, T.2.2.2.2.2, none, ([] : List (S184))))) = some (r1, r2, r3, r4, r5, r6, r7, r8) := H
      have lV := Z g7
      clear g7
      replace H := Option.bind_eq_some_iff.mp H
      obtain ⟨⟨br, bC, bL, bV, cc, cj⟩, g8, H⟩ := H
      replace H : (some (br, bC, bL, bV, cc, cj, none, ([] : List (S184)))) = some (r1, r2, r3, r4, r5, r6, r7, r8) := H
      have fa := Z g8
      clear g8
      simp only [Option.some.injEq, Prod.mk.injEq] at H
      obtain ⟨rfl, rfl, rfl, rfl, rfl, rfl, rfl, rfl⟩ := H
      have ns := aY.out
      have n0 := ax.out
      have nt := aT.out
      have n1 := aq.out
      have nu := aZ.out
      have n2 := r.out
      obtain ⟨c7, c8, c9, da, db, dc, ec, ed, ee, ef, eg, eh⟩ := cells6 l.out
      go_wp2_with (first | ((with_reducible refine gate_callee (f := 50) rfl ?_); refine goesL_ (some 62) rfl rfl Tryd.func50 (by kernel_rfl) rfl #[.agg #[.int .i64 X, .int .i64 ab, .slice an u.length aa, .int .i64 ak, .bool ad, .bool af]] rfl ag_ ?_; (with_reducible refine (host_clean.calls k X ab _ _ u ak ad af eM eN ci eO eP eQ _ ?side1 ?side2 lV.out).mono ?_); (case side1 => refine (Kd.R_reads' (e := 44) (base := w.heap.size) (ok := fun k_ => (((w.heap.size ≤ k_)) ∧ True)) (n := u.length) (c := aa) ?_).2.2; exact (by (with_reducible repeat apply pR); exact (Kd.R_mono (f6R a (Kd.R_types al.out l.out (by decide)) (fun _ hk => hk.2)) (fun _ h_ => h_.1)))); (case side2 => exact (Kd.R_reads' al.out).2.1); rintro e o1 ⟨oC, rfl, aA, hb⟩; refine ⟨_, rfl, ?_⟩; replace s := Z (Kd.V_elder' (by (with_reducible repeat apply pV); exact (Kd.V_mono (f6V a (Kd.V_mono s.out (fun k_ hk => (⟨hk, hk.2⟩ : _ ∧ k_ ≠ a))) (fun _ hk => hk.2)) (fun _ h_ => h_.1))) (Kd.R_base aA) hb); replace ap := Z (Kd.R_below (by (with_reducible repeat apply pR); exact (Kd.R_mono (f6R a (Kd.R_types ap.out l.out (by decide)) (fun _ hk => hk.2)) (fun _ h_ => h_.1))) hb); replace aJ := Z (Kd.V_elder' (by (with_reducible repeat apply pV); exact (Kd.V_mono (f6V a (Kd.V_mono aJ.out (fun k_ hk => (⟨hk, hk.2⟩ : _ ∧ k_ ≠ a))) (fun _ hk => hk.2)) (fun _ h_ => h_.1))) (Kd.R_base aA) hb); have a4 := Z (Kd.R_lower (Kd.R_new' (Kd.R_newM (M := fun k_ => (w.heap.size ≤ k_)) aA (below_size bl_) (fun k_ h_ => h_)) (Kd.R_lt (by (with_reducible repeat apply pR); exact (Kd.R_mono (f6R a (Kd.R_types al.out l.out (by decide)) (fun _ hk => hk.2)) (fun _ h_ => h_.1))))) (below_size bl_)); replace al := Z (Kd.R_elder' (by (with_reducible repeat apply pR); exact (Kd.R_mono (f6R a (Kd.R_types al.out l.out (by decide)) (fun _ hk => hk.2)) (fun _ h_ => h_.1))) (Kd.R_base aA) hb); replace b := Z (blk_below (g := F) (o := .cells #[.int .i64 G, .int .i64 J, .slice av x.length aw, .int .i64 O, .bool P, .bool Q] 24 (0, 0)) (blk_off b.out ax.out off2_) hb); replace d := Z (blk_below (g := I) (o := .cells #[.int .i64 y, .bool am, .bool aj, .bool ar, .slice aU ac.length aV] 60 (0, 0)) (blk_off d.out aq.out off2_) hb); replace j := Z (blk_below (g := q) (o := .cells #[.int .i64 0, .int .i64 0, .slice none 0 0, .int .i64 0, .bool false, .bool false] 24 (0, 0)) (blk_off j.out r.out off2_) hb); replace l := Z (blk_below (g := a) (o := .cells #[.int .i64 X, .int .i64 ab, .slice an u.length aa, .int .i64 ak, .bool ad, .bool af] 24 (0, 0)) (put6 l.out) hb); replace HB := Z (below_step bl_ hb); (try clear hb); (try clear bH); (try clear hk); (try clear hi); (try clear aA); obtain ⟨hf, hp, hZ⟩ := Kd.R_slice a4.out; subst hZ) | ((with_reducible refine gate_callee (f := 49) rfl ?_); refine goesL_ (some 63) rfl rfl Tryd.func49 (by kernel_rfl) rfl #[.agg #[.int .i64 eM, .int .i64 eN, .slice hf ci.length hp, .int .i64 eO, .bool eP, .bool eQ]] rfl ag_ ?_; (with_reducible refine (host_unlocked.calls eM eN (fun k_ => some k_ = (.slice hf ci.length hp : Value).ownBlock) _ _ ci eO eP eQ br bC bL bV cc cj _ ?side1 fa.out).mono ?_); (case side1 => exact Kd.R_V (Kd.R_tight rfl (Kd.R_types (Kd.R_types (Kd.R_types (Kd.R_types (Kd.R_apart' (a4.out) (Kd.R_typed ap.out) (by decide)) b.out (by decide)) d.out (by decide)) j.out (by decide)) l.out (by decide)))); rintro e o2 ⟨oD, rfl, aA, hb⟩; refine ⟨_, rfl, ?_⟩; replace s := Z (vb s.out hb); replace aJ := Z (vb aJ.out hb); have fh := Z (Kd.V_lower (Kd.V_mono (ok' := fun k_ => (au k_ ∨ w.heap.size ≤ k_) ∧ some k_ ≠ (bE : Value).ownBlock ∧ some k_ ≠ (.slice an u.length aa : Value).ownBlock ∧ k_ ≠ F ∧ k_ ≠ I ∧ k_ ≠ q ∧ k_ ≠ a) aA (fun k_ hk_ => ⟨Or.elim hk_ (fun hs_ => (.inr (((Kd.R_types (Kd.R_types (Kd.R_types (Kd.R_types (Kd.R_apart' (a4.out) (Kd.R_typed ap.out) (by decide)) b.out (by decide)) d.out (by decide)) j.out (by decide)) l.out (by decide)).1 k_ hs_.symm).1.1.1.1.1.1.1))) (fun hn_ => (ir_ hn_)), Or.elim hk_ (fun hs_ => ((Kd.R_types (Kd.R_types (Kd.R_types (Kd.R_types (Kd.R_apart' (a4.out) (Kd.R_typed ap.out) (by decide)) b.out (by decide)) d.out (by decide)) j.out (by decide)) l.out (by decide)).1 k_ hs_.symm).1.1.1.1.2) (fun hn_ => (Kd.fresh' (Kd.R_lt (by (with_reducible repeat apply pR); exact ap.out)) k_ hn_)), Or.elim hk_ (fun hs_ => ((Kd.R_types (Kd.R_types (Kd.R_types (Kd.R_types (Kd.R_apart' (a4.out) (Kd.R_typed ap.out) (by decide)) b.out (by decide)) d.out (by decide)) j.out (by decide)) l.out (by decide)).1 k_ hs_.symm).1.1.1.1.1.2) (fun hn_ => (Kd.fresh' (Kd.R_lt (by (with_reducible repeat apply pR); exact al.out)) k_ hn_)), Or.elim hk_ (fun hs_ => ((Kd.R_types (Kd.R_types (Kd.R_types (Kd.R_types (Kd.R_apart' (a4.out) (Kd.R_typed ap.out) (by decide)) b.out (by decide)) d.out (by decide)) j.out (by decide)) l.out (by decide)).1 k_ hs_.symm).1.1.1.2) (fun hn_ => (fb b.out k_ hn_)), Or.elim hk_ (fun hs_ => ((Kd.R_types (Kd.R_types (Kd.R_types (Kd.R_types (Kd.R_apart' (a4.out) (Kd.R_typed ap.out) (by decide)) b.out (by decide)) d.out (by decide)) j.out (by decide)) l.out (by decide)).1 k_ hs_.symm).1.1.2) (fun hn_ => (fb d.out k_ hn_)), Or.elim hk_ (fun hs_ => ((Kd.R_types (Kd.R_types (Kd.R_types (Kd.R_types (Kd.R_apart' (a4.out) (Kd.R_typed ap.out) (by decide)) b.out (by decide)) d.out (by decide)) j.out (by decide)) l.out (by decide)).1 k_ hs_.symm).1.2) (fun hn_ => (fb j.out k_ hn_)), Or.elim hk_ (fun hs_ => ((Kd.R_types (Kd.R_types (Kd.R_types (Kd.R_types (Kd.R_apart' (a4.out) (Kd.R_typed ap.out) (by decide)) b.out (by decide)) d.out (by decide)) j.out (by decide)) l.out (by decide)).1 k_ hs_.symm).2) (fun hn_ => (fb l.out k_ hn_))⟩)) (below_size bl_)); replace ap := Z (rb ap.out hb); replace al := Z (rb al.out hb); replace a4 := Z (rb a4.out hb); replace b := Z (kb b.out hb); replace d := Z (kb d.out hb); replace j := Z (kb j.out hb); replace l := Z (kb l.out hb); replace HB := Z (below_step bl_ hb); (try clear hb); (try clear bH); (try clear hk); (try clear hi); (try clear aA); obtain ⟨dd, de, df, dg, dh, di, ei, ej, ek, el, em, en⟩ := cells6 l.out; obtain ⟨ca, cb, h0⟩ := Kd.V_slice fh.out; subst h0; have nv := aX.out; have n3 := aW.out; have nw := aS.out; have n4 := aR.out; obtain ⟨dj, dk, dl, dm, dn, dp, eo, ep, eq, er, es, et⟩ := cells6 j.out))
      refine bodyPost_ret (results_ct rfl _ _ q 24 #[.int .i64 br, .int .i64 bC, .slice ca bL.length cb, .int .i64 bV, .bool cc, .bool cj] (0, 0) _ rfl (by (with_reducible repeat apply pK); refine blk_put (cs := #[.int .i64 br, .int .i64 bC, .slice ca bL.length cb, .int .i64 bV, .bool cc, .bool false]) ?_ 5 _ rfl; (with_reducible repeat apply pK); refine blk_put (cs := #[.int .i64 br, .int .i64 bC, .slice ca bL.length cb, .int .i64 bV, .bool false, .bool false]) ?_ 4 _ rfl; (with_reducible repeat apply pK); refine blk_put (cs := #[.int .i64 br, .int .i64 bC, .slice ca bL.length cb, .int .i64 0, .bool false, .bool false]) ?_ 3 _ rfl; (with_reducible repeat apply pK); refine blk_put (cs := #[.int .i64 br, .int .i64 bC, .slice none 0 0, .int .i64 0, .bool false, .bool false]) ?_ 2 _ rfl; (with_reducible repeat apply pK); refine blk_put (cs := #[.int .i64 br, .int .i64 0, .slice none 0 0, .int .i64 0, .bool false, .bool false]) ?_ 1 _ rfl; (with_reducible repeat apply pK); refine blk_put (cs := #[.int .i64 0, .int .i64 0, .slice none 0 0, .int .i64 0, .bool false, .bool false]) ?_ 0 _ rfl; (with_reducible repeat apply pK); refine blk_far ?_ r.out _; (with_reducible repeat apply pK); refine blk_far ?_ r.out _; (with_reducible repeat apply pK); refine blk_far ?_ r.out _; (with_reducible repeat apply pK); refine blk_far ?_ r.out _; (with_reducible repeat apply pK); refine blk_far ?_ r.out _; (with_reducible repeat apply pK); refine blk_far ?_ r.out _; (with_reducible repeat apply pK); exact j.out) Tryd.underlying24 rfl (by kernel_rfl)) rfl ?_
      exact ⟨_, _, er_, by (with_reducible repeat apply pV); exact Kd.V_mono (f6V q (f6V a (Kd.V_mono (Kd.V_mono fh.out (fun k_ hk => (⟨hk, hk.2.2.2.2.2.2⟩ : _ ∧ k_ ≠ a))) (fun k_ hk => (⟨hk, hk.1.2.2.2.2.2.1⟩ : _ ∧ k_ ≠ q))) (fun _ hk => hk.1.2)) (fun _ hk => hk.2)) (fun _ hk => hk.1.1.1), Kd.R_V (Kd.R_nil _ _ _ 0 _), bl_⟩
     ·rw [if_neg b2] at H
      have eK : (y == 111) = false := beq_eq_false_iff_ne.mpr b2
      have eL : (y != 111) = true := bne_iff_ne.mpr b2
      simp only [Option.some.injEq, Prod.mk.injEq] at H
      obtain ⟨rfl, rfl, rfl, rfl, rfl, rfl, rfl, rfl⟩ := H
      have nx := aY.out
      have n5 := ax.out
      have ny := aT.out
      have n6 := aq.out
      have nz := aZ.out
      have n7 := r.out
      obtain ⟨dq, dr, dt, du, dv, dw, eu, ev, ew, ex, ey, eA⟩ := cells6 l.out
      have nA := aX.out
      have n8 := aW.out
      have nB := aS.out
      have n9 := aR.out
      obtain ⟨dx, dy, dz, dA, dB, dC, eB, eC, eD, eE, eF, eG⟩ := cells6 j.out
      go_wp2
      refine bodyPost_ret (results_ct rfl _ _ q 24 #[.int .i64 X, .int .i64 ab, .slice an u.length aa, .int .i64 ak, .bool ad, .bool af] (0, 0) _ rfl (by (with_reducible repeat apply pK); refine blk_put (cs := #[.int .i64 X, .int .i64 ab, .slice an u.length aa, .int .i64 ak, .bool ad, .bool false]) ?_ 5 _ rfl; (with_reducible repeat apply pK); refine blk_put (cs := #[.int .i64 X, .int .i64 ab, .slice an u.length aa, .int .i64 ak, .bool false, .bool false]) ?_ 4 _ rfl; (with_reducible repeat apply pK); refine blk_put (cs := #[.int .i64 X, .int .i64 ab, .slice an u.length aa, .int .i64 0, .bool false, .bool false]) ?_ 3 _ rfl; (with_reducible repeat apply pK); refine blk_put (cs := #[.int .i64 X, .int .i64 ab, .slice none 0 0, .int .i64 0, .bool false, .bool false]) ?_ 2 _ rfl; (with_reducible repeat apply pK); refine blk_put (cs := #[.int .i64 X, .int .i64 0, .slice none 0 0, .int .i64 0, .bool false, .bool false]) ?_ 1 _ rfl; (with_reducible repeat apply pK); refine blk_put (cs := #[.int .i64 0, .int .i64 0, .slice none 0 0, .int .i64 0, .bool false, .bool false]) ?_ 0 _ rfl; (with_reducible repeat apply pK); refine blk_far ?_ r.out _; (with_reducible repeat apply pK); refine blk_far ?_ r.out _; (with_reducible repeat apply pK); refine blk_far ?_ r.out _; (with_reducible repeat apply pK); refine blk_far ?_ r.out _; (with_reducible repeat apply pK); refine blk_far ?_ r.out _; (with_reducible repeat apply pK); refine blk_far ?_ r.out _; (with_reducible repeat apply pK); exact j.out) Tryd.underlying24 rfl (by kernel_rfl)) rfl ?_
      exact ⟨_, _, er_, Kd.V_mono (Kd.R_V (by (with_reducible repeat apply pR); exact Kd.R_mono (f6R q (f6R a (Kd.R_types (Kd.R_types al.out l.out (by decide)) j.out (by decide)) (fun _ hk => hk.1.2)) (fun _ hk => hk.2)) (fun _ hk => hk.1.1.1))) (fun k_ hk => by first | exact ⟨(.inr (hk.1)), hk.2⟩ | exact (.inr (hk))), Kd.R_V (Kd.R_nil _ _ _ 0 _), bl_⟩
  case rest =>
   clear hj
   try clear c1
   try clear c2
   try clear p2
   try clear q2
   try clear nb
   try clear nd
   try clear mn
   try clear c3
   try clear c4
   try clear c5
   try clear lZ
   try clear l0
   try clear l1
   try clear l2
   try clear l3
   try clear l4
   try clear b0
   try clear bw
   try clear eH
   try clear cq
   try clear fk
   try clear fl
   try clear l5
   try clear p27
   try clear cf
   try clear lm
   try clear hu
   try clear jI
   try clear l6
   try clear l7
   try clear l8
   try clear l9
   try clear b1
   try clear eI
   try clear eJ
   try clear b2
   try clear eK
   try clear eL
   try clear ma
   try clear mb
   try clear mc
   try clear md
   try clear me
   try clear mf
   try clear mg
   try clear mh
   try clear mi
   try clear mj
   try clear ml
   try clear mm
   try clear cr
   try clear ct
   try clear cu
   try clear cv
   try clear cw
   try clear cx
   try clear cy
   try clear cz
   try clear cA
   try clear cB
   try clear cC
   try clear cD
   try clear cE
   try clear cF
   try clear cG
   try clear cH
   try clear cI
   try clear cJ
   try clear cK
   try clear cL
   try clear cM
   try clear cN
   try clear cO
   try clear cP
   try clear cQ
   try clear cR
   try clear cS
   try clear cT
   try clear cU
   try clear cV
   try clear cW
   try clear cX
   try clear cY
   try clear cZ
   try clear c0
   try clear c7
   try clear c8
   try clear c9
   try clear da
   try clear db
   try clear dc
   try clear dd
   try clear de
   try clear df
   try clear dg
   try clear dh
   try clear di
   try clear dj
   try clear dk
   try clear dl
   try clear dm
   try clear dn
   try clear dp
   try clear dq
   try clear dr
   try clear dt
   try clear du
   try clear dv
   try clear dw
   try clear dx
   try clear dy
   try clear dz
   try clear dA
   try clear dB
   try clear dC
   try clear dD
   try clear dE
   try clear dF
   try clear dG
   try clear dH
   try clear dI
   try clear dJ
   try clear dK
   try clear dL
   try clear dM
   try clear dN
   try clear dO
   try clear dP
   try clear dQ
   try clear dR
   try clear dS
   try clear dT
   try clear dU
   try clear dV
   try clear dW
   try clear dX
   try clear dY
   try clear dZ
   try clear d0
   try clear d1
   try clear d2
   try clear d3
   try clear d4
   try clear d5
   try clear d6
   try clear d7
   try clear d8
   try clear d9
   try clear ea
   try clear eb
   try clear ec
   try clear ed
   try clear ee
   try clear ef
   try clear eg
   try clear eh
   try clear ei
   try clear ej
   try clear ek
   try clear el
   try clear em
   try clear en
   try clear eo
   try clear ep
   try clear eq
   try clear er
   try clear es
   try clear et
   try clear eu
   try clear ev
   try clear ew
   try clear ex
   try clear ey
   try clear eA
   try clear eB
   try clear eC
   try clear eD
   try clear eE
   try clear eF
   try clear eG
   try clear b3
   try clear b4
   try clear b5
   try clear b6
   try clear b7
   try clear b8
   try clear p27
   try clear cf
   try clear cg
   obtain ⟨kq, a0, a1, u283002, HA, hQ, HO_263002, HO_283002, b, d, j, l, HB⟩ := hcut
   cases kq with
   | zero => exact absurd HA.out (by simp [host_Do.j0])
   | succ fs =>
    have H := HA.out
    clear HA
    simp only [host_Do.j0] at H
    have e0 := Z H
    clear H
    have nC := a3.out
    have oa := a2.out
    have nD := aR.out
    have ob := aS.out
    have nE := aq.out
    have oc := aT.out
    obtain ⟨ft, fu, fv, fw, fx, gn, go, gp, gq, gr⟩ := cells5 d.out
    go_upto_if 38 with (fail)
    go_cut [] (fun wc => ∃ (kq : Nat) (aD : Int) (aE : Int) (Y : List (S44)) (ai : Int) (aF : Bool) (aG : Bool) (u283002 : Value), Aside0 (host_Do.j1 kq G J x O P Q y am aj ar ac aD aE Y ai aF aG = some (r1, r2, r3, r4, r5, r6, r7, r8)) ∧ Aside0 (kq ≤ fs) ∧ Aside0 (Kd.V k44 44 wc w.heap.size (fun k_ => (au k_ ∨ w.heap.size ≤ k_) ∧ some k_ ≠ (u283002 : Value).ownBlock ∧ k_ ≠ F ∧ k_ ≠ I ∧ k_ ≠ q ∧ k_ ≠ a) (.slice av x.length aw) x) ∧ Aside0 (Kd.R k44 44 wc w.heap.size (fun k_ => (w.heap.size ≤ k_)) u283002 Y) ∧ Aside0 (wc.heap[F]? = some (.cells #[.int .i64 G, .int .i64 J, (.slice av x.length aw), .int .i64 O, .bool P, .bool Q] 24 (0, 0))) ∧ Aside0 (wc.heap[I]? = some (.cells #[.int .i64 y, .bool am, .bool aj, .bool ar, (.slice aU ac.length aV)] 60 (0, 0))) ∧ Aside0 (wc.heap[q]? = some (.cells #[.int .i64 0, .int .i64 0, (.slice none 0 0), .int .i64 0, .bool false, .bool false] 24 (0, 0))) ∧ Aside0 (wc.heap[a]? = some (.cells #[.int .i64 aD, .int .i64 aE, u283002, .int .i64 ai, .bool aF, .bool aG] 24 (0, 0))) ∧ Aside0 (Below w.heap.size w wc))
    case first =>
     have H := e0.out
     clear e0
     by_cases eS : ar = true
     ·subst eS
      have H1 : ((host_Reset.f X ab a0 a1 ad af true).bind fun bP => (host_Do.j1 fs G J x O P Q y am aj true ac bP.1 bP.2.1 bP.2.2.1 bP.2.2.2.1 bP.2.2.2.2.1 bP.2.2.2.2.2)) = some (r1, r2, r3, r4, r5, r6, r7, r8) := by rw [if_pos rfl] at H; exact H
      clear H
      have H := H1
      clear H1
      replace H := Option.bind_eq_some_iff.mp H
      obtain ⟨⟨ck, cl, cd, cm, cn, co⟩, g9, H⟩ := H
      replace H : (host_Do.j1 fs G J x O P Q y am aj true ac ck cl cd cm cn co) = some (r1, r2, r3, r4, r5, r6, r7, r8) := H
      have lX := Z g9
      clear g9
      have H' := Z H
      clear H
      have nF := aY.out
      have od := ax.out
      have nG := aT.out
      have oe := aq.out
      have nH := aZ.out
      have of := r.out
      obtain ⟨fy, fz, fA, fB, fC, fD, gs, gt, gu, gv, gw, gx⟩ := cells6 l.out
      obtain ⟨hU, hX, h1⟩ := Kd.R_slice HO_283002.out
      subst h1
      go_wp2_with (first | ((with_reducible refine gate_callee (f := 29) rfl ?_); refine goesL_ (some 40) rfl rfl Tryd.func29 (by kernel_rfl) rfl #[.agg #[.int .i64 X, .int .i64 ab, .slice hU a0.length hX, .int .i64 a1, .bool ad, .bool af], .bool true] rfl ag_ ?_; (with_reducible refine (host_Reset.calls X ab _ _ a0 a1 ad af true ck cl cd cm cn co _ ?side1 ?side2 lX.out).mono ?_); (case side1 => repeat (first | exact (Kd.R_reads' HO_283002.out).2.2 | (with_reducible apply pC))); (case side2 => exact (Kd.R_reads' HO_283002.out).2.1); rintro e o3 ⟨oE, rfl, aA, hb⟩; refine ⟨_, rfl, ?_⟩; replace HO_263002 := Z (Kd.V_elder' (vV HO_263002.out) (Kd.R_base aA) hb); have fi := Z (Kd.R_lower (Kd.R_new' (Kd.R_newM (M := fun k_ => (w.heap.size ≤ k_)) aA (below_size bl_) (fun k_ h_ => h_)) (Kd.R_lt (by (with_reducible repeat apply pR); exact HO_283002.out))) (below_size bl_)); replace HO_283002 := Z (Kd.R_elder' (by (with_reducible repeat apply pR); exact HO_283002.out) (Kd.R_base aA) hb); replace b := Z (kb b.out hb); replace d := Z (kb d.out hb); replace j := Z (kb j.out hb); replace l := Z (kb l.out hb); replace HB := Z (below_step bl_ hb); (try clear hb); (try clear bH); (try clear hk); (try clear hi); (try clear aA); obtain ⟨fE, fF, fG, fH, fI, fJ, gy, gz, gA, gB, gC, gD⟩ := cells6 l.out; obtain ⟨eZ, e2, h2⟩ := Kd.R_slice fi.out; subst h2))
      go_meet
      case rel => exact ⟨_, (ck), (cl), (cd), (cm), (cn), (co), (.slice eZ cd.length e2), H', ⟨by have := hQ.out; first | omega | exact Nat.le_refl _⟩, ⟨by (with_reducible repeat apply pV); exact Kd.V_mono (f6V a (Kd.V_mono HO_263002.out (fun k_ hk => (⟨hk, hk.1.2.2.2.2.2⟩ : _ ∧ k_ ≠ a))) (fun _ hk => hk.2)) (fun _ hk => ⟨hk.1.1.1, ⟨hk.1.2, ⟨hk.1.1.2.2.1, ⟨hk.1.1.2.2.2.1, ⟨hk.1.1.2.2.2.2.1, hk.1.1.2.2.2.2.2⟩⟩⟩⟩⟩)⟩, ⟨by (with_reducible repeat apply pR); exact Kd.R_mono (f6R a (Kd.R_types fi.out l.out (by decide)) (fun _ hk => hk.2)) (fun _ hk => hk.1.1.1)⟩, ⟨blk_off b.out ax.out off2_⟩, ⟨blk_off d.out aq.out off2_⟩, ⟨blk_off j.out r.out off2_⟩, ⟨put6 l.out⟩, ⟨bl_⟩⟩
     ·replace eS := Bool.eq_false_iff.mpr eS
      subst eS
      have H1 : (host_Do.j1 fs G J x O P Q y am aj false ac X ab a0 a1 ad af) = some (r1, r2, r3, r4, r5, r6, r7, r8) := by rw [if_neg (show ¬ (false = true) by decide)] at H; exact H
      clear H
      have H := H1
      clear H1
      have H' := Z H
      clear H
      go_wp2
      go_meet
      case rel => exact ⟨_, (X), (ab), (a0), (a1), (ad), (af), (u283002), H', ⟨by have := hQ.out; first | omega | exact Nat.le_refl _⟩, ⟨vV HO_263002.out⟩, ⟨by (with_reducible repeat apply pR); exact HO_283002.out⟩, ⟨vK b.out⟩, ⟨vK d.out⟩, ⟨vK j.out⟩, ⟨vK l.out⟩, ⟨bl_⟩⟩
    case rest =>
     clear e0
     try clear c1
     try clear c2
     try clear p2
     try clear q2
     try clear nb
     try clear nd
     try clear mn
     try clear c3
     try clear c4
     try clear c5
     try clear c6
     try clear lZ
     try clear l0
     try clear l1
     try clear l2
     try clear l3
     try clear l4
     try clear b0
     try clear bw
     try clear eH
     try clear cq
     try clear fk
     try clear fl
     try clear l5
     try clear p27
     try clear cf
     try clear lm
     try clear hu
     try clear jI
     try clear l6
     try clear l7
     try clear l8
     try clear l9
     try clear b1
     try clear eI
     try clear eJ
     try clear b2
     try clear eK
     try clear eL
     try clear ma
     try clear mb
     try clear mc
     try clear md
     try clear me
     try clear mf
     try clear mg
     try clear mh
     try clear mi
     try clear mj
     try clear ml
     try clear mm
     try clear oR
     try clear oS
     try clear oT
     try clear eS
     try clear oU
     try clear oV
     try clear oW
     try clear cr
     try clear ct
     try clear cu
     try clear cv
     try clear cw
     try clear cx
     try clear cy
     try clear cz
     try clear cA
     try clear cB
     try clear cC
     try clear cD
     try clear cE
     try clear cF
     try clear cG
     try clear cH
     try clear cI
     try clear cJ
     try clear cK
     try clear cL
     try clear cM
     try clear cN
     try clear cO
     try clear cP
     try clear cQ
     try clear cR
     try clear cS
     try clear cT
     try clear cU
     try clear cV
     try clear cW
     try clear cX
     try clear cY
     try clear cZ
     try clear c0
     try clear c7
     try clear c8
     try clear c9
     try clear da
     try clear db
     try clear dc
     try clear dd
     try clear de
     try clear df
     try clear dg
     try clear dh
     try clear di
     try clear dj
     try clear dk
     try clear dl
     try clear dm
     try clear dn
     try clear dp
     try clear dq
     try clear dr
     try clear dt
     try clear du
     try clear dv
     try clear dw
     try clear dx
     try clear dy
     try clear dz
     try clear dA
     try clear dB
     try clear dC
     try clear ft
     try clear fu
     try clear fv
     try clear fw
     try clear fx
     try clear fy
     try clear fz
     try clear fA
     try clear fB
     try clear fC
     try clear fD
     try clear fE
     try clear fF
     try clear fG
     try clear fH
     try clear fI
     try clear fJ
     try clear dD
     try clear dE
     try clear dF
     try clear dG
     try clear dH
     try clear dI
     try clear dJ
     try clear dK
     try clear dL
     try clear dM
     try clear dN
     try clear dO
     try clear dP
     try clear dQ
     try clear dR
     try clear dS
     try clear dT
     try clear dU
     try clear dV
     try clear dW
     try clear dX
     try clear dY
     try clear dZ
     try clear d0
     try clear d1
     try clear d2
     try clear d3
     try clear d4
     try clear d5
     try clear d6
     try clear d7
     try clear d8
     try clear d9
     try clear ea
     try clear eb
     try clear ec
     try clear ed
     try clear ee
     try clear ef
     try clear eg
     try clear eh
     try clear ei
     try clear ej
     try clear ek
     try clear el
     try clear em
     try clear en
     try clear eo
     try clear ep
     try clear eq
     try clear er
     try clear es
     try clear et
     try clear eu
     try clear ev
     try clear ew
     try clear ex
     try clear ey
     try clear eA
     try clear eB
     try clear eC
     try clear eD
     try clear eE
     try clear eF
     try clear eG
     try clear gn
     try clear go
     try clear gp
     try clear gq
     try clear gr
     try clear gs
     try clear gt
     try clear gu
     try clear gv
     try clear gw
     try clear gx
     try clear gy
     try clear gz
     try clear gA
     try clear gB
     try clear gC
     try clear gD
     try clear b3
     try clear b4
     try clear b5
     try clear b6
     try clear b7
     try clear b8
     try clear p2
     try clear p27
     try clear q2
     try clear cf
     try clear cg
     obtain ⟨kq, aD, aE, Y, ai, aF, aG, u283002, HA, ot, HO_263002, HO_283002, b, d, j, l, HB⟩ := hcut
     cases kq with
     | zero => exact absurd HA.out (by simp [host_Do.j1])
     | succ e3 =>
      have H := HA.out
      clear HA
      simp only [host_Do.j1] at H
      replace H := Option.bind_eq_some_iff.mp H
      obtain ⟨⟨aB, aI, az, aL, aO, aP, e7, e8, bW⟩, hc, H⟩ := H
      replace H : (if e8.isNone = true then (if aj = true then ((host_unlocked.f aB aI az aL aO aP).bind fun aK => (some (aK.1, aK.2.1, aK.2.2.1, aK.2.2.2.1, aK.2.2.2.2.1, aK.2.2.2.2.2, none, ([] : List (S184))))) else (some (aB, aI, az, aL, aO, aP, none, ([] : List (S184))))) else (some (G, J, x, O, P, Q, some (e8.getD ez), bW))) = some (r1, r2, r3, r4, r5, r6, r7, r8) := H
      have ha := Z hc
      clear hc
      rcases e8 with _ | e4
      ·have H1 : (if aj = true then ((host_unlocked.f aB aI az aL aO aP).bind fun aK => (some (aK.1, aK.2.1, aK.2.2.1, aK.2.2.2.1, aK.2.2.2.2.1, aK.2.2.2.2.2, none, ([] : List (S184))))) else (some (aB, aI, az, aL, aO, aP, none, ([] : List (S184))))) = some (r1, r2, r3, r4, r5, r6, r7, r8) := by rw [if_pos (show (none : Option Er).isNone = true by rfl)] at H; exact H
       clear H
       have H := H1
       clear H1
       try simp only [errW_none, errW_some]
       by_cases fm : aj = true
       ·subst fm
        have H1 : ((host_unlocked.f aB aI az aL aO aP).bind fun aK => (some (aK.1, aK.2.1, aK.2.2.1, aK.2.2.2.1, aK.2.2.2.2.1, aK.2.2.2.2.2, none, ([] : List (S184))))) = some (r1, r2, r3, r4, r5, r6, r7, r8) := by rw [if_pos rfl] at H; exact H
        clear H
        have H := H1
        clear H1
        replace H := Option.bind_eq_some_iff.mp H
        obtain ⟨⟨bs, bD, bM, bX, ce, cp⟩, he, H⟩ := H
        replace H : (some (bs, bD, bM, bX, ce, cp, none, ([] : List (S184)))) = some (r1, r2, r3, r4, r5, r6, r7, r8) := H
        have lY := Z he
        clear he
        simp only [Option.some.injEq, Prod.mk.injEq] at H
        obtain ⟨rfl, rfl, rfl, rfl, rfl, rfl, rfl, rfl⟩ := H
        have nI := aY.out
        have og := ax.out
        have nJ := aT.out
        have oh := aq.out
        have nK := aZ.out
        have oi := r.out
        obtain ⟨ly, lz, lA, lB, lC, lD, lJ, lK, lL, lM, lN, lO⟩ := cells6 l.out
        have nL := a3.out
        have oj := a2.out
        have nM := aR.out
        have ol := aS.out
        obtain ⟨lE, lF, lG, lH, lI, lP, lQ, lR, lS, lT⟩ := cells5 d.out
        obtain ⟨bT, bU, h3⟩ := Kd.R_slice HO_283002.out
        subst h3
        go_wp2_with (first | ((with_reducible refine gate_callee (f := 24) rfl ?_); refine goesL_ (some 47) rfl rfl Tryd.func24 (by kernel_rfl) rfl #[.agg #[.int .i64 aD, .int .i64 aE, .slice bT Y.length bU, .int .i64 ai, .bool aF, .bool aG], .int .i64 ai, .slice aU ac.length aV] rfl ag_ ?_; (with_reducible refine (paint_All.calls e3 aD aE (fun k_ => some k_ = (.slice bT Y.length bU : Value).ownBlock) _ _ Y ai aF aG ai _ _ ac aB aI az aL aO aP e7 none bW _ ?side1 ?side2 ?side3 ha.out).mono ?_); (case side1 => exact Kd.R_V (Kd.R_tight rfl (Kd.R_types (Kd.R_types (Kd.R_types (Kd.R_types (HO_283002.out) b.out (by decide)) d.out (by decide)) j.out (by decide)) l.out (by decide)))); (case side2 => repeat (first | exact (Kd.C_below bZ.out HB.out) | (with_reducible apply pC))); (case side3 => exact bY.out); rintro e o4 ⟨hy, eR, rfl, aA, bq, hb⟩; refine ⟨_, rfl, ?_⟩; replace HO_263002 := Z (vb HO_263002.out hb); have ay := Z (Kd.V_lower (Kd.V_mono (ok' := fun k_ => (au k_ ∨ w.heap.size ≤ k_) ∧ k_ ≠ F ∧ k_ ≠ I ∧ k_ ≠ q ∧ k_ ≠ a) aA (fun k_ hk_ => ⟨Or.elim hk_ (fun hs_ => (.inr (((Kd.R_types (Kd.R_types (Kd.R_types (Kd.R_types (HO_283002.out) b.out (by decide)) d.out (by decide)) j.out (by decide)) l.out (by decide)).1 k_ hs_.symm).1.1.1.1))) (fun hn_ => (ir_ hn_)), Or.elim hk_ (fun hs_ => ((Kd.R_types (Kd.R_types (Kd.R_types (Kd.R_types (HO_283002.out) b.out (by decide)) d.out (by decide)) j.out (by decide)) l.out (by decide)).1 k_ hs_.symm).1.1.1.2) (fun hn_ => (fb b.out k_ hn_)), Or.elim hk_ (fun hs_ => ((Kd.R_types (Kd.R_types (Kd.R_types (Kd.R_types (HO_283002.out) b.out (by decide)) d.out (by decide)) j.out (by decide)) l.out (by decide)).1 k_ hs_.symm).1.1.2) (fun hn_ => (fb d.out k_ hn_)), Or.elim hk_ (fun hs_ => ((Kd.R_types (Kd.R_types (Kd.R_types (Kd.R_types (HO_283002.out) b.out (by decide)) d.out (by decide)) j.out (by decide)) l.out (by decide)).1 k_ hs_.symm).1.2) (fun hn_ => (fb j.out k_ hn_)), Or.elim hk_ (fun hs_ => ((Kd.R_types (Kd.R_types (Kd.R_types (Kd.R_types (HO_283002.out) b.out (by decide)) d.out (by decide)) j.out (by decide)) l.out (by decide)).1 k_ hs_.symm).2) (fun hn_ => (fb l.out k_ hn_))⟩)) (below_size bl_)); have aC := Z (Kd.V_lower (Kd.V_mono (ok' := fun k_ => (au k_ ∨ w.heap.size ≤ k_) ∧ k_ ≠ F ∧ k_ ≠ I ∧ k_ ≠ q ∧ k_ ≠ a) bq (fun k_ hk_ => ⟨Or.elim hk_ (fun hs_ => (.inr (((Kd.R_types (Kd.R_types (Kd.R_types (Kd.R_types (HO_283002.out) b.out (by decide)) d.out (by decide)) j.out (by decide)) l.out (by decide)).1 k_ hs_.symm).1.1.1.1))) (fun hn_ => (ir_ hn_)), Or.elim hk_ (fun hs_ => ((Kd.R_types (Kd.R_types (Kd.R_types (Kd.R_types (HO_283002.out) b.out (by decide)) d.out (by decide)) j.out (by decide)) l.out (by decide)).1 k_ hs_.symm).1.1.1.2) (fun hn_ => (fb b.out k_ hn_)), Or.elim hk_ (fun hs_ => ((Kd.R_types (Kd.R_types (Kd.R_types (Kd.R_types (HO_283002.out) b.out (by decide)) d.out (by decide)) j.out (by decide)) l.out (by decide)).1 k_ hs_.symm).1.1.2) (fun hn_ => (fb d.out k_ hn_)), Or.elim hk_ (fun hs_ => ((Kd.R_types (Kd.R_types (Kd.R_types (Kd.R_types (HO_283002.out) b.out (by decide)) d.out (by decide)) j.out (by decide)) l.out (by decide)).1 k_ hs_.symm).1.2) (fun hn_ => (fb j.out k_ hn_)), Or.elim hk_ (fun hs_ => ((Kd.R_types (Kd.R_types (Kd.R_types (Kd.R_types (HO_283002.out) b.out (by decide)) d.out (by decide)) j.out (by decide)) l.out (by decide)).1 k_ hs_.symm).2) (fun hn_ => (fb l.out k_ hn_))⟩)) (below_size bl_)); replace HO_283002 := Z (rb HO_283002.out hb); replace b := Z (kb b.out hb); replace d := Z (kb d.out hb); replace j := Z (kb j.out hb); replace l := Z (kb l.out hb); replace HB := Z (below_step bl_ hb); (try clear hb); (try clear bH); (try clear hk); (try clear hi); (try clear aA); (try clear bq); (try simp only [errW_none, errW_some])) | ((with_reducible refine gate_dst (N := 9) rfl ?_); refine bx_ 9 24 #[.int .i64 0, .int .i64 0, .slice none 0 0, .int .i64 0, .bool false, .bool false] ?_; intro L hg ne hbox hb; replace HO_263002 := Z (ve HO_263002.out hg hb); replace HO_283002 := Z (rb HO_283002.out hb); replace ay := Z (ve ay.out hg hb); replace aC := Z (ve aC.out hg hb); have aQ := Z (hbox); have fg := Z (ln_ hg : w.heap.size ≤ L); have ff := Z (ln_ hg : w.heap.size ≤ L); replace HB := Z (below_step bl_ hb); have a5 := Z (nl b.out hg); have a9 := Z (ng b.out hg); replace b := Z (kb b.out hb); have a6 := Z (nl d.out hg); have ba := Z (ng d.out hg); replace d := Z (kb d.out hb); have ah := Z (nl j.out hg); have bb := Z (ng j.out hg); replace j := Z (kb j.out hb); have a7 := Z (nl l.out hg); have a8 := Z (ng l.out hg); replace l := Z (kb l.out hb); clear hb hbox hg; have nN := a9.out; have om := a5.out; have nO := ba.out; have on := a6.out; have nP := bb.out; have oo := ah.out; have nQ := a8.out; have op := a7.out; obtain ⟨fK, fL, fM, fN, fO, fP, gE, gF, gG, gH, gI, gJ⟩ := cells6 aQ.out; obtain ⟨bF, bG, h4⟩ := Kd.V_slice ay.out; subst h4) | ((with_reducible refine gate_store (t := 24) (p := 9) rfl ?_); (with_reducible refine gateW_ ne ?_); refine sx_ 24 9 ((((((ne.setCell ⟨L, 0, none⟩ (.int .i64 aB)).setCell ⟨L, 1, none⟩ (.int .i64 aI)).setCell ⟨L, 2, none⟩ (.slice bF az.length bG)).setCell ⟨L, 3, none⟩ (.int .i64 aL)).setCell ⟨L, 4, none⟩ (.bool aO)).setCell ⟨L, 5, none⟩ (.bool aP)) ?_ rfl rfl rfl (by refine stS_ rfl ?_ ?_ aQ.out <;> rfl); intro bN hw; have z : Aside0 (Kd.V k44 44 bN w.heap.size (fun k_ => (au k_ ∨ w.heap.size ≤ k_) ∧ some k_ ≠ (.slice bT Y.length bU : Value).ownBlock ∧ k_ ≠ F ∧ k_ ≠ I ∧ k_ ≠ q ∧ k_ ≠ a ∧ k_ ≠ L) (.slice av x.length aw) x) := ⟨(by rw [hw]; exact (by (with_reducible repeat apply pV); exact V_off HO_263002.out (fun k_ hk => hk.2) off2_ (fun _ hk => ⟨hk.1.1, ⟨hk.1.2.1, ⟨hk.1.2.2.1, ⟨hk.1.2.2.2.1, ⟨hk.1.2.2.2.2.1, ⟨hk.1.2.2.2.2.2, hk.2⟩⟩⟩⟩⟩⟩)))⟩; have A : Aside0 (Kd.R k44 44 bN w.heap.size (fun k_ => (w.heap.size ≤ k_)) (.slice bT Y.length bU) Y) := ⟨(by rw [hw]; exact (by (with_reducible repeat apply pR); exact R_off HO_283002.out aQ.out (by decide) off2_))⟩; have B : Aside0 (Kd.V k44 44 bN w.heap.size (fun k_ => (au k_ ∨ w.heap.size ≤ k_) ∧ k_ ≠ F ∧ k_ ≠ I ∧ k_ ≠ q ∧ k_ ≠ a ∧ k_ ≠ L) (.slice bF az.length bG) az) := ⟨(by rw [hw]; exact (by (with_reducible repeat apply pV); exact V_off ay.out (fun k_ hk => hk.2) off2_ (fun _ hk => ⟨hk.1.1, ⟨hk.1.2.1, ⟨hk.1.2.2.1, ⟨hk.1.2.2.2.1, ⟨hk.1.2.2.2.2, hk.2⟩⟩⟩⟩⟩)))⟩; have D : Aside0 (Kd.V k184 184 bN w.heap.size (fun k_ => (au k_ ∨ w.heap.size ≤ k_) ∧ k_ ≠ F ∧ k_ ≠ I ∧ k_ ≠ q ∧ k_ ≠ a ∧ k_ ≠ L) eR bW) := ⟨(by rw [hw]; exact (by (with_reducible repeat apply pV); exact V_off aC.out (fun k_ hk => hk.2) off2_ (fun _ hk => ⟨hk.1.1, ⟨hk.1.2.1, ⟨hk.1.2.2.1, ⟨hk.1.2.2.2.1, ⟨hk.1.2.2.2.2, hk.2⟩⟩⟩⟩⟩)))⟩; have E : Aside0 (bN.heap[F]? = some (.cells #[.int .i64 G, .int .i64 J, .slice av x.length aw, .int .i64 O, .bool P, .bool Q] 24 (0, 0))) := ⟨by rw [hw]; exact (blk_off b.out a5.out off2_)⟩; have U : Aside0 (bN.heap[I]? = some (.cells #[.int .i64 y, .bool am, .bool true, .bool ar, .slice aU ac.length aV] 60 (0, 0))) := ⟨by rw [hw]; exact (blk_off d.out a6.out off2_)⟩; have W : Aside0 (bN.heap[q]? = some (.cells #[.int .i64 0, .int .i64 0, .slice none 0 0, .int .i64 0, .bool false, .bool false] 24 (0, 0))) := ⟨by rw [hw]; exact (blk_off j.out ah.out off2_)⟩; have ae : Aside0 (bN.heap[a]? = some (.cells #[.int .i64 aD, .int .i64 aE, .slice bT Y.length bU, .int .i64 ai, .bool aF, .bool aG] 24 (0, 0))) := ⟨by rw [hw]; exact (blk_off l.out a7.out off2_)⟩; have ao : Aside0 (bN.heap[L]? = some (.cells #[.int .i64 aB, .int .i64 aI, .slice bF az.length bG, .int .i64 aL, .bool aO, .bool aP] 24 (0, 0))) := ⟨by rw [hw]; exact (put6 aQ.out)⟩; have aM : Aside0 (Below w.heap.size w bN) := ⟨by rw [hw]; exact bl_⟩; clear hw HO_263002 HO_283002 ay aC b d j l aQ HB; have HO_263002 := z; have HO_283002 := A; have ay := B; have aC := D; have b := E; have d := U; have j := W; have l := ae; have aQ := ao; have HB := aM; clear z A B D E U W ae ao aM; (try clear fK); (try clear gE); (try clear fL); (try clear gF); (try clear fM); (try clear gG); (try clear fN); (try clear gH); (try clear fO); (try clear gI); (try clear fP); (try clear gJ); obtain ⟨fQ, fR, fS, fT, fU, fV, gK, gL, gM, gN, gO, gP⟩ := cells6 aQ.out; obtain ⟨fW, fX, fY, fZ, ga, gb, gQ, gR, gS, gT, gU, gV⟩ := cells6 l.out) | ((with_reducible refine gate_store (t := 24) (p := 8) rfl ?_); (with_reducible refine gateW_ bN ?_); refine sx_ 24 8 ((((((bN.setCell ⟨a, 0, none⟩ (.int .i64 aB)).setCell ⟨a, 1, none⟩ (.int .i64 aI)).setCell ⟨a, 2, none⟩ (.slice bF az.length bG)).setCell ⟨a, 3, none⟩ (.int .i64 aL)).setCell ⟨a, 4, none⟩ (.bool aO)).setCell ⟨a, 5, none⟩ (.bool aP)) ?_ rfl rfl rfl (by refine stS_ rfl ?_ ?_ l.out <;> rfl); intro bS hw; have z : Aside0 (Kd.V k44 44 bS w.heap.size (fun k_ => (au k_ ∨ w.heap.size ≤ k_) ∧ some k_ ≠ (.slice bT Y.length bU : Value).ownBlock ∧ k_ ≠ F ∧ k_ ≠ I ∧ k_ ≠ q ∧ k_ ≠ a ∧ k_ ≠ L) (.slice av x.length aw) x) := ⟨(by rw [hw]; exact (by (with_reducible repeat apply pV); exact V_off HO_263002.out (fun k_ hk => hk.2.2.2.2.2.1) off2_ (fun _ hk => ⟨hk.1, ⟨hk.2.1, ⟨hk.2.2.1, ⟨hk.2.2.2.1, ⟨hk.2.2.2.2.1, ⟨hk.2.2.2.2.2.1, hk.2.2.2.2.2.2⟩⟩⟩⟩⟩⟩)))⟩; have A : Aside0 (Kd.R k44 44 bS w.heap.size (fun k_ => (w.heap.size ≤ k_)) (.slice bT Y.length bU) Y) := ⟨(by rw [hw]; exact (by (with_reducible repeat apply pR); exact R_off HO_283002.out l.out (by decide) off2_))⟩; have B : Aside0 (Kd.V k44 44 bS w.heap.size (fun k_ => (au k_ ∨ w.heap.size ≤ k_) ∧ k_ ≠ F ∧ k_ ≠ I ∧ k_ ≠ q ∧ k_ ≠ a ∧ k_ ≠ L) (.slice bF az.length bG) az) := ⟨(by rw [hw]; exact (by (with_reducible repeat apply pV); exact V_off ay.out (fun k_ hk => hk.2.2.2.2.1) off2_ (fun _ hk => ⟨hk.1, ⟨hk.2.1, ⟨hk.2.2.1, ⟨hk.2.2.2.1, ⟨hk.2.2.2.2.1, hk.2.2.2.2.2⟩⟩⟩⟩⟩)))⟩; have D : Aside0 (Kd.V k184 184 bS w.heap.size (fun k_ => (au k_ ∨ w.heap.size ≤ k_) ∧ k_ ≠ F ∧ k_ ≠ I ∧ k_ ≠ q ∧ k_ ≠ a ∧ k_ ≠ L) eR bW) := ⟨(by rw [hw]; exact (by (with_reducible repeat apply pV); exact V_off aC.out (fun k_ hk => hk.2.2.2.2.1) off2_ (fun _ hk => ⟨hk.1, ⟨hk.2.1, ⟨hk.2.2.1, ⟨hk.2.2.2.1, ⟨hk.2.2.2.2.1, hk.2.2.2.2.2⟩⟩⟩⟩⟩)))⟩; have E : Aside0 (bS.heap[F]? = some (.cells #[.int .i64 G, .int .i64 J, .slice av x.length aw, .int .i64 O, .bool P, .bool Q] 24 (0, 0))) := ⟨by rw [hw]; exact (blk_off b.out ax.out off2_)⟩; have U : Aside0 (bS.heap[I]? = some (.cells #[.int .i64 y, .bool am, .bool true, .bool ar, .slice aU ac.length aV] 60 (0, 0))) := ⟨by rw [hw]; exact (blk_off d.out aq.out off2_)⟩; have W : Aside0 (bS.heap[q]? = some (.cells #[.int .i64 0, .int .i64 0, .slice none 0 0, .int .i64 0, .bool false, .bool false] 24 (0, 0))) := ⟨by rw [hw]; exact (blk_off j.out r.out off2_)⟩; have ae : Aside0 (bS.heap[a]? = some (.cells #[.int .i64 aB, .int .i64 aI, .slice bF az.length bG, .int .i64 aL, .bool aO, .bool aP] 24 (0, 0))) := ⟨by rw [hw]; exact (put6 l.out)⟩; have ao : Aside0 (bS.heap[L]? = some (.cells #[.int .i64 aB, .int .i64 aI, .slice bF az.length bG, .int .i64 aL, .bool aO, .bool aP] 24 (0, 0))) := ⟨by rw [hw]; exact (blk_off aQ.out a8.out off2_)⟩; have aM : Aside0 (Below w.heap.size w bS) := ⟨by rw [hw]; exact bl_⟩; clear hw HO_263002 HO_283002 ay aC b d j l aQ HB; have HO_263002 := z; have HO_283002 := A; have ay := B; have aC := D; have b := E; have d := U; have j := W; have l := ae; have aQ := ao; have HB := aM; clear z A B D E U W ae ao aM; (try clear fQ); (try clear gK); (try clear fR); (try clear gL); (try clear fS); (try clear gM); (try clear fT); (try clear gN); (try clear fU); (try clear gO); (try clear fV); (try clear gP); (try clear fW); (try clear gQ); (try clear fX); (try clear gR); (try clear fY); (try clear gS); (try clear fZ); (try clear gT); (try clear ga); (try clear gU); (try clear gb); (try clear gV); obtain ⟨gc, gd, ge, gf, gg, gW, gX, gY, gZ, g0⟩ := cells5 d.out; obtain ⟨gh, gi, gj, gk, gl, gm, g1, g2, g3, g4, g5, g6⟩ := cells6 l.out) | ((with_reducible refine gate_callee (f := 49) rfl ?_); refine goesL_ (some 60) rfl rfl Tryd.func49 (by kernel_rfl) rfl #[.agg #[.int .i64 aB, .int .i64 aI, .slice bF az.length bG, .int .i64 aL, .bool aO, .bool aP]] rfl ag_ ?_; (with_reducible refine (host_unlocked.calls aB aI (fun k_ => ((au k_ ∨ w.heap.size ≤ k_) ∧ (k_ ≠ F ∧ (k_ ≠ I ∧ (k_ ≠ q ∧ (k_ ≠ a ∧ k_ ≠ L)))))) _ _ az aL aO aP bs bD bM bX ce cp _ ?side1 lY.out).mono ?_); (case side1 => exact ay.out); rintro e oG ⟨oF, rfl, aA, hb⟩; refine ⟨_, rfl, ?_⟩; replace HO_263002 := Z (vb HO_263002.out hb); replace HO_283002 := Z (rb HO_283002.out hb); replace ay := Z (vb ay.out hb); replace aC := Z (vb aC.out hb); have fj := Z (Kd.V_lower (Kd.V_mono (ok' := fun k_ => (au k_ ∨ w.heap.size ≤ k_) ∧ k_ ≠ F ∧ k_ ≠ I ∧ k_ ≠ q ∧ k_ ≠ a ∧ k_ ≠ L) aA (fun k_ hk_ => hk_.elim (fun hs_ => ⟨hs_.1, hs_.2.1, hs_.2.2.1, hs_.2.2.2.1, hs_.2.2.2.2.1, hs_.2.2.2.2.2⟩) (fun hn_ => ⟨(ir_ hn_), (fb b.out k_ hn_), (fb d.out k_ hn_), (fb j.out k_ hn_), (fb l.out k_ hn_), (fb aQ.out k_ hn_)⟩))) (below_size bl_)); replace b := Z (kb b.out hb); replace d := Z (kb d.out hb); replace j := Z (kb j.out hb); replace l := Z (kb l.out hb); replace aQ := Z (kb aQ.out hb); replace HB := Z (below_step bl_ hb); (try clear hb); (try clear bH); (try clear hk); (try clear hi); (try clear aA); (try clear gc); (try clear gW); (try clear gd); (try clear gX); (try clear ge); (try clear gY); (try clear gf); (try clear gZ); (try clear gg); (try clear g0); (try clear gh); (try clear g1); (try clear gi); (try clear g2); (try clear gj); (try clear g3); (try clear gk); (try clear g4); (try clear gl); (try clear g5); (try clear gm); (try clear g6); obtain ⟨h6, h7, h8, h9, ia, ib, jJ, jK, jL, jM, jN, jO⟩ := cells6 l.out; obtain ⟨bO, bQ, hG⟩ := Kd.V_slice fj.out; subst hG; have mo := aX.out; have mN := aW.out; obtain ⟨ic, id, ie, ig, ih, ii, jP, jQ, jR, jS, jT, jU⟩ := cells6 j.out))
        refine bodyPost_ret (results_ct rfl _ _ q 24 #[.int .i64 bs, .int .i64 bD, .slice bO bM.length bQ, .int .i64 bX, .bool ce, .bool cp] (0, 0) _ rfl (by (with_reducible repeat apply pK); refine blk_put (cs := #[.int .i64 bs, .int .i64 bD, .slice bO bM.length bQ, .int .i64 bX, .bool ce, .bool false]) ?_ 5 _ rfl; (with_reducible repeat apply pK); refine blk_put (cs := #[.int .i64 bs, .int .i64 bD, .slice bO bM.length bQ, .int .i64 bX, .bool false, .bool false]) ?_ 4 _ rfl; (with_reducible repeat apply pK); refine blk_put (cs := #[.int .i64 bs, .int .i64 bD, .slice bO bM.length bQ, .int .i64 0, .bool false, .bool false]) ?_ 3 _ rfl; (with_reducible repeat apply pK); refine blk_put (cs := #[.int .i64 bs, .int .i64 bD, .slice none 0 0, .int .i64 0, .bool false, .bool false]) ?_ 2 _ rfl; (with_reducible repeat apply pK); refine blk_put (cs := #[.int .i64 bs, .int .i64 0, .slice none 0 0, .int .i64 0, .bool false, .bool false]) ?_ 1 _ rfl; (with_reducible repeat apply pK); refine blk_put (cs := #[.int .i64 0, .int .i64 0, .slice none 0 0, .int .i64 0, .bool false, .bool false]) ?_ 0 _ rfl; (with_reducible repeat apply pK); refine blk_far ?_ r.out _; (with_reducible repeat apply pK); refine blk_far ?_ r.out _; (with_reducible repeat apply pK); refine blk_far ?_ r.out _; (with_reducible repeat apply pK); refine blk_far ?_ r.out _; (with_reducible repeat apply pK); refine blk_far ?_ r.out _; (with_reducible repeat apply pK); refine blk_far ?_ r.out _; (with_reducible repeat apply pK); exact j.out) Tryd.underlying24 rfl (by kernel_rfl)) rfl ?_
        exact ⟨_, _, er_, by (with_reducible repeat apply pV); exact Kd.V_mono (f6V q (f6V a (Kd.V_mono (Kd.V_mono fj.out (fun k_ hk => (⟨hk, hk.2.2.2.2.1⟩ : _ ∧ k_ ≠ a))) (fun k_ hk => (⟨hk, hk.1.2.2.2.1⟩ : _ ∧ k_ ≠ q))) (fun _ hk => hk.1.2)) (fun _ hk => hk.2)) (fun _ hk => hk.1.1.1), Kd.R_V (Kd.R_nil _ _ _ 0 _), bl_⟩
       ·replace fm := Bool.eq_false_iff.mpr fm
        subst fm
        have H1 : (some (aB, aI, az, aL, aO, aP, none, ([] : List (S184)))) = some (r1, r2, r3, r4, r5, r6, r7, r8) := by rw [if_neg (show ¬ (false = true) by decide)] at H; exact H
        clear H
        have H := H1
        clear H1
        simp only [Option.some.injEq, Prod.mk.injEq] at H
        obtain ⟨rfl, rfl, rfl, rfl, rfl, rfl, rfl, rfl⟩ := H
        have mq := aY.out
        have mO := ax.out
        have mr := aT.out
        have mP := aq.out
        have ms := aZ.out
        have mQ := r.out
        obtain ⟨ij, ik, il, im, io, ip, jV, jW, jX, jY, jZ, j2⟩ := cells6 l.out
        have mt := a3.out
        have mR := a2.out
        have mu := aR.out
        have mS := aS.out
        obtain ⟨iq, ir, it, iu, iv, j3, j4, j5, j6, j7⟩ := cells5 d.out
        obtain ⟨fc, fn, hH⟩ := Kd.R_slice HO_283002.out
        subst hH
        go_wp2_with (first | ((with_reducible refine gate_callee (f := 24) rfl ?_); refine goesL_ (some 47) rfl rfl Tryd.func24 (by kernel_rfl) rfl #[.agg #[.int .i64 aD, .int .i64 aE, .slice fc Y.length fn, .int .i64 ai, .bool aF, .bool aG], .int .i64 ai, .slice aU ac.length aV] rfl ag_ ?_; (with_reducible refine (paint_All.calls e3 aD aE (fun k_ => some k_ = (.slice fc Y.length fn : Value).ownBlock) _ _ Y ai aF aG ai _ _ ac aB aI az aL aO aP e7 none bW _ ?side1 ?side2 ?side3 ha.out).mono ?_); (case side1 => exact Kd.R_V (Kd.R_tight rfl (Kd.R_types (Kd.R_types (Kd.R_types (Kd.R_types (HO_283002.out) b.out (by decide)) d.out (by decide)) j.out (by decide)) l.out (by decide)))); (case side2 => repeat (first | exact (Kd.C_below bZ.out HB.out) | (with_reducible apply pC))); (case side3 => exact bY.out); rintro e oH ⟨hy, eR, rfl, aA, bq, hb⟩; refine ⟨_, rfl, ?_⟩; replace HO_263002 := Z (vb HO_263002.out hb); have ay := Z (Kd.V_lower (Kd.V_mono (ok' := fun k_ => (au k_ ∨ w.heap.size ≤ k_) ∧ k_ ≠ F ∧ k_ ≠ I ∧ k_ ≠ q ∧ k_ ≠ a) aA (fun k_ hk_ => ⟨Or.elim hk_ (fun hs_ => (.inr (((Kd.R_types (Kd.R_types (Kd.R_types (Kd.R_types (HO_283002.out) b.out (by decide)) d.out (by decide)) j.out (by decide)) l.out (by decide)).1 k_ hs_.symm).1.1.1.1))) (fun hn_ => (ir_ hn_)), Or.elim hk_ (fun hs_ => ((Kd.R_types (Kd.R_types (Kd.R_types (Kd.R_types (HO_283002.out) b.out (by decide)) d.out (by decide)) j.out (by decide)) l.out (by decide)).1 k_ hs_.symm).1.1.1.2) (fun hn_ => (fb b.out k_ hn_)), Or.elim hk_ (fun hs_ => ((Kd.R_types (Kd.R_types (Kd.R_types (Kd.R_types (HO_283002.out) b.out (by decide)) d.out (by decide)) j.out (by decide)) l.out (by decide)).1 k_ hs_.symm).1.1.2) (fun hn_ => (fb d.out k_ hn_)), Or.elim hk_ (fun hs_ => ((Kd.R_types (Kd.R_types (Kd.R_types (Kd.R_types (HO_283002.out) b.out (by decide)) d.out (by decide)) j.out (by decide)) l.out (by decide)).1 k_ hs_.symm).1.2) (fun hn_ => (fb j.out k_ hn_)), Or.elim hk_ (fun hs_ => ((Kd.R_types (Kd.R_types (Kd.R_types (Kd.R_types (HO_283002.out) b.out (by decide)) d.out (by decide)) j.out (by decide)) l.out (by decide)).1 k_ hs_.symm).2) (fun hn_ => (fb l.out k_ hn_))⟩)) (below_size bl_)); have aC := Z (Kd.V_lower (Kd.V_mono (ok' := fun k_ => (au k_ ∨ w.heap.size ≤ k_) ∧ k_ ≠ F ∧ k_ ≠ I ∧ k_ ≠ q ∧ k_ ≠ a) bq (fun k_ hk_ => ⟨Or.elim hk_ (fun hs_ => (.inr (((Kd.R_types (Kd.R_types (Kd.R_types (Kd.R_types (HO_283002.out) b.out (by decide)) d.out (by decide)) j.out (by decide)) l.out (by decide)).1 k_ hs_.symm).1.1.1.1))) (fun hn_ => (ir_ hn_)), Or.elim hk_ (fun hs_ => ((Kd.R_types (Kd.R_types (Kd.R_types (Kd.R_types (HO_283002.out) b.out (by decide)) d.out (by decide)) j.out (by decide)) l.out (by decide)).1 k_ hs_.symm).1.1.1.2) (fun hn_ => (fb b.out k_ hn_)), Or.elim hk_ (fun hs_ => ((Kd.R_types (Kd.R_types (Kd.R_types (Kd.R_types (HO_283002.out) b.out (by decide)) d.out (by decide)) j.out (by decide)) l.out (by decide)).1 k_ hs_.symm).1.1.2) (fun hn_ => (fb d.out k_ hn_)), Or.elim hk_ (fun hs_ => ((Kd.R_types (Kd.R_types (Kd.R_types (Kd.R_types (HO_283002.out) b.out (by decide)) d.out (by decide)) j.out (by decide)) l.out (by decide)).1 k_ hs_.symm).1.2) (fun hn_ => (fb j.out k_ hn_)), Or.elim hk_ (fun hs_ => ((Kd.R_types (Kd.R_types (Kd.R_types (Kd.R_types (HO_283002.out) b.out (by decide)) d.out (by decide)) j.out (by decide)) l.out (by decide)).1 k_ hs_.symm).2) (fun hn_ => (fb l.out k_ hn_))⟩)) (below_size bl_)); replace HO_283002 := Z (rb HO_283002.out hb); replace b := Z (kb b.out hb); replace d := Z (kb d.out hb); replace j := Z (kb j.out hb); replace l := Z (kb l.out hb); replace HB := Z (below_step bl_ hb); (try clear hb); (try clear bH); (try clear hk); (try clear hi); (try clear aA); (try clear bq); (try simp only [errW_none, errW_some])) | ((with_reducible refine gate_dst (N := 9) rfl ?_); refine bx_ 9 24 #[.int .i64 0, .int .i64 0, .slice none 0 0, .int .i64 0, .bool false, .bool false] ?_; intro L hg oI hbox hb; replace HO_263002 := Z (ve HO_263002.out hg hb); replace HO_283002 := Z (rb HO_283002.out hb); replace ay := Z (ve ay.out hg hb); replace aC := Z (ve aC.out hg hb); have aQ := Z (hbox); have fg := Z (ln_ hg : w.heap.size ≤ L); have ff := Z (ln_ hg : w.heap.size ≤ L); replace HB := Z (below_step bl_ hb); have a5 := Z (nl b.out hg); have a9 := Z (ng b.out hg); replace b := Z (kb b.out hb); have a6 := Z (nl d.out hg); have ba := Z (ng d.out hg); replace d := Z (kb d.out hb); have ah := Z (nl j.out hg); have bb := Z (ng j.out hg); replace j := Z (kb j.out hb); have a7 := Z (nl l.out hg); have a8 := Z (ng l.out hg); replace l := Z (kb l.out hb); clear hb hbox hg; have mv := a9.out; have mT := a5.out; have mw := ba.out; have mU := a6.out; have mx := bb.out; have mV := ah.out; have my := a8.out; have mW := a7.out; obtain ⟨iw, ix, iy, iz, iA, iB, j8, j9, ka, kc, kd, ke⟩ := cells6 aQ.out; obtain ⟨bt, bx, hI⟩ := Kd.V_slice ay.out; subst hI; obtain ⟨iC, iD, iE, iF, iG, iH, kf, kg, kh, ki, kj, kk⟩ := cells6 l.out; obtain ⟨iI, iJ, iK, iL, iM, kl, km, kn, ko, kp⟩ := cells5 d.out; have mz := aX.out; have mX := aW.out; obtain ⟨iN, iO, iP, iQ, iR, iS, kr, ks, kt, ku, kv, kw⟩ := cells6 j.out))
        refine bodyPost_ret (results_ct rfl _ _ q 24 #[.int .i64 aB, .int .i64 aI, .slice bt az.length bx, .int .i64 aL, .bool aO, .bool aP] (0, 0) _ rfl (by (with_reducible repeat apply pK); refine blk_put (cs := #[.int .i64 aB, .int .i64 aI, .slice bt az.length bx, .int .i64 aL, .bool aO, .bool false]) ?_ 5 _ rfl; (with_reducible repeat apply pK); refine blk_put (cs := #[.int .i64 aB, .int .i64 aI, .slice bt az.length bx, .int .i64 aL, .bool false, .bool false]) ?_ 4 _ rfl; (with_reducible repeat apply pK); refine blk_put (cs := #[.int .i64 aB, .int .i64 aI, .slice bt az.length bx, .int .i64 0, .bool false, .bool false]) ?_ 3 _ rfl; (with_reducible repeat apply pK); refine blk_put (cs := #[.int .i64 aB, .int .i64 aI, .slice none 0 0, .int .i64 0, .bool false, .bool false]) ?_ 2 _ rfl; (with_reducible repeat apply pK); refine blk_put (cs := #[.int .i64 aB, .int .i64 0, .slice none 0 0, .int .i64 0, .bool false, .bool false]) ?_ 1 _ rfl; (with_reducible repeat apply pK); refine blk_put (cs := #[.int .i64 0, .int .i64 0, .slice none 0 0, .int .i64 0, .bool false, .bool false]) ?_ 0 _ rfl; (with_reducible repeat apply pK); refine blk_far ?_ r.out _; (with_reducible repeat apply pK); refine blk_far ?_ r.out _; (with_reducible repeat apply pK); refine blk_far ?_ r.out _; (with_reducible repeat apply pK); refine blk_far ?_ r.out _; (with_reducible repeat apply pK); refine blk_far ?_ r.out _; (with_reducible repeat apply pK); refine blk_far ?_ r.out _; (with_reducible repeat apply pK); refine blk_far ?_ ah.out _; (with_reducible repeat apply pK); refine blk_far ?_ ah.out _; (with_reducible repeat apply pK); refine blk_far ?_ ah.out _; (with_reducible repeat apply pK); refine blk_far ?_ ah.out _; (with_reducible repeat apply pK); refine blk_far ?_ ah.out _; (with_reducible repeat apply pK); refine blk_far ?_ ah.out _; (with_reducible repeat apply pK); exact j.out) Tryd.underlying24 rfl (by kernel_rfl)) rfl ?_
        exact ⟨_, _, er_, by (with_reducible repeat apply pV); exact Kd.V_mono (f6V q (f6V a (f6V L (Kd.V_mono (Kd.V_mono (Kd.V_mono ay.out (fun k_ hk => (⟨hk, hk.2⟩ : _ ∧ k_ ≠ L))) (fun k_ hk => (⟨hk, hk.1.1.2.2.2.2⟩ : _ ∧ k_ ≠ a))) (fun k_ hk => (⟨hk, hk.1.1.1.2.2.2.1⟩ : _ ∧ k_ ≠ q))) (fun _ hk => hk.1.1.2)) (fun _ hk => hk.1.2)) (fun _ hk => hk.2)) (fun _ hk => hk.1.1.1.1.1), Kd.R_V (Kd.R_nil _ _ _ 0 _), bl_⟩
      ·have H1 : (some (G, J, x, O, P, Q, some e4, bW)) = some (r1, r2, r3, r4, r5, r6, r7, r8) := by rw [if_neg (show ¬ (some e4).isNone = true by simp)] at H; exact H
       clear H
       have H := H1
       clear H1
       try simp only [errW_none, errW_some]
       simp only [Option.some.injEq, Prod.mk.injEq] at H
       obtain ⟨rfl, rfl, rfl, rfl, rfl, rfl, rfl, rfl⟩ := H
       have mA := aY.out
       have mY := ax.out
       have mB := aT.out
       have mZ := aq.out
       have mC := aZ.out
       have m0 := r.out
       obtain ⟨iT, iU, iV, iW, iX, iY, kx, ky, kz, kA, kB, kC⟩ := cells6 l.out
       have mD := a3.out
       have m1 := a2.out
       have mE := aR.out
       have m2 := aS.out
       obtain ⟨iZ, ja, jb, jc, jd, kD, kE, kF, kG, kH⟩ := cells5 d.out
       obtain ⟨fd, fo, hJ⟩ := Kd.R_slice HO_283002.out
       subst hJ
       go_wp2_with (first | ((with_reducible refine gate_callee (f := 24) rfl ?_); refine goesL_ (some 47) rfl rfl Tryd.func24 (by kernel_rfl) rfl #[.agg #[.int .i64 aD, .int .i64 aE, .slice fd Y.length fo, .int .i64 ai, .bool aF, .bool aG], .int .i64 ai, .slice aU ac.length aV] rfl ag_ ?_; (with_reducible refine (paint_All.calls e3 aD aE (fun k_ => some k_ = (.slice fd Y.length fo : Value).ownBlock) _ _ Y ai aF aG ai _ _ ac aB aI az aL aO aP e7 (some e4) bW _ ?side1 ?side2 ?side3 ha.out).mono ?_); (case side1 => exact Kd.R_V (Kd.R_tight rfl (Kd.R_types (Kd.R_types (Kd.R_types (Kd.R_types (HO_283002.out) b.out (by decide)) d.out (by decide)) j.out (by decide)) l.out (by decide)))); (case side2 => repeat (first | exact (Kd.C_below bZ.out HB.out) | (with_reducible apply pC))); (case side3 => exact bY.out); rintro e oJ ⟨hy, eR, rfl, aA, bq, hb⟩; refine ⟨_, rfl, ?_⟩; replace HO_263002 := Z (vb HO_263002.out hb); have ay := Z (Kd.V_lower (Kd.V_mono (ok' := fun k_ => (au k_ ∨ w.heap.size ≤ k_) ∧ k_ ≠ F ∧ k_ ≠ I ∧ k_ ≠ q ∧ k_ ≠ a) aA (fun k_ hk_ => ⟨Or.elim hk_ (fun hs_ => (.inr (((Kd.R_types (Kd.R_types (Kd.R_types (Kd.R_types (HO_283002.out) b.out (by decide)) d.out (by decide)) j.out (by decide)) l.out (by decide)).1 k_ hs_.symm).1.1.1.1))) (fun hn_ => (ir_ hn_)), Or.elim hk_ (fun hs_ => ((Kd.R_types (Kd.R_types (Kd.R_types (Kd.R_types (HO_283002.out) b.out (by decide)) d.out (by decide)) j.out (by decide)) l.out (by decide)).1 k_ hs_.symm).1.1.1.2) (fun hn_ => (fb b.out k_ hn_)), Or.elim hk_ (fun hs_ => ((Kd.R_types (Kd.R_types (Kd.R_types (Kd.R_types (HO_283002.out) b.out (by decide)) d.out (by decide)) j.out (by decide)) l.out (by decide)).1 k_ hs_.symm).1.1.2) (fun hn_ => (fb d.out k_ hn_)), Or.elim hk_ (fun hs_ => ((Kd.R_types (Kd.R_types (Kd.R_types (Kd.R_types (HO_283002.out) b.out (by decide)) d.out (by decide)) j.out (by decide)) l.out (by decide)).1 k_ hs_.symm).1.2) (fun hn_ => (fb j.out k_ hn_)), Or.elim hk_ (fun hs_ => ((Kd.R_types (Kd.R_types (Kd.R_types (Kd.R_types (HO_283002.out) b.out (by decide)) d.out (by decide)) j.out (by decide)) l.out (by decide)).1 k_ hs_.symm).2) (fun hn_ => (fb l.out k_ hn_))⟩)) (below_size bl_)); have aC := Z (Kd.V_lower (Kd.V_mono (ok' := fun k_ => (au k_ ∨ w.heap.size ≤ k_) ∧ k_ ≠ F ∧ k_ ≠ I ∧ k_ ≠ q ∧ k_ ≠ a) bq (fun k_ hk_ => ⟨Or.elim hk_ (fun hs_ => (.inr (((Kd.R_types (Kd.R_types (Kd.R_types (Kd.R_types (HO_283002.out) b.out (by decide)) d.out (by decide)) j.out (by decide)) l.out (by decide)).1 k_ hs_.symm).1.1.1.1))) (fun hn_ => (ir_ hn_)), Or.elim hk_ (fun hs_ => ((Kd.R_types (Kd.R_types (Kd.R_types (Kd.R_types (HO_283002.out) b.out (by decide)) d.out (by decide)) j.out (by decide)) l.out (by decide)).1 k_ hs_.symm).1.1.1.2) (fun hn_ => (fb b.out k_ hn_)), Or.elim hk_ (fun hs_ => ((Kd.R_types (Kd.R_types (Kd.R_types (Kd.R_types (HO_283002.out) b.out (by decide)) d.out (by decide)) j.out (by decide)) l.out (by decide)).1 k_ hs_.symm).1.1.2) (fun hn_ => (fb d.out k_ hn_)), Or.elim hk_ (fun hs_ => ((Kd.R_types (Kd.R_types (Kd.R_types (Kd.R_types (HO_283002.out) b.out (by decide)) d.out (by decide)) j.out (by decide)) l.out (by decide)).1 k_ hs_.symm).1.2) (fun hn_ => (fb j.out k_ hn_)), Or.elim hk_ (fun hs_ => ((Kd.R_types (Kd.R_types (Kd.R_types (Kd.R_types (HO_283002.out) b.out (by decide)) d.out (by decide)) j.out (by decide)) l.out (by decide)).1 k_ hs_.symm).2) (fun hn_ => (fb l.out k_ hn_))⟩)) (below_size bl_)); replace HO_283002 := Z (rb HO_283002.out hb); replace b := Z (kb b.out hb); replace d := Z (kb d.out hb); replace j := Z (kb j.out hb); replace l := Z (kb l.out hb); replace HB := Z (below_step bl_ hb); (try clear hb); (try clear bH); (try clear hk); (try clear hi); (try clear aA); (try clear bq); (try simp only [errW_none, errW_some])) | ((with_reducible refine gate_dst (N := 9) rfl ?_); refine bx_ 9 24 #[.int .i64 0, .int .i64 0, .slice none 0 0, .int .i64 0, .bool false, .bool false] ?_; intro L hg oK hbox hb; replace HO_263002 := Z (ve HO_263002.out hg hb); replace HO_283002 := Z (rb HO_283002.out hb); replace ay := Z (ve ay.out hg hb); replace aC := Z (ve aC.out hg hb); have aQ := Z (hbox); have fg := Z (ln_ hg : w.heap.size ≤ L); have ff := Z (ln_ hg : w.heap.size ≤ L); replace HB := Z (below_step bl_ hb); have a5 := Z (nl b.out hg); have a9 := Z (ng b.out hg); replace b := Z (kb b.out hb); have a6 := Z (nl d.out hg); have ba := Z (ng d.out hg); replace d := Z (kb d.out hb); have ah := Z (nl j.out hg); have bb := Z (ng j.out hg); replace j := Z (kb j.out hb); have a7 := Z (nl l.out hg); have a8 := Z (ng l.out hg); replace l := Z (kb l.out hb); clear hb hbox hg; have mF := a9.out; have m3 := a5.out; have mG := ba.out; have m4 := a6.out; have mH := bb.out; have m5 := ah.out; have mI := a8.out; have m6 := a7.out; obtain ⟨je, jf, jg, jh, ji, jj, kI, kJ, kK, kL, kM, kN⟩ := cells6 aQ.out; obtain ⟨fe, fp, hL⟩ := Kd.V_slice ay.out; subst hL; have mJ := aW.out; have m7 := aX.out; obtain ⟨jk, jl, jm, jn, jo, jp, kO, kP, kQ, kR, kS, kT⟩ := cells6 b.out; obtain ⟨jq, jr, js, jt, ju, jv, kU, kV, kW, kX, kY, kZ⟩ := cells6 j.out))
       refine bodyPost_ret (results_ct rfl _ _ q 24 #[.int .i64 G, .int .i64 J, .slice av x.length aw, .int .i64 O, .bool P, .bool Q] (0, 0) _ rfl (by (with_reducible repeat apply pK); refine blk_put (cs := #[.int .i64 G, .int .i64 J, .slice av x.length aw, .int .i64 O, .bool P, .bool false]) ?_ 5 _ rfl; (with_reducible repeat apply pK); refine blk_put (cs := #[.int .i64 G, .int .i64 J, .slice av x.length aw, .int .i64 O, .bool false, .bool false]) ?_ 4 _ rfl; (with_reducible repeat apply pK); refine blk_put (cs := #[.int .i64 G, .int .i64 J, .slice av x.length aw, .int .i64 0, .bool false, .bool false]) ?_ 3 _ rfl; (with_reducible repeat apply pK); refine blk_put (cs := #[.int .i64 G, .int .i64 J, .slice none 0 0, .int .i64 0, .bool false, .bool false]) ?_ 2 _ rfl; (with_reducible repeat apply pK); refine blk_put (cs := #[.int .i64 G, .int .i64 0, .slice none 0 0, .int .i64 0, .bool false, .bool false]) ?_ 1 _ rfl; (with_reducible repeat apply pK); refine blk_put (cs := #[.int .i64 0, .int .i64 0, .slice none 0 0, .int .i64 0, .bool false, .bool false]) ?_ 0 _ rfl; (with_reducible repeat apply pK); refine blk_far ?_ ah.out _; (with_reducible repeat apply pK); refine blk_far ?_ ah.out _; (with_reducible repeat apply pK); refine blk_far ?_ ah.out _; (with_reducible repeat apply pK); refine blk_far ?_ ah.out _; (with_reducible repeat apply pK); refine blk_far ?_ ah.out _; (with_reducible repeat apply pK); refine blk_far ?_ ah.out _; (with_reducible repeat apply pK); exact j.out) Tryd.underlying24 rfl (by kernel_rfl)) rfl ?_
       exact ⟨_, _, er_, by (with_reducible repeat apply pV); exact Kd.V_mono (f6V q (f6V L (Kd.V_mono (Kd.V_mono HO_263002.out (fun k_ hk => (⟨hk, hk.2⟩ : _ ∧ k_ ≠ L))) (fun k_ hk => (⟨hk, hk.1.1.2.2.2.2.1⟩ : _ ∧ k_ ≠ q))) (fun _ hk => hk.1.2)) (fun _ hk => hk.2)) (fun _ hk => hk.1.1.1.1), by (with_reducible repeat apply pV); exact Kd.V_mono (f6V q (f6V L (Kd.V_mono (Kd.V_mono aC.out (fun k_ hk => (⟨hk, hk.2⟩ : _ ∧ k_ ≠ L))) (fun k_ hk => (⟨hk, hk.1.1.2.2.2.1⟩ : _ ∧ k_ ≠ q))) (fun _ hk => hk.1.2)) (fun _ hk => hk.2)) (fun _ hk => hk.1.1.1.1), bl_⟩
 ·have H1 : (some (G, J, x, O, P, Q, some cg, ch)) = some (r1, r2, r3, r4, r5, r6, r7, r8) := by rw [if_neg (show ¬ (some cg).isNone = true by simp)] at H; exact H
  clear H
  have H := H1
  clear H1
  try simp only [errW_none, errW_some]
  simp only [Option.some.injEq, Prod.mk.injEq] at H
  obtain ⟨rfl, rfl, rfl, rfl, rfl, rfl, rfl, rfl⟩ := H
  go_enter Tryd.func31, Tryd.ntmps31
  try go_wp2_with (first | ((with_reducible refine gate_dst (N := 2) rfl ?_); refine bx_ 2 24 #[.int .i64 G, .int .i64 J, .slice av x.length aw, .int .i64 O, .bool P, .bool Q] ?_; intro F hg oL hbox hb; replace s := Z (ve s.out hg hb); have b := Z (hbox); have hC := Z (ln_ hg : w.heap.size ≤ F); have hz := Z (ln_ hg : w.heap.size ≤ F); replace HB := Z (below_step bl_ hb); clear hb hbox hg) | ((with_reducible refine gate_dst (N := 3) rfl ?_); refine bx_ 3 60 #[.int .i64 y, .bool am, .bool aj, .bool ar, .slice aU ac.length aV] ?_; intro I hg oM hbox hb; replace s := Z (ve s.out hg hb); have d := Z (hbox); have hD := Z (ln_ hg : w.heap.size ≤ I); have hA := Z (ln_ hg : w.heap.size ≤ I); replace HB := Z (below_step bl_ hb); have a2 := Z (nl b.out hg); have a3 := Z (ng b.out hg); replace b := Z (kb b.out hb); clear hb hbox hg) | ((with_reducible refine gate_dst (N := 4) rfl ?_); refine bx_ 4 24 #[.int .i64 0, .int .i64 0, .slice none 0 0, .int .i64 0, .bool false, .bool false] ?_; intro q hg lx hbox hb; replace s := Z (ve s.out hg hb); have j := Z (hbox); have hE := Z (ln_ hg : w.heap.size ≤ q); have hB := Z (ln_ hg : w.heap.size ≤ q); replace HB := Z (below_step bl_ hb); have aW := Z (nl b.out hg); have aX := Z (ng b.out hg); replace b := Z (kb b.out hb); have aR := Z (nl d.out hg); have aS := Z (ng d.out hg); replace d := Z (kb d.out hb); clear hb hbox hg))
  have z := Z (Kd.V_drew s.out)
  have A := Z (blk_drew b.out)
  have B := Z (blk_drew d.out)
  have D := Z (blk_drew j.out)
  have E := Z (below_drew1 HB.out)
  clear s
  clear b
  clear d
  clear j
  clear HB
  have s := z
  have b := A
  have d := B
  have j := D
  have HB := E
  clear z A B D E
  refine start_ (n := 9) (S := fun w' => w'.cell? ⟨I, 0, none⟩ = some (.int .i64 y) ∧ w'.cell? ⟨I, 1, none⟩ = some (.bool am) ∧ w'.cell? ⟨I, 2, none⟩ = some (.bool aj) ∧ w'.cell? ⟨I, 3, none⟩ = some (.bool ar) ∧ w'.cell? ⟨I, 4, none⟩ = some (.slice aU ac.length aV) ∧ w'.cell? ⟨F, 0, none⟩ = some (.int .i64 G) ∧ w'.cell? ⟨F, 1, none⟩ = some (.int .i64 J) ∧ w'.cell? ⟨F, 2, none⟩ = some (.slice av x.length aw) ∧ w'.cell? ⟨F, 3, none⟩ = some (.int .i64 O) ∧ w'.cell? ⟨F, 4, none⟩ = some (.bool P) ∧ w'.cell? ⟨F, 5, none⟩ = some (.bool Q)) (ds := []) (bv 9 0) (by kernel_rfl) rfl rfl ⟨(blk_cell d.out 0).trans rfl, (blk_cell d.out 1).trans rfl, (blk_cell d.out 2).trans rfl, (blk_cell d.out 3).trans rfl, (blk_cell d.out 4).trans rfl, (blk_cell b.out 0).trans rfl, (blk_cell b.out 1).trans rfl, (blk_cell b.out 2).trans rfl, (blk_cell b.out 3).trans rfl, (blk_cell b.out 4).trans rfl, (blk_cell b.out 5).trans rfl⟩ (fun hHeld => ?_); refine with_tabW host_Do.tab1 host_Do.bits1 (fun HT_ HW_ => ?_)
  generalize lx.drew = oN at s b d j HB hHeld ⊢
  refine take_ (i := 0) (N := some 13) (v := ?_) (a' := ?_) (bv 9 1) rfl rfl (take_ofW HT_.out HW_.out (by kernel_rfl)) (fun _ _ _ h => h) (Or.inl ⟨by rfl, ?_⟩) hHeld ?_ ?_
  rotate_left
  ·rintro w' ⟨s0, s1, s2, s3, s4, s5, s6, s7, s8, s9, hv⟩
   go_simp
   with_reducible rfl
  rotate_left
  ·simp only [Act.put, sA, sB, sC, i64_w, i32_w]
   rfl
  refine take_ (i := 1) (N := some 14) (v := ?_) (a' := ?_) (bv 9 3) rfl rfl (take_ofW HT_.out HW_.out (by kernel_rfl)) (fun _ _ _ h => h) (Or.inl ⟨by rfl, ?_⟩) hHeld ?_ ?_
  rotate_left
  ·rintro w' ⟨s0, s1, s2, s3, s4, s5, s6, s7, s8, s9, hv⟩
   go_simp
   with_reducible rfl
  rotate_left
  ·simp only [Act.put, sA, sB, sC, i64_w, i32_w]
   rfl
  refine one_ (i := 2) (N := some 15) (bv 9 7) rfl rfl (one_of HT_.out (by kernel_rfl)) (by decide) (fun K hK => ?_)
  refine goes_ Tryd.func37 (by kernel_rfl) rfl #[.agg #[.int .i64 G, .int .i64 J, .slice av x.length aw, .int .i64 O, .bool P, .bool Q]] (by rfl) rfl rfl ag_ ?_
  with_reducible refine (grid_Size.calls G J _ _ x O P Q bB _ ?side1 ?side2 A3.out).mono ?_
  (case side1 => repeat (first | exact (Kd.V_reads' s.out).2.2 | (with_reducible apply pC)))
  (case side2 => exact (Kd.V_reads' s.out).2.1)
  rintro e oO ⟨rfl, hb⟩
  refine ⟨_, rfl, ?_⟩
  have z := Z (vb s.out hb)
  have A := Z (kb b.out hb)
  have B := Z (kb d.out hb)
  have D := Z (kb j.out hb)
  have E := Z (below_step bl_ hb)
  clear s
  clear b
  clear d
  clear j
  clear HB
  have s := z
  have b := A
  have d := B
  have j := D
  have HB := E
  clear z A B D E
  (try clear hb)
  (try clear bH)
  (try clear hk)
  (try clear hi)
  refine hK.out _ _ ⟨(blk_cell d.out 0).trans rfl, (blk_cell d.out 1).trans rfl, (blk_cell d.out 2).trans rfl, (blk_cell d.out 3).trans rfl, (blk_cell d.out 4).trans rfl, (blk_cell b.out 0).trans rfl, (blk_cell b.out 1).trans rfl, (blk_cell b.out 2).trans rfl, (blk_cell b.out 3).trans rfl, (blk_cell b.out 4).trans rfl, (blk_cell b.out 5).trans rfl⟩ (fun hHeld => ?_)
  clear hK K
  refine norm_ (a' := ?_) ?_ ?_
  rotate_left
  ·show Act.put _ (some 15) _ = _
   simp only [Act.put, sA, sB, sC, i64_w, i32_w]
   rfl
  refine one_ (i := 3) (N := some 16) (bv 9 15) rfl rfl (one_of HT_.out (by kernel_rfl)) (by decide) (fun K hK => ?_)
  refine goes_ Tryd.func48 (by kernel_rfl) rfl #[.agg #[.int .i64 y, .bool am, .bool aj, .bool ar, .slice aU ac.length aV], .int .i64 bB] (by rfl) rfl rfl ag_ ?_
  with_reducible refine (stream_Write.calls k y am aj ar _ _ ac bB e5 (some cg) ch _ ?side1 ?side2 A4.out).mono ?_
  (case side1 => repeat (first | exact (Kd.C_below bZ.out HB.out) | (with_reducible apply pC)))
  (case side2 => exact bY.out)
  rintro e oP ⟨bE, hx, rfl, aA, bq, hb⟩
  refine ⟨_, rfl, ?_⟩
  have z := Z (Kd.V_elder' (vV s.out) (Kd.R_base aA) hb)
  have A := Z (Kd.R_lower (Kd.R_newM (M := fun k_ => (w.heap.size ≤ k_)) (Kd.R_mono (ok' := fun k_ => True) aA (fun _ hk_ => trivial)) (below_size bl_) (fun k_ h_ => h_)) (below_size bl_))
  have B := Z (Kd.V_lower (Kd.V_mono (ok' := fun k_ => (au k_ ∨ w.heap.size ≤ k_) ∧ some k_ ≠ (bE : Value).ownBlock ∧ k_ ≠ F ∧ k_ ≠ I ∧ k_ ≠ q) bq (fun k_ hk_ => ⟨(.inr (Nat.le_trans (below_size bl_) hk_.1)), hk_.2, (Kd.freshB (g := F) (o := .cells #[.int .i64 G, .int .i64 J, .slice av x.length aw, .int .i64 O, .bool P, .bool Q] 24 (0, 0)) (vK b.out) k_ hk_.1), (Kd.freshB (g := I) (o := .cells #[.int .i64 y, .bool am, .bool aj, .bool ar, .slice aU ac.length aV] 60 (0, 0)) (vK d.out) k_ hk_.1), (Kd.freshB (g := q) (o := .cells #[.int .i64 0, .int .i64 0, .slice none 0 0, .int .i64 0, .bool false, .bool false] 24 (0, 0)) (vK j.out) k_ hk_.1)⟩)) (below_size bl_))
  have D := Z (kb b.out hb)
  have E := Z (kb d.out hb)
  have U := Z (kb j.out hb)
  have W := Z (below_step bl_ hb)
  clear s
  clear b
  clear d
  clear j
  clear HB
  have s := z
  have ap := A
  have aJ := B
  have b := D
  have d := E
  have j := U
  have HB := W
  clear z A B D E U W
  (try clear hb)
  (try clear bH)
  (try clear hk)
  (try clear hi)
  (try clear aA)
  (try clear bq)
  (try simp only [errW_none, errW_some])
  refine hK.out _ _ ⟨(blk_cell d.out 0).trans rfl, (blk_cell d.out 1).trans rfl, (blk_cell d.out 2).trans rfl, (blk_cell d.out 3).trans rfl, (blk_cell d.out 4).trans rfl, (blk_cell b.out 0).trans rfl, (blk_cell b.out 1).trans rfl, (blk_cell b.out 2).trans rfl, (blk_cell b.out 3).trans rfl, (blk_cell b.out 4).trans rfl, (blk_cell b.out 5).trans rfl⟩ (fun hHeld => ?_)
  clear hK K
  refine norm_ (a' := ?_) ?_ ?_
  rotate_left
  ·show Act.put _ (some 16) _ = _
   simp only [Act.put, sA, sB, sC, i64_w, i32_w]
   rfl
  refine pure_ (i := 4) (N := some 12) (v := ?_) (a' := ?_) (bv 9 31) rfl rfl (any_of HT_.out (by kernel_rfl)) (fun _ _ _ h => h) (Or.inl ⟨by rfl, ?_⟩) ?_ ?_
  rotate_left
  ·intro w'
   go_simp
   with_reducible rfl
  rotate_left
  ·simp only [Act.put, sA, sB, sC, i64_w, i32_w]
   rfl
  refine pure_ (i := 5) (N := some 17) (v := ?_) (a' := ?_) (bv 9 63) rfl rfl (any_of HT_.out (by kernel_rfl)) (fun _ _ _ h => h) (Or.inl ⟨by rfl, ?_⟩) ?_ ?_
  rotate_left
  ·intro w'
   go_simp
   with_reducible rfl
  rotate_left
  ·simp only [Act.put, sA, sB, sC, i64_w, i32_w]
   rfl
  refine pure_ (i := 6) (N := some 18) (v := ?_) (a' := ?_) (bv 9 127) rfl rfl (any_of HT_.out (by kernel_rfl)) (fun _ _ _ h => h) (Or.inl ⟨by rfl, ?_⟩) ?_ ?_
  rotate_left
  ·intro w'
   go_simp
   with_reducible rfl
  rotate_left
  ·simp only [Act.put, sA, sB, sC, i64_w, i32_w]
   rfl
  refine pure_ (i := 7) (N := some 6) (v := ?_) (a' := ?_) (bv 9 255) rfl rfl (any_of HT_.out (by kernel_rfl)) (fun _ _ _ h => h) (Or.inl ⟨by rfl, ?_⟩) ?_ ?_
  rotate_left
  ·intro w'
   go_simp
   with_reducible rfl
  rotate_left
  ·simp only [Act.put, sA, sB, sC, i64_w, i32_w]
   rfl
  refine pure_ (i := 8) (N := some 7) (v := ?_) (a' := ?_) (bv 9 511) rfl rfl (any_of HT_.out (by kernel_rfl)) (fun _ _ _ h => h) (Or.inl ⟨by rfl, ?_⟩) ?_ ?_
  rotate_left
  ·intro w'
   go_simp
   with_reducible rfl
  rotate_left
  ·simp only [Act.put, sA, sB, sC, i64_w, i32_w]
   rfl
  refine done_ (done_of HT_.out (by kernel_rfl)) ?_
  have mK := a2.out
  have m8 := a3.out
  have mL := aW.out
  have m9 := aX.out
  obtain ⟨jw, jx, jy, jz, jA, jB, la, lb, lc, ld, le, lf⟩ := cells6 b.out
  have mM := aS.out
  have na := aR.out
  obtain ⟨jC, jD, jE, jF, jG, jH, lg, lh, li, lj, lk, ll⟩ := cells6 j.out
  try go_wp2
  refine bodyPost_ret (results_ct rfl _ _ q 24 #[.int .i64 G, .int .i64 J, .slice av x.length aw, .int .i64 O, .bool P, .bool Q] (0, 0) _ rfl (put6 j.out) Tryd.underlying24 rfl (by kernel_rfl)) rfl ?_
  exact ⟨_, _, er_, by (with_reducible repeat apply pV); exact Kd.V_mono (f6V q (Kd.V_mono s.out (fun k_ hk => (⟨hk, hk.1.2⟩ : _ ∧ k_ ≠ q))) (fun _ hk => hk.2)) (fun _ hk => hk.1.1.1.1.1), by (with_reducible repeat apply pV); exact Kd.V_mono (f6V q (Kd.V_mono aJ.out (fun k_ hk => (⟨hk, hk.2.2.2.2⟩ : _ ∧ k_ ≠ q))) (fun _ hk => hk.2)) (fun _ hk => hk.1.1), bl_⟩
end Go.Proofs.YtgboplhcjhlabaaDoor.P
