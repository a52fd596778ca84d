/- pp.py and press2.py (wip/tools) wrote this text. -/
import Derived.Test.YtgboplhcjhlabaaDoorPx0
import Derived.Test.YtgboplhcjhlabaaDoorPxS
import Derived.Test.YtgboplhcjhlabaaDoorPx0L
import Derived.Test.YtgboplhcjhlabaaDoorPx4
import Derived.Test.YtgboplhcjhlabaaDoorPx7
import Derived.Test.YtgboplhcjhlabaaDoorPx9
import Derived.Test.YtgboplhcjhlabaaDoorPx11
namespace Go.Proofs.YtgboplhcjhlabaaDoor.P
open Go.RowKit Go.Proofs.YtgboplhcjhlabaaDoorW.PrintWords Go.Proofs.YtgboplhcjhlabaaDoorW.PrintLast Go.Proofs.YtgboplhcjhlabaaDoorW.PrintMore
attribute [local go_sem] max2_int min2_int max_two min_two max_three min_three max_four min_four
attribute [local go_sem] Instr.field asAgg
set_option linter.unusedVariables false
set_option linter.unusedSimpArgs false

/-- At this world alone. -/
theorem gateW_ {P : Program} {ops : Array Oper} {l : List Oper} {a : Act} {Q : Exit → Act → World → Prop} (W : World) (h : wpList P ops Q l a W) : wpList P ops Q l a W := h
/-- A screen stored whole into a variable in memory. -/
theorem stS_ {a : Act} {o : Oper} {W : World} {g p q : Nat} {x0 x1 x3 : Int} {A : Option Addr} {n c : Nat} {b4 b5 : Bool} {c0 c1 c2 c3 c4 c5 : Value} (ho : o.op = .store 24 (.tmp p) (.tmp q)) (hp : a.eval (.tmp p) = .pointer (some ⟨g, 0, none⟩)) (hq : a.eval (.tmp q) = .agg #[.int .i64 x0, .int .i64 x1, .slice A n c, .int .i64 x3, .bool b4, .bool b5]) (hb : W.heap[g]? = some (.cells #[c0, c1, c2, c3, c4, c5] 24 (0, 0))) :
    (execOp a.eval o).run Tryd.prog W = .ok .skip ((((((W.setCell ⟨g, 0, none⟩ (.int .i64 x0)).setCell ⟨g, 1, none⟩ (.int .i64 x1)).setCell ⟨g, 2, none⟩ (.slice A n c)).setCell ⟨g, 3, none⟩ (.int .i64 x3)).setCell ⟨g, 4, none⟩ (.bool b4)).setCell ⟨g, 5, none⟩ (.bool b5)) := by
  have hu := Tryd.underlying24
  obtain ⟨z0, z1, z2, z3, z4, z5, y0, y1, y2, y3, y4, y5⟩ := cells6 hb
  clear hb
  unfold execOp
  rw [ho]
  simp only [hp, hq]
  go_simp
/-! ### host_Do: function 31 -/
mutual
def host_Do.j0 : Nat → Int → Int → List (S44) → Int → Bool → Bool → Int → Bool → Bool → Bool → List (S30) → Int → Int → List (S44) → Int → Bool → Bool → Option (Int × Int × (List (S44)) × Int × Bool × Bool × Option Er × (List (S184)))
 | 0, _, _, _, _, _, _, _, _, _, _, _, _, _, _, _, _, _ => none
 | k + 1, c, d, e, g, h, i, j, l, m, b, n, o, p, q, r, s, t => if b = true then ((host_Reset.f o p q r s t true).bind fun a => (host_Do.j1 k c d e g h i j l m b n a.1 a.2.1 a.2.2.1 a.2.2.2.1 a.2.2.2.2.1 a.2.2.2.2.2)) else (host_Do.j1 k c d e g h i j l m b n o p q r s t)
def host_Do.j1 : Nat → Int → Int → List (S44) → Int → Bool → Bool → Int → Bool → Bool → Bool → List (S30) → Int → Int → List (S44) → Int → Bool → Bool → Option (Int × Int × (List (S44)) × Int × Bool × Bool × Option Er × (List (S184)))
 | 0, _, _, _, _, _, _, _, _, _, _, _, _, _, _, _, _, _ => none
 | k + 1, d, e, g, h, i, j, s, t, l, u, m, n, o, p, c, q, r => (paint_All.f n o p c q r c m).bind fun a => (if a.2.2.2.2.2.2.2.1.isNone = true then (if l = true then ((host_unlocked.f a.1 a.2.1 a.2.2.1 a.2.2.2.1 a.2.2.2.2.1 a.2.2.2.2.2.1).bind fun b => (some (b.1, b.2.1, b.2.2.1, b.2.2.2.1, b.2.2.2.2.1, b.2.2.2.2.2, none, ([] : List (S184))))) else (some (a.1, a.2.1, a.2.2.1, a.2.2.2.1, a.2.2.2.2.1, a.2.2.2.2.2.1, none, ([] : List (S184))))) else (some (d, e, g, h, i, j, some (a.2.2.2.2.2.2.2.1.getD ez), a.2.2.2.2.2.2.2.2)))
end
def host_Do.f (k : Nat) (e : Int) (g : Int) (l : List (S44)) (h : Int) (i : Bool) (j : Bool) (d : Int) (n : Bool) (o : Bool) (p : Bool) (q : List (S30)) : Option (Int × Int × (List (S44)) × Int × Bool × Bool × Option Er × (List (S184))) := (grid_Size.f e g l h i j).bind fun r => ((stream_Write.f k d n o p q r).bind fun m => (if m.2.1.isNone = true then ((grid_Copy.f e g l h i j).bind fun a => (if d = 245 then (if 0 < (a.2.2.1.length : Int) then (host_Do.j0 k e g l h i j d n o p q a.1 a.2.1 (List.replicate a.2.2.1.length z44) 0 a.2.2.2.2.1 a.2.2.2.2.2) else (none)) else (if d = 241 then (host_Do.j0 k e g l h i j d n o p q a.1 a.2.1 a.2.2.1 a.2.2.2.1 a.2.2.2.2.1 a.2.2.2.2.2) else (if d = 111 then ((host_clean.f k a.1 a.2.1 a.2.2.1 a.2.2.2.1 a.2.2.2.2.1 a.2.2.2.2.2).bind fun b => ((host_unlocked.f b.1 b.2.1 b.2.2.1 b.2.2.2.1 b.2.2.2.2.1 b.2.2.2.2.2).bind fun c => (some (c.1, c.2.1, c.2.2.1, c.2.2.2.1, c.2.2.2.2.1, c.2.2.2.2.2, none, ([] : List (S184)))))) else (some (a.1, a.2.1, a.2.2.1, a.2.2.2.1, a.2.2.2.2.1, a.2.2.2.2.2, none, ([] : List (S184)))))))) else (some (e, g, l, h, i, j, some (m.2.1.getD ez), m.2.2))))
theorem host_Do.mono_l : ∀ k, (∀ i j l m n o p q s t a b c d e f g, LeO (host_Do.j0 k i j l m n o p q s t a b c d e f g) (host_Do.j0 (k + 1) i j l m n o p q s t a b c d e f g)) ∧ (∀ i j l m n o p q s t a b c d e f g, LeO (host_Do.j1 k i j l m n o p q s t a b c d e f g) (host_Do.j1 (k + 1) i j l m n o p q s t a b c d e f g))
 | 0 => ⟨fun _ _ _ _ _ _ _ _ _ _ _ _ _ _ _ _ _ r h => by simp [host_Do.j0] at h, fun _ _ _ _ _ _ _ _ _ _ _ _ _ _ _ _ _ r h => by simp [host_Do.j1] at h⟩
 | k + 1 => by
  obtain ⟨u, v⟩ := host_Do.mono_l k
  refine ⟨?_, ?_⟩
  ·intro i j l m n o p q s t a b c d e f g
   unfold host_Do.j0
   repeat' first
   | (with_reducible exact u _ _ _ _ _ _ _ _ _ _ _ _ _ _ _ _ _)
   | (with_reducible exact v _ _ _ _ _ _ _ _ _ _ _ _ _ _ _ _ _)
   | (with_reducible exact host_clean.mono _ _ _ _ _ _ _)
   | (with_reducible exact stream_Write.mono _ _ _ _ _ _ _)
   | (with_reducible exact LeO.refl _)
   | (with_reducible exact LeO.none _)
   | (with_reducible refine LeO.ite ?_ ?_)
   | (with_reducible refine LeO.bind ?_ (fun _ => ?_))
   | exact u _ _ _ _ _ _ _ _ _ _ _ _ _ _ _ _ _
   | exact v _ _ _ _ _ _ _ _ _ _ _ _ _ _ _ _ _
   | exact host_clean.mono _ _ _ _ _ _ _
   | exact stream_Write.mono _ _ _ _ _ _ _
   | exact LeO.none _
   | refine LeO.ite ?_ ?_
   | refine LeO.bind ?_ (fun _ => ?_)
  ·intro i j l m n o p q s t a b c d e f g
   unfold host_Do.j1
   repeat' first
   | (with_reducible exact u _ _ _ _ _ _ _ _ _ _ _ _ _ _ _ _ _)
   | (with_reducible exact v _ _ _ _ _ _ _ _ _ _ _ _ _ _ _ _ _)
   | (with_reducible exact host_clean.mono _ _ _ _ _ _ _)
   | (with_reducible exact stream_Write.mono _ _ _ _ _ _ _)
   | (with_reducible exact LeO.refl _)
   | (with_reducible exact LeO.none _)
   | (with_reducible refine LeO.ite ?_ ?_)
   | (with_reducible refine LeO.bind ?_ (fun _ => ?_))
   | exact u _ _ _ _ _ _ _ _ _ _ _ _ _ _ _ _ _
   | exact v _ _ _ _ _ _ _ _ _ _ _ _ _ _ _ _ _
   | exact host_clean.mono _ _ _ _ _ _ _
   | exact stream_Write.mono _ _ _ _ _ _ _
   | exact LeO.none _
   | refine LeO.ite ?_ ?_
   | refine LeO.bind ?_ (fun _ => ?_)
theorem host_Do.mono : ∀ a0 a1 d e a4 g h i j l a k, LeO (host_Do.f k a0 a1 d e a4 g h i j l a) (host_Do.f (k + 1) a0 a1 d e a4 g h i j l a) := by
 intro a0 a1 d e a4 g h i j l a k
 obtain ⟨b, c⟩ := host_Do.mono_l k
 unfold host_Do.f
 repeat' first
   | (with_reducible exact b _ _ _ _ _ _ _ _ _ _ _ _ _ _ _ _ _)
   | (with_reducible exact c _ _ _ _ _ _ _ _ _ _ _ _ _ _ _ _ _)
   | (with_reducible exact host_clean.mono _ _ _ _ _ _ _)
   | (with_reducible exact stream_Write.mono _ _ _ _ _ _ _)
   | (with_reducible exact LeO.refl _)
   | (with_reducible exact LeO.none _)
   | (with_reducible refine LeO.ite ?_ ?_)
   | (with_reducible refine LeO.bind ?_ (fun _ => ?_))
   | exact b _ _ _ _ _ _ _ _ _ _ _ _ _ _ _ _ _
   | exact c _ _ _ _ _ _ _ _ _ _ _ _ _ _ _ _ _
   | exact host_clean.mono _ _ _ _ _ _ _
   | exact stream_Write.mono _ _ _ _ _ _ _
   | exact LeO.none _
   | refine LeO.ite ?_ ?_
   | refine LeO.bind ?_ (fun _ => ?_)
def host_Do.T1 : Bool × List (List Nat × List Nat) := (true, [([], []), ([], []), ([1], [1]), ([0, 2, 2], [0, 2]), ([3], [3]), ([4], [4]), ([4], [4]), ([5, 3, 0, 1, 2, 3, 4, 5], [5]), ([6, 7, 0, 1, 2, 3, 4, 5, 6, 7], [6])])
def host_Do.B1 : List Nat := [0, 0, 2, 7, 15, 31, 31, 63, 255]
theorem host_Do.tab1 : rtab .any (opsOf Tryd.f31 1) = host_Do.T1 := by kernel_rfl
theorem host_Do.bits1 : waitsOk host_Do.T1.2 host_Do.B1 = true := by kernel_rfl
set_option maxHeartbeats 8000000 in
set_option maxRecDepth 100000 in
theorem host_Do.calls (k : Nat) (G : Int) (I : Int) (aH : Nat → Prop) (ap : Option Addr) (ar : Nat) (u : List (S44)) (J : Int) (L : Bool) (P : Bool) (y : Int) (ak : Bool) (al : Bool) (am : Bool) (aO : Option Addr) (aP : Nat) (Y : List (S30)) (r1 : Int) (r2 : Int) (r3 : List (S44)) (r4 : Int) (r5 : Bool) (r6 : Bool) (r7 : Option Er) (r8 : List (S184)) (w : World) (hM : Kd.V k44 44 w w.heap.size (fun k_ => aH k_) (.slice ap u.length ar) u) (fr : Kd.C k30 w aO Y.length Y) (fq : Y.length ≤ aP) (h : host_Do.f k G I u J L P y ak al am Y = some (r1, r2, r3, r4, r5, r6, r7, r8)) :
  Calls Tryd.prog 31 #[.agg #[.int .i64 G, .int .i64 I, .slice ap u.length ar, .int .i64 J, .bool L, .bool P], .agg #[.int .i64 y, .bool ak, .bool al, .bool am, .slice aO Y.length aP]] w fun e w' => ∃ hQ hR : Value, e = .returned (.tuple #[.agg #[.int .i64 r1, .int .i64 r2, hQ, .int .i64 r4, .bool r5, .bool r6], errW hR r7]) ∧ Kd.V k44 44 w' w.heap.size (fun k_ => (aH k_ ∨ w.heap.size ≤ k_)) hQ r3 ∧ Kd.V k184 184 w' w.heap.size (fun k_ => (aH k_ ∨ w.heap.size ≤ k_)) hR r8 ∧ Below w.heap.size w w' := by
 have ow := Tryd.underlying24
 have oy := Tryd.underlying60
 have ox := Tryd.underlying34
 have oz := Tryd.underlying75
 have s := Z (show Kd.V k44 44 w w.heap.size (fun k_ => (aH k_ ∨ w.heap.size ≤ k_)) (.slice ap u.length ar) u from Kd.V_mono hM (fun k_ hk => .inl hk))
 have bZ := Z fr
 have bY := Z fq
 clear fr fq
 have HB := Z (Below.refl w.heap.size w)
 have H : ((grid_Size.f G I u J L P).bind fun bF => ((stream_Write.f k y ak al am Y bF).bind fun bA => (if bA.2.1.isNone = true then ((grid_Copy.f G I u J L P).bind fun m => (if y = 245 then (if 0 < (m.2.2.1.length : Int) then (host_Do.j0 k G I u J L P y ak al am Y m.1 m.2.1 (List.replicate m.2.2.1.length z44) 0 m.2.2.2.2.1 m.2.2.2.2.2) else (none)) else (if y = 241 then (host_Do.j0 k G I u J L P y ak al am Y m.1 m.2.1 m.2.2.1 m.2.2.2.1 m.2.2.2.2.1 m.2.2.2.2.2) else (if y = 111 then ((host_clean.f k m.1 m.2.1 m.2.2.1 m.2.2.2.1 m.2.2.2.2.1 m.2.2.2.2.2).bind fun ah => ((host_unlocked.f ah.1 ah.2.1 ah.2.2.1 ah.2.2.2.1 ah.2.2.2.2.1 ah.2.2.2.2.2).bind fun T => (some (T.1, T.2.1, T.2.2.1, T.2.2.2.1, T.2.2.2.2.1, T.2.2.2.2.2, none, ([] : List (S184)))))) else (some (m.1, m.2.1, m.2.2.1, m.2.2.2.1, m.2.2.2.2.1, m.2.2.2.2.2, none, ([] : List (S184)))))))) else (some (G, I, u, J, L, P, some (bA.2.1.getD ez), bA.2.2))))) = some (r1, r2, r3, r4, r5, r6, r7, r8) := h
 clear h
 replace H := Option.bind_eq_some_iff.mp H
 obtain ⟨bF, hN, H⟩ := H
 replace H : ((stream_Write.f k y ak al am Y bF).bind fun bA => (if bA.2.1.isNone = true then ((grid_Copy.f G I u J L P).bind fun m => (if y = 245 then (if 0 < (m.2.2.1.length : Int) then (host_Do.j0 k G I u J L P y ak al am Y m.1 m.2.1 (List.replicate m.2.2.1.length z44) 0 m.2.2.2.2.1 m.2.2.2.2.2) else (none)) else (if y = 241 then (host_Do.j0 k G I u J L P y ak al am Y m.1 m.2.1 m.2.2.1 m.2.2.2.1 m.2.2.2.2.1 m.2.2.2.2.2) else (if y = 111 then ((host_clean.f k m.1 m.2.1 m.2.2.1 m.2.2.2.1 m.2.2.2.2.1 m.2.2.2.2.2).bind fun ah => ((host_unlocked.f ah.1 ah.2.1 ah.2.2.1 ah.2.2.2.1 ah.2.2.2.2.1 ah.2.2.2.2.2).bind fun T => (some (T.1, T.2.1, T.2.2.1, T.2.2.2.1, T.2.2.2.2.1, T.2.2.2.2.2, none, ([] : List (S184)))))) else (some (m.1, m.2.1, m.2.2.1, m.2.2.2.1, m.2.2.2.2.1, m.2.2.2.2.2, none, ([] : List (S184)))))))) else (some (G, I, u, J, L, P, some (bA.2.1.getD ez), bA.2.2)))) = some (r1, r2, r3, r4, r5, r6, r7, r8) := H
 have A3 := Z hN
 clear hN
 replace H := Option.bind_eq_some_iff.mp H
 obtain ⟨⟨e9, fa, ch⟩, ff, H⟩ := H
 replace H : (if fa.isNone = true then ((grid_Copy.f G I u J L P).bind fun m => (if y = 245 then (if 0 < (m.2.2.1.length : Int) then (host_Do.j0 k G I u J L P y ak al am Y m.1 m.2.1 (List.replicate m.2.2.1.length z44) 0 m.2.2.2.2.1 m.2.2.2.2.2) else (none)) else (if y = 241 then (host_Do.j0 k G I u J L P y ak al am Y m.1 m.2.1 m.2.2.1 m.2.2.2.1 m.2.2.2.2.1 m.2.2.2.2.2) else (if y = 111 then ((host_clean.f k m.1 m.2.1 m.2.2.1 m.2.2.2.1 m.2.2.2.2.1 m.2.2.2.2.2).bind fun ah => ((host_unlocked.f ah.1 ah.2.1 ah.2.2.1 ah.2.2.2.1 ah.2.2.2.2.1 ah.2.2.2.2.2).bind fun T => (some (T.1, T.2.1, T.2.2.1, T.2.2.2.1, T.2.2.2.2.1, T.2.2.2.2.2, none, ([] : List (S184)))))) else (some (m.1, m.2.1, m.2.2.1, m.2.2.2.1, m.2.2.2.2.1, m.2.2.2.2.2, none, ([] : List (S184)))))))) else (some (G, I, u, J, L, P, some (fa.getD ez), ch))) = some (r1, r2, r3, r4, r5, r6, r7, r8) := H
 have A4 := Z ff
 clear ff
 rcases fa with _ | cf
 ·have H1 : ((grid_Copy.f G I u J L P).bind fun m => (if y = 245 then (if 0 < (m.2.2.1.length : Int) then (host_Do.j0 k G I u J L P y ak al am Y m.1 m.2.1 (List.replicate m.2.2.1.length z44) 0 m.2.2.2.2.1 m.2.2.2.2.2) else (none)) else (if y = 241 then (host_Do.j0 k G I u J L P y ak al am Y m.1 m.2.1 m.2.2.1 m.2.2.2.1 m.2.2.2.2.1 m.2.2.2.2.2) else (if y = 111 then ((host_clean.f k m.1 m.2.1 m.2.2.1 m.2.2.2.1 m.2.2.2.2.1 m.2.2.2.2.2).bind fun ah => ((host_unlocked.f ah.1 ah.2.1 ah.2.2.1 ah.2.2.2.1 ah.2.2.2.2.1 ah.2.2.2.2.2).bind fun T => (some (T.1, T.2.1, T.2.2.1, T.2.2.2.1, T.2.2.2.2.1, T.2.2.2.2.2, none, ([] : List (S184)))))) else (some (m.1, m.2.1, m.2.2.1, m.2.2.2.1, m.2.2.2.2.1, m.2.2.2.2.2, none, ([] : List (S184)))))))) = some (r1, r2, r3, r4, r5, r6, r7, r8) := by rw [if_pos (show (none : Option Er).isNone = true by rfl)] at H; exact H
  clear H
  have H := H1
  clear H1
  try simp only [errW_none, errW_some]
  replace H := Option.bind_eq_some_iff.mp H
  obtain ⟨⟨aa, ad, x, an, ae, ag⟩, hO, H⟩ := H
  replace H : (if y = 245 then (if 0 < (x.length : Int) then (host_Do.j0 k G I u J L P y ak al am Y aa ad (List.replicate x.length z44) 0 ae ag) else (none)) else (if y = 241 then (host_Do.j0 k G I u J L P y ak al am Y aa ad x an ae ag) else (if y = 111 then ((host_clean.f k aa ad x an ae ag).bind fun ah => ((host_unlocked.f ah.1 ah.2.1 ah.2.2.1 ah.2.2.2.1 ah.2.2.2.2.1 ah.2.2.2.2.2).bind fun T => (some (T.1, T.2.1, T.2.2.1, T.2.2.2.1, T.2.2.2.2.1, T.2.2.2.2.2, none, ([] : List (S184)))))) else (some (aa, ad, x, an, ae, ag, none, ([] : List (S184))))))) = some (r1, r2, r3, r4, r5, r6, r7, r8) := H
  have A5 := Z hO
  clear hO
  have hj := Z H
  clear H
  go_enter Tryd.func31, Tryd.ntmps31
  try go_wp2_with (first | ((with_reducible refine gate_dst (N := 2) rfl ?_); refine bx_ 2 24 #[.int .i64 G, .int .i64 I, .slice ap u.length ar, .int .i64 J, .bool L, .bool P] ?_; intro O hg w7 hbox hb; replace s := Z (ve s.out hg hb); have b := Z (hbox); have hB := Z (ln_ hg : w.heap.size ≤ O); have hy := Z (ln_ hg : w.heap.size ≤ O); replace HB := Z (below_step bl_ hb); clear hb hbox hg) | ((with_reducible refine gate_dst (N := 3) rfl ?_); refine bx_ 3 60 #[.int .i64 y, .bool ak, .bool al, .bool am, .slice aO Y.length aP] ?_; intro Q hg w8 hbox hb; replace s := Z (ve s.out hg hb); have d := Z (hbox); have hC := Z (ln_ hg : w.heap.size ≤ Q); have hz := Z (ln_ hg : w.heap.size ≤ Q); replace HB := Z (below_step bl_ hb); have a2 := Z (nl b.out hg); have a3 := Z (ng b.out hg); replace b := Z (kb b.out hb); clear hb hbox hg) | ((with_reducible refine gate_dst (N := 4) rfl ?_); refine bx_ 4 24 #[.int .i64 0, .int .i64 0, .slice none 0 0, .int .i64 0, .bool false, .bool false] ?_; intro q hg w9 hbox hb; replace s := Z (ve s.out hg hb); have j := Z (hbox); have hD := Z (ln_ hg : w.heap.size ≤ q); have hA := Z (ln_ hg : w.heap.size ≤ q); replace HB := Z (below_step bl_ hb); have aW := Z (nl b.out hg); have aX := Z (ng b.out hg); replace b := Z (kb b.out hb); have aT := Z (nl d.out hg); have aU := Z (ng d.out hg); replace d := Z (kb d.out hb); clear hb hbox hg))
  have A := Z (Kd.V_drew s.out)
  have B := Z (blk_drew b.out)
  have D := Z (blk_drew d.out)
  have E := Z (blk_drew j.out)
  have F := Z (below_drew1 HB.out)
  clear s
  clear b
  clear d
  clear j
  clear HB
  have s := A
  have b := B
  have d := D
  have j := E
  have HB := F
  clear A B D E F
  refine start_ (n := 9) (S := fun w' => w'.cell? ⟨Q, 0, none⟩ = some (.int .i64 y) ∧ w'.cell? ⟨Q, 1, none⟩ = some (.bool ak) ∧ w'.cell? ⟨Q, 2, none⟩ = some (.bool al) ∧ w'.cell? ⟨Q, 3, none⟩ = some (.bool am) ∧ w'.cell? ⟨Q, 4, none⟩ = some (.slice aO Y.length aP) ∧ w'.cell? ⟨O, 0, none⟩ = some (.int .i64 G) ∧ w'.cell? ⟨O, 1, none⟩ = some (.int .i64 I) ∧ w'.cell? ⟨O, 2, none⟩ = some (.slice ap u.length ar) ∧ w'.cell? ⟨O, 3, none⟩ = some (.int .i64 J) ∧ w'.cell? ⟨O, 4, none⟩ = some (.bool L) ∧ w'.cell? ⟨O, 5, none⟩ = some (.bool P)) (ds := []) (bv 9 0) (by kernel_rfl) rfl rfl ⟨(blk_cell d.out 0).trans rfl, (blk_cell d.out 1).trans rfl, (blk_cell d.out 2).trans rfl, (blk_cell d.out 3).trans rfl, (blk_cell d.out 4).trans rfl, (blk_cell b.out 0).trans rfl, (blk_cell b.out 1).trans rfl, (blk_cell b.out 2).trans rfl, (blk_cell b.out 3).trans rfl, (blk_cell b.out 4).trans rfl, (blk_cell b.out 5).trans rfl⟩ (fun hHeld => ?_); refine with_tabW host_Do.tab1 host_Do.bits1 (fun HT_ HW_ => ?_)
  generalize w9.drew = oX at s b d j HB hHeld ⊢
  refine take_ (i := 0) (N := some 13) (v := ?_) (a' := ?_) (bv 9 1) rfl rfl (take_ofW HT_.out HW_.out (by kernel_rfl)) (fun _ _ _ h => h) (Or.inl ⟨by rfl, ?_⟩) hHeld ?_ ?_
  rotate_left
  ·rintro w' ⟨s0, s1, s2, s3, s4, s5, s6, s7, s8, s9, hv⟩
   go_simp
   with_reducible rfl
  rotate_left
  ·simp only [Act.put, sA, sB, sC, i64_w, i32_w]
   rfl
  refine take_ (i := 1) (N := some 14) (v := ?_) (a' := ?_) (bv 9 3) rfl rfl (take_ofW HT_.out HW_.out (by kernel_rfl)) (fun _ _ _ h => h) (Or.inl ⟨by rfl, ?_⟩) hHeld ?_ ?_
  rotate_left
  ·rintro w' ⟨s0, s1, s2, s3, s4, s5, s6, s7, s8, s9, hv⟩
   go_simp
   with_reducible rfl
  rotate_left
  ·simp only [Act.put, sA, sB, sC, i64_w, i32_w]
   rfl
  refine one_ (i := 2) (N := some 15) (bv 9 7) rfl rfl (one_of HT_.out (by kernel_rfl)) (by decide) (fun K hK => ?_)
  refine goes_ Tryd.func37 (by kernel_rfl) rfl #[.agg #[.int .i64 G, .int .i64 I, .slice ap u.length ar, .int .i64 J, .bool L, .bool P]] (by rfl) rfl rfl ag_ ?_
  with_reducible refine (grid_Size.calls G I _ _ u J L P bF _ ?side1 ?side2 A3.out).mono ?_
  (case side1 => repeat (first | exact (Kd.V_reads' s.out).2.2 | (with_reducible apply pC)))
  (case side2 => exact (Kd.V_reads' s.out).2.1)
  rintro e oY ⟨rfl, hb⟩
  refine ⟨_, rfl, ?_⟩
  have A := Z (vb s.out hb)
  have B := Z (kb b.out hb)
  have D := Z (kb d.out hb)
  have E := Z (kb j.out hb)
  have F := Z (below_step bl_ hb)
  clear s
  clear b
  clear d
  clear j
  clear HB
  have s := A
  have b := B
  have d := D
  have j := E
  have HB := F
  clear A B D E F
  (try clear hb)
  (try clear bJ)
  (try clear hk)
  (try clear hi)
  refine hK.out _ _ ⟨(blk_cell d.out 0).trans rfl, (blk_cell d.out 1).trans rfl, (blk_cell d.out 2).trans rfl, (blk_cell d.out 3).trans rfl, (blk_cell d.out 4).trans rfl, (blk_cell b.out 0).trans rfl, (blk_cell b.out 1).trans rfl, (blk_cell b.out 2).trans rfl, (blk_cell b.out 3).trans rfl, (blk_cell b.out 4).trans rfl, (blk_cell b.out 5).trans rfl⟩ (fun hHeld => ?_)
  clear hK K
  refine norm_ (a' := ?_) ?_ ?_
  rotate_left
  ·show Act.put _ (some 15) _ = _
   simp only [Act.put, sA, sB, sC, i64_w, i32_w]
   rfl
  refine one_ (i := 3) (N := some 16) (bv 9 15) rfl rfl (one_of HT_.out (by kernel_rfl)) (by decide) (fun K hK => ?_)
  refine goes_ Tryd.func48 (by kernel_rfl) rfl #[.agg #[.int .i64 y, .bool ak, .bool al, .bool am, .slice aO Y.length aP], .int .i64 bF] (by rfl) rfl rfl ag_ ?_
  with_reducible refine (stream_Write.calls k y ak al am _ _ Y bF e9 none ch _ ?side1 ?side2 A4.out).mono ?_
  (case side1 => repeat (first | exact (Kd.C_below bZ.out HB.out) | (with_reducible apply pC)))
  (case side2 => exact bY.out)
  rintro e oZ ⟨bI, hx, rfl, aE, bu, hb⟩
  refine ⟨_, rfl, ?_⟩
  have A := Z (Kd.V_elder' (vV s.out) (Kd.R_base aE) hb)
  have B := Z (Kd.R_lower (Kd.R_newM (M := fun k_ => (w.heap.size ≤ k_)) (Kd.R_mono (ok' := fun k_ => True) aE (fun _ hk_ => trivial)) (below_size bl_) (fun k_ h_ => h_)) (below_size bl_))
  have D := Z (Kd.V_lower (Kd.V_mono (ok' := fun k_ => (aH k_ ∨ w.heap.size ≤ k_) ∧ some k_ ≠ (bI : Value).ownBlock ∧ k_ ≠ O ∧ k_ ≠ Q ∧ k_ ≠ q) bu (fun k_ hk_ => ⟨(.inr (Nat.le_trans (below_size bl_) hk_.1)), hk_.2, (Kd.freshB (g := O) (o := .cells #[.int .i64 G, .int .i64 I, .slice ap u.length ar, .int .i64 J, .bool L, .bool P] 24 (0, 0)) (vK b.out) k_ hk_.1), (Kd.freshB (g := Q) (o := .cells #[.int .i64 y, .bool ak, .bool al, .bool am, .slice aO Y.length aP] 60 (0, 0)) (vK d.out) k_ hk_.1), (Kd.freshB (g := q) (o := .cells #[.int .i64 0, .int .i64 0, .slice none 0 0, .int .i64 0, .bool false, .bool false] 24 (0, 0)) (vK j.out) k_ hk_.1)⟩)) (below_size bl_))
  have E := Z (kb b.out hb)
  have F := Z (kb d.out hb)
  have W := Z (kb j.out hb)
  have X := Z (below_step bl_ hb)
  clear s
  clear b
  clear d
  clear j
  clear HB
  have s := A
  have aw := B
  have aK := D
  have b := E
  have d := F
  have j := W
  have HB := X
  clear A B D E F W X
  (try clear hb)
  (try clear bJ)
  (try clear hk)
  (try clear hi)
  (try clear aE)
  (try clear bu)
  (try simp only [errW_none, errW_some])
  refine hK.out _ _ ⟨(blk_cell d.out 0).trans rfl, (blk_cell d.out 1).trans rfl, (blk_cell d.out 2).trans rfl, (blk_cell d.out 3).trans rfl, (blk_cell d.out 4).trans rfl, (blk_cell b.out 0).trans rfl, (blk_cell b.out 1).trans rfl, (blk_cell b.out 2).trans rfl, (blk_cell b.out 3).trans rfl, (blk_cell b.out 4).trans rfl, (blk_cell b.out 5).trans rfl⟩ (fun hHeld => ?_)
  clear hK K
  refine norm_ (a' := ?_) ?_ ?_
  rotate_left
  ·show Act.put _ (some 16) _ = _
   simp only [Act.put, sA, sB, sC, i64_w, i32_w]
   rfl
  refine pure_ (i := 4) (N := some 12) (v := ?_) (a' := ?_) (bv 9 31) rfl rfl (any_of HT_.out (by kernel_rfl)) (fun _ _ _ h => h) (Or.inl ⟨by rfl, ?_⟩) ?_ ?_
  rotate_left
  ·intro w'
   go_simp
   with_reducible rfl
  rotate_left
  ·simp only [Act.put, sA, sB, sC, i64_w, i32_w]
   rfl
  refine pure_ (i := 5) (N := some 17) (v := ?_) (a' := ?_) (bv 9 63) rfl rfl (any_of HT_.out (by kernel_rfl)) (fun _ _ _ h => h) (Or.inl ⟨by rfl, ?_⟩) ?_ ?_
  rotate_left
  ·intro w'
   go_simp
   with_reducible rfl
  rotate_left
  ·simp only [Act.put, sA, sB, sC, i64_w, i32_w]
   rfl
  refine pure_ (i := 6) (N := some 18) (v := ?_) (a' := ?_) (bv 9 127) rfl rfl (any_of HT_.out (by kernel_rfl)) (fun _ _ _ h => h) (Or.inl ⟨by rfl, ?_⟩) ?_ ?_
  rotate_left
  ·intro w'
   go_simp
   with_reducible rfl
  rotate_left
  ·simp only [Act.put, sA, sB, sC, i64_w, i32_w]
   rfl
  refine pure_ (i := 7) (N := some 6) (v := ?_) (a' := ?_) (bv 9 255) rfl rfl (any_of HT_.out (by kernel_rfl)) (fun _ _ _ h => h) (Or.inl ⟨by rfl, ?_⟩) ?_ ?_
  rotate_left
  ·intro w'
   go_simp
   with_reducible rfl
  rotate_left
  ·simp only [Act.put, sA, sB, sC, i64_w, i32_w]
   rfl
  refine pure_ (i := 8) (N := some 7) (v := ?_) (a' := ?_) (bv 9 511) rfl rfl (any_of HT_.out (by kernel_rfl)) (fun _ _ _ h => h) (Or.inl ⟨by rfl, ?_⟩) ?_ ?_
  rotate_left
  ·intro w'
   go_simp
   with_reducible rfl
  rotate_left
  ·simp only [Act.put, sA, sB, sC, i64_w, i32_w]
   rfl
  refine done_ (done_of HT_.out (by kernel_rfl)) ?_
  have nh := a2.out
  have nQ := a3.out
  have ni := aW.out
  have nR := aX.out
  obtain ⟨ct, cu, cv, cw, cx, cy, dE, dF, dG, dH, dI, dJ⟩ := cells6 b.out
  go_upto_block 2 with (first | ((with_reducible refine gate_callee (f := 38) rfl ?_); refine goesL_ (some 24) rfl rfl Tryd.func38 (by kernel_rfl) rfl #[.agg #[.int .i64 G, .int .i64 I, .slice ap u.length ar, .int .i64 J, .bool L, .bool P]] rfl ag_ ?_; (with_reducible refine (grid_Copy.calls G I _ _ u J L P aa ad x an ae ag _ ?side1 ?side2 A5.out).mono ?_); (case side1 => repeat (first | exact (Kd.V_reads' s.out).2.2 | (with_reducible apply pC))); (case side2 => exact (Kd.V_reads' s.out).2.1); rintro e o0 ⟨oB, rfl, aE, hb⟩; refine ⟨_, rfl, ?_⟩; replace s := Z (Kd.V_elder' (vV s.out) (Kd.R_base aE) hb); replace aw := Z (rb aw.out hb); replace aK := Z (Kd.V_elder' (vV aK.out) (Kd.R_base aE) hb); have ao := Z (Kd.R_lower (Kd.R_newM (M := fun k_ => (w.heap.size ≤ k_)) aE (below_size bl_) (fun k_ h_ => h_)) (below_size bl_)); replace b := Z (kb b.out hb); replace d := Z (kb d.out hb); replace j := Z (kb j.out hb); replace HB := Z (below_step bl_ hb); (try clear hb); (try clear bJ); (try clear hk); (try clear hi); (try clear aE)) | ((with_reducible refine gate_dst (N := 8) rfl ?_); refine bx_ 8 24 #[.int .i64 0, .int .i64 0, .slice none 0 0, .int .i64 0, .bool false, .bool false] ?_; intro a hg bT hbox hb; replace s := Z (ve s.out hg hb); replace aw := Z (rb aw.out hb); replace aK := Z (ve aK.out hg hb); replace ao := Z (rb ao.out hb); have l := Z (hbox); have nf := Z (ln_ hg : w.heap.size ≤ a); have ne := Z (ln_ hg : w.heap.size ≤ a); replace HB := Z (below_step bl_ hb); have aD := Z (nl b.out hg); have aY := Z (ng b.out hg); replace b := Z (kb b.out hb); have ax := Z (nl d.out hg); have aV := Z (ng d.out hg); replace d := Z (kb d.out hb); have r := Z (nl j.out hg); have aZ := Z (ng j.out hg); replace j := Z (kb j.out hb); clear hb hbox hg; have nj := aY.out; have nS := aD.out; have nk := aV.out; have nT := ax.out; have nm := aZ.out; have nU := r.out; obtain ⟨cz, cA, cB, cC, cD, cE, dK, dL, dM, dN, dO, dP⟩ := cells6 l.out; obtain ⟨aq, ac, hX⟩ := Kd.R_slice ao.out; subst hX; have nn := aT.out; have nV := aU.out; obtain ⟨cF, cG, cH, cI, cJ, dQ, dR, dS, dT, dU⟩ := cells5 d.out))
  (try simp only [Act.put, sA, sB, sC])
  go_cut [] (fun wc => ∃ (kq : Nat) (a0 : List (S44)) (a1 : Int) (u244002 : Value), Aside0 (host_Do.j0 kq G I u J L P y ak al am Y aa ad a0 a1 ae ag = some (r1, r2, r3, r4, r5, r6, r7, r8)) ∧ Aside0 (kq ≤ k) ∧ Aside0 (Kd.V k44 44 wc w.heap.size (fun k_ => (aH k_ ∨ w.heap.size ≤ k_) ∧ some k_ ≠ (u244002 : Value).ownBlock ∧ k_ ≠ O ∧ k_ ≠ Q ∧ k_ ≠ q ∧ k_ ≠ a) (.slice ap u.length ar) u) ∧ Aside0 (Kd.R k44 44 wc w.heap.size (fun k_ => (w.heap.size ≤ k_)) u244002 a0) ∧ Aside0 (wc.heap[O]? = some (.cells #[.int .i64 G, .int .i64 I, (.slice ap u.length ar), .int .i64 J, .bool L, .bool P] 24 (0, 0))) ∧ Aside0 (wc.heap[Q]? = some (.cells #[.int .i64 y, .bool ak, .bool al, .bool am, (.slice aO Y.length aP)] 60 (0, 0))) ∧ Aside0 (wc.heap[q]? = some (.cells #[.int .i64 0, .int .i64 0, (.slice none 0 0), .int .i64 0, .bool false, .bool false] 24 (0, 0))) ∧ Aside0 (wc.heap[a]? = some (.cells #[.int .i64 aa, .int .i64 ad, u244002, .int .i64 a1, .bool ae, .bool ag] 24 (0, 0))) ∧ Aside0 (Below w.heap.size w wc))
  case first =>
   have H := hj.out
   clear hj
   by_cases b0 : y = 245
   ·rw [if_pos b0] at H
    have bB : (y == 245) = true := beq_iff_eq.mpr b0
    have eK : (y != 245) = false := bne_eq_false_iff_eq.mpr b0
    clear b0
    (first | rw [bB] | (simp only [i64_w, i32_w]; rw [bB]) | skip)
    by_cases cr : 0 < (x.length : Int)
    ·rw [if_pos cr] at H
     have fm : decide (0 < (x.length : Int)) = true := decide_eq_true cr
     have fn : decide (0 < x.length) = true := decide_eq_true (by omega)
     clear cr
     obtain ⟨fe, b9⟩ : ∃ y_ : List (S44), y_ = (List.replicate x.length z44) := ⟨_, rfl⟩
     replace H : (host_Do.j0 k G I u J L P y ak al am Y aa ad fe 0 ae ag) = some (r1, r2, r3, r4, r5, r6, r7, r8) := by first | (rw [b9]; with_reducible exact H) | (have hh := (Option.bind_some _ _).symm.trans H; rw [b9]; with_reducible exact hh) | (have hh := (Option.bind_some _ _).symm.trans H; with_reducible exact hh) | with_reducible exact H | (rw [b9]; exact H) | exact H
     have hE := Z b9
     clear b9
     have H' := Z H
     clear H
     have no := aY.out
     have nW := aD.out
     have np := aV.out
     have nX := ax.out
     have nq := aZ.out
     have nY := r.out
     obtain ⟨cK, cL, cM, cN, cO, cP, dV, dW, dX, dY, dZ, d0⟩ := cells6 l.out
     have A : Aside0 (Kd.V k44 44 ((((((bT.setCell ⟨a, 0, none⟩ (.int .i64 aa)).setCell ⟨a, 1, none⟩ (.int .i64 ad)).setCell ⟨a, 2, none⟩ (.slice aq x.length ac)).setCell ⟨a, 3, none⟩ (.int .i64 an)).setCell ⟨a, 4, none⟩ (.bool ae)).setCell ⟨a, 5, none⟩ (.bool ag)) w.heap.size (fun k_ => (aH k_ ∨ w.heap.size ≤ k_) ∧ some k_ ≠ (bI : Value).ownBlock ∧ some k_ ≠ (.slice aq x.length ac : Value).ownBlock ∧ k_ ≠ O ∧ k_ ≠ Q ∧ k_ ≠ q ∧ k_ ≠ a) (.slice ap u.length ar) u) := ⟨by (with_reducible repeat apply pV); exact Kd.V_mono (f6V a (Kd.V_mono s.out (fun k_ hk => (⟨hk, hk.2⟩ : _ ∧ k_ ≠ a))) (fun _ hk => hk.2)) (fun _ hk => ⟨hk.1.1.1.1.1.1.1, ⟨hk.1.1.1.2, ⟨hk.1.1.2, ⟨hk.1.1.1.1.1.1.2, ⟨hk.1.1.1.1.1.2, ⟨hk.1.1.1.1.2, hk.1.2⟩⟩⟩⟩⟩⟩)⟩
     have B : Aside0 (Kd.R (Kd.int .u8) 5 ((((((bT.setCell ⟨a, 0, none⟩ (.int .i64 aa)).setCell ⟨a, 1, none⟩ (.int .i64 ad)).setCell ⟨a, 2, none⟩ (.slice aq x.length ac)).setCell ⟨a, 3, none⟩ (.int .i64 an)).setCell ⟨a, 4, none⟩ (.bool ae)).setCell ⟨a, 5, none⟩ (.bool ag)) w.heap.size (fun k_ => (w.heap.size ≤ k_)) bI e9) := ⟨by (with_reducible repeat apply pR); exact Kd.R_mono (f6R a (Kd.R_types aw.out l.out (by decide)) (fun _ hk => hk.2)) (fun _ hk => hk.1.1)⟩
     have D : Aside0 (Kd.V k184 184 ((((((bT.setCell ⟨a, 0, none⟩ (.int .i64 aa)).setCell ⟨a, 1, none⟩ (.int .i64 ad)).setCell ⟨a, 2, none⟩ (.slice aq x.length ac)).setCell ⟨a, 3, none⟩ (.int .i64 an)).setCell ⟨a, 4, none⟩ (.bool ae)).setCell ⟨a, 5, none⟩ (.bool ag)) w.heap.size (fun k_ => (aH k_ ∨ w.heap.size ≤ k_) ∧ some k_ ≠ (bI : Value).ownBlock ∧ some k_ ≠ (.slice aq x.length ac : Value).ownBlock ∧ k_ ≠ O ∧ k_ ≠ Q ∧ k_ ≠ q ∧ k_ ≠ a) hx ch) := ⟨by (with_reducible repeat apply pV); exact Kd.V_mono (f6V a (Kd.V_mono aK.out (fun k_ hk => (⟨hk, hk.2⟩ : _ ∧ k_ ≠ a))) (fun _ hk => hk.2)) (fun _ hk => ⟨hk.1.1.1.1, ⟨hk.1.1.1.2.1, ⟨hk.1.1.2, ⟨hk.1.1.1.2.2.1, ⟨hk.1.1.1.2.2.2.1, ⟨hk.1.1.1.2.2.2.2, hk.1.2⟩⟩⟩⟩⟩⟩)⟩
     have E : Aside0 (Kd.R k44 44 ((((((bT.setCell ⟨a, 0, none⟩ (.int .i64 aa)).setCell ⟨a, 1, none⟩ (.int .i64 ad)).setCell ⟨a, 2, none⟩ (.slice aq x.length ac)).setCell ⟨a, 3, none⟩ (.int .i64 an)).setCell ⟨a, 4, none⟩ (.bool ae)).setCell ⟨a, 5, none⟩ (.bool ag)) w.heap.size (fun k_ => (w.heap.size ≤ k_)) (.slice aq x.length ac) x) := ⟨by (with_reducible repeat apply pR); exact Kd.R_mono (f6R a (Kd.R_types ao.out l.out (by decide)) (fun _ hk => hk.2)) (fun _ hk => hk.1.1)⟩
     have F : Aside0 (((((((bT.setCell ⟨a, 0, none⟩ (.int .i64 aa)).setCell ⟨a, 1, none⟩ (.int .i64 ad)).setCell ⟨a, 2, none⟩ (.slice aq x.length ac)).setCell ⟨a, 3, none⟩ (.int .i64 an)).setCell ⟨a, 4, none⟩ (.bool ae)).setCell ⟨a, 5, none⟩ (.bool ag)).heap[O]? = some (.cells #[.int .i64 G, .int .i64 I, .slice ap u.length ar, .int .i64 J, .bool L, .bool P] 24 (0, 0))) := ⟨blk_off b.out aD.out off2_⟩
     have W : Aside0 (((((((bT.setCell ⟨a, 0, none⟩ (.int .i64 aa)).setCell ⟨a, 1, none⟩ (.int .i64 ad)).setCell ⟨a, 2, none⟩ (.slice aq x.length ac)).setCell ⟨a, 3, none⟩ (.int .i64 an)).setCell ⟨a, 4, none⟩ (.bool ae)).setCell ⟨a, 5, none⟩ (.bool ag)).heap[Q]? = some (.cells #[.int .i64 y, .bool ak, .bool al, .bool am, .slice aO Y.length aP] 60 (0, 0))) := ⟨blk_off d.out ax.out off2_⟩
     have X : Aside0 (((((((bT.setCell ⟨a, 0, none⟩ (.int .i64 aa)).setCell ⟨a, 1, none⟩ (.int .i64 ad)).setCell ⟨a, 2, none⟩ (.slice aq x.length ac)).setCell ⟨a, 3, none⟩ (.int .i64 an)).setCell ⟨a, 4, none⟩ (.bool ae)).setCell ⟨a, 5, none⟩ (.bool ag)).heap[q]? = some (.cells #[.int .i64 0, .int .i64 0, .slice none 0 0, .int .i64 0, .bool false, .bool false] 24 (0, 0))) := ⟨blk_off j.out r.out off2_⟩
     have af : Aside0 (((((((bT.setCell ⟨a, 0, none⟩ (.int .i64 aa)).setCell ⟨a, 1, none⟩ (.int .i64 ad)).setCell ⟨a, 2, none⟩ (.slice aq x.length ac)).setCell ⟨a, 3, none⟩ (.int .i64 an)).setCell ⟨a, 4, none⟩ (.bool ae)).setCell ⟨a, 5, none⟩ (.bool ag)).heap[a]? = some (.cells #[.int .i64 aa, .int .i64 ad, .slice aq x.length ac, .int .i64 an, .bool ae, .bool ag] 24 (0, 0))) := ⟨put6 l.out⟩
     have av : Aside0 (Below w.heap.size w ((((((bT.setCell ⟨a, 0, none⟩ (.int .i64 aa)).setCell ⟨a, 1, none⟩ (.int .i64 ad)).setCell ⟨a, 2, none⟩ (.slice aq x.length ac)).setCell ⟨a, 3, none⟩ (.int .i64 an)).setCell ⟨a, 4, none⟩ (.bool ae)).setCell ⟨a, 5, none⟩ (.bool ag))) := ⟨bl_⟩
     (try clear s)
     (try clear aw)
     (try clear aK)
     (try clear ao)
     (try clear b)
     (try clear d)
     (try clear j)
     (try clear l)
     (try clear HB)
     generalize ((((((bT.setCell ⟨a, 0, none⟩ (.int .i64 aa)).setCell ⟨a, 1, none⟩ (.int .i64 ad)).setCell ⟨a, 2, none⟩ (.slice aq x.length ac)).setCell ⟨a, 3, none⟩ (.int .i64 an)).setCell ⟨a, 4, none⟩ (.bool ae)).setCell ⟨a, 5, none⟩ (.bool ag)) = bg at A B D E F W X af av ⊢
     have s := A
     have aw := B
     have aK := D
     have ao := E
     have b := F
     have d := W
     have j := X
     have l := af
     have HB := av
     clear A B D E F W X af av
     obtain ⟨cQ, cR, cS, cT, cU, cV, d1, d2, d3, d4, d5, d6⟩ := cells6 l.out
     have p27 : 0 ≤ (0 : Int) := (by omega)
     have cg : (0 : Int) < ((x.length : Int) : Int) := od_
     have hu : (0 < x.length) = True := eq_true (by omega)
     obtain ⟨aI, ov, hq, hs, h4, ou, hl⟩ := Kd.R_form ao.out (by omega)
     (first | cases hq | (injection hq with ea_ en_ ec_; (first | subst ea_ | (injection ea_ with ea_; subst ea_)); subst ec_; clear en_))
     have hU := Z hs
     have oq := Z hl
     clear hs h4 hl
     obtain ⟨ot, hL, ht, bD, bE⟩ := Kd.R_elem ao.out z44 (0 : Int) p27 cg
     obtain rfl := k44_openM ht
     have b3 : bg.cell? ⟨aI, (0 : Int).toNat * 6, none⟩ = some (.bool ((rd_T44 x 0).f0)) := bD 0 _ rfl
     have b4 : bg.cell? ⟨aI, (0 : Int).toNat * 6 + 1, none⟩ = some (.bool ((rd_T44 x 0).f1.f0)) := bD 1 _ rfl
     have b5 : bg.cell? ⟨aI, (0 : Int).toNat * 6 + 2, none⟩ = some (.bool ((rd_T44 x 0).f1.f1)) := bD 2 _ rfl
     have b6 : bg.cell? ⟨aI, (0 : Int).toNat * 6 + 3, none⟩ = some (.int .i64 ((rd_T44 x 0).f1.f2)) := bD 3 _ rfl
     have b7 : bg.cell? ⟨aI, (0 : Int).toNat * 6 + 4, none⟩ = some (.bool ((rd_T44 x 0).f1.f3)) := bD 4 _ rfl
     have b8 : bg.cell? ⟨aI, (0 : Int).toNat * 6 + 5, none⟩ = some (.int .u8 ((rd_T44 x 0).f2)) := bD 5 _ rfl
     have eY : bg.frozen? ⟨aI, (0 : Int).toNat * 6, none⟩ = false := bE 0
     have eZ : bg.frozen? ⟨aI, (0 : Int).toNat * 6 + 1, none⟩ = false := bE 1
     have e0 : bg.frozen? ⟨aI, (0 : Int).toNat * 6 + 2, none⟩ = false := bE 2
     have e1 : bg.frozen? ⟨aI, (0 : Int).toNat * 6 + 3, none⟩ = false := bE 3
     have e2 : bg.frozen? ⟨aI, (0 : Int).toNat * 6 + 4, none⟩ = false := bE 4
     have e3 : bg.frozen? ⟨aI, (0 : Int).toNat * 6 + 5, none⟩ = false := bE 5
     clear hL bD bE ht
     (try rw [show ((0 : Int)).toNat = 0 from rfl] at b3)
     (try simp only [Nat.reduceMul, Nat.zero_mul, Nat.zero_add, Nat.reduceAdd] at b3)
     (try rw [show ((0 : Int)).toNat = 0 from rfl] at eY)
     (try simp only [Nat.reduceMul, Nat.zero_mul, Nat.zero_add, Nat.reduceAdd] at eY)
     (try rw [show ((0 : Int)).toNat = 0 from rfl] at b4)
     (try simp only [Nat.reduceMul, Nat.zero_mul, Nat.zero_add, Nat.reduceAdd] at b4)
     (try rw [show ((0 : Int)).toNat = 0 from rfl] at eZ)
     (try simp only [Nat.reduceMul, Nat.zero_mul, Nat.zero_add, Nat.reduceAdd] at eZ)
     (try rw [show ((0 : Int)).toNat = 0 from rfl] at b5)
     (try simp only [Nat.reduceMul, Nat.zero_mul, Nat.zero_add, Nat.reduceAdd] at b5)
     (try rw [show ((0 : Int)).toNat = 0 from rfl] at e0)
     (try simp only [Nat.reduceMul, Nat.zero_mul, Nat.zero_add, Nat.reduceAdd] at e0)
     (try rw [show ((0 : Int)).toNat = 0 from rfl] at b6)
     (try simp only [Nat.reduceMul, Nat.zero_mul, Nat.zero_add, Nat.reduceAdd] at b6)
     (try rw [show ((0 : Int)).toNat = 0 from rfl] at e1)
     (try simp only [Nat.reduceMul, Nat.zero_mul, Nat.zero_add, Nat.reduceAdd] at e1)
     (try rw [show ((0 : Int)).toNat = 0 from rfl] at b7)
     (try simp only [Nat.reduceMul, Nat.zero_mul, Nat.zero_add, Nat.reduceAdd] at b7)
     (try rw [show ((0 : Int)).toNat = 0 from rfl] at e2)
     (try simp only [Nat.reduceMul, Nat.zero_mul, Nat.zero_add, Nat.reduceAdd] at e2)
     (try rw [show ((0 : Int)).toNat = 0 from rfl] at b8)
     (try simp only [Nat.reduceMul, Nat.zero_mul, Nat.zero_add, Nat.reduceAdd] at b8)
     (try rw [show ((0 : Int)).toNat = 0 from rfl] at e3)
     (try simp only [Nat.reduceMul, Nat.zero_mul, Nat.zero_add, Nat.reduceAdd] at e3)
     replace p27 := eq_true p27
     replace cg := eq_true cg
     have hm := Z (show Kd.R k44 44 bg w.heap.size (fun k_ => (w.heap.size ≤ k_)) (.slice (some ⟨aI, 0, none⟩) x.length ac) x from (by (with_reducible repeat apply pR); exact ao.out))
     have e6 := clear_all hm.out
     have hV := Z (clear_run hm.out)
     go_wp2_with (first | ((with_reducible refine gate_dst (N := 34) rfl ?_); refine Kd.event_run (v := .slice (some ⟨aI, 0, none⟩) x.length ac) (w1 := bg) rfl ?hr ?_; (case hr => go_simp; first | done | rfl); refine Kd.event_run (v := .tuple #[]) (w1 := bg.setCells aI 0 (zl x.length)) rfl ?hr ?_; (case hr => (have hz_ := hV.out; go_simp; first | done | rfl)); obtain ⟨hS, hw⟩ : ∃ w_ : World, w_ = bg.setCells aI 0 (zl x.length) := ⟨_, rfl⟩; rw [← hw]; have hg : bg.grownBy hS (some aI) := (by rw [hw]; exact e6.2); have hp_ : Kd.R k44 44 hS w.heap.size (fun k_ => (w.heap.size ≤ k_)) (.slice (some ⟨aI, 0, none⟩) x.length ac) fe := (by rw [hw, hE.out]; exact e6.1); clear e6; replace s := Z (Kd.V_afterv (v := (.slice (some ⟨aI, 0, none⟩) x.length ac)) (v1 := (.slice (some ⟨aI, 0, none⟩) x.length ac)) (ok := (fun k_ => (aH k_ ∨ w.heap.size ≤ k_) ∧ some k_ ≠ (bI : Value).ownBlock ∧ k_ ≠ O ∧ k_ ≠ Q ∧ k_ ≠ q ∧ k_ ≠ a)) (by (with_reducible repeat apply pV); exact Kd.V_mono s.out (fun _ hk => ⟨⟨hk.1, ⟨hk.2.1, ⟨hk.2.2.2.1, ⟨hk.2.2.2.2.1, ⟨hk.2.2.2.2.2.1, hk.2.2.2.2.2.2⟩⟩⟩⟩⟩, hk.2.2.1⟩)) hg (.inl rfl)); replace b := Z (blk_grown (g := O) (o := .cells #[.int .i64 G, .int .i64 I, .slice ap u.length ar, .int .i64 J, .bool L, .bool P] 24 (0, 0)) (vK b.out) hg (Kd.R_ne ao.out b.out (by decide))); replace d := Z (blk_grown (g := Q) (o := .cells #[.int .i64 y, .bool ak, .bool al, .bool am, .slice aO Y.length aP] 60 (0, 0)) (vK d.out) hg (Kd.R_ne ao.out d.out (by decide))); replace j := Z (blk_grown (g := q) (o := .cells #[.int .i64 0, .int .i64 0, .slice none 0 0, .int .i64 0, .bool false, .bool false] 24 (0, 0)) (vK j.out) hg (Kd.R_ne ao.out j.out (by decide))); replace aw := Z (Kd.R_over' (v := (.slice (some ⟨aI, 0, none⟩) x.length ac)) (by (with_reducible repeat apply pR); exact aw.out) (Kd.R_typed ao.out) (by decide) hg); replace aK := Z (Kd.V_afterv (v := (.slice (some ⟨aI, 0, none⟩) x.length ac)) (v1 := (.slice (some ⟨aI, 0, none⟩) x.length ac)) (ok := (fun k_ => (aH k_ ∨ w.heap.size ≤ k_) ∧ some k_ ≠ (bI : Value).ownBlock ∧ k_ ≠ O ∧ k_ ≠ Q ∧ k_ ≠ q ∧ k_ ≠ a)) (by (with_reducible repeat apply pV); exact Kd.V_mono aK.out (fun _ hk => ⟨⟨hk.1, ⟨hk.2.1, ⟨hk.2.2.2.1, ⟨hk.2.2.2.2.1, ⟨hk.2.2.2.2.2.1, hk.2.2.2.2.2.2⟩⟩⟩⟩⟩, hk.2.2.1⟩)) hg (.inl rfl)); replace l := Z (blk_grown (g := a) (o := .cells #[.int .i64 aa, .int .i64 ad, .slice (some ⟨aI, 0, none⟩) x.length ac, .int .i64 an, .bool ae, .bool ag] 24 (0, 0)) (vK l.out) hg (Kd.R_ne ao.out l.out (by decide))); replace ao := Z (hp_); replace HB := Z (HB.out.grown hg HB.out.size (fun k_ e_ => by injection e_ with e_; rw [← e_]; exact hU.out)); clear hg hw hp_; obtain ⟨cW, cX, cY, cZ, c0, c7, d7, d8, d9, ea, eb, ec⟩ := cells6 l.out))
     go_meet
     case rel => exact ⟨_, (fe), (0), (.slice (some ⟨aI, 0, none⟩) x.length ac), H', ⟨by first | omega | exact Nat.le_refl _⟩, ⟨by (with_reducible repeat apply pV); exact Kd.V_mono (Kd.V_far (p := ⟨a, 3, none⟩) (Kd.V_mono s.out (fun k_ hk => (⟨hk, hk.1.2.2.2.2.2⟩ : _ ∧ k_ ≠ a))) (fun _ hk => hk.2) (.int .i64 0)) (fun _ hk => ⟨hk.1.1.1, ⟨hk.1.2, ⟨hk.1.1.2.2.1, ⟨hk.1.1.2.2.2.1, ⟨hk.1.1.2.2.2.2.1, hk.1.1.2.2.2.2.2⟩⟩⟩⟩⟩)⟩, ⟨by (with_reducible repeat apply pR); exact Kd.R_mono (Kd.R_far (p := ⟨a, 3, none⟩) (Kd.R_types ao.out l.out (by decide)) (fun _ hk => hk.2) (.int .i64 0)) (fun _ hk => hk.1)⟩, ⟨blk_off b.out aD.out off2_⟩, ⟨blk_off d.out ax.out off2_⟩, ⟨blk_off j.out r.out off2_⟩, ⟨by (with_reducible repeat apply pK); refine blk_put (cs := #[.int .i64 aa, .int .i64 ad, .slice (some ⟨aI, 0, none⟩) x.length ac, .int .i64 an, .bool ae, .bool ag]) ?_ 3 _ rfl; (with_reducible repeat apply pK); exact l.out⟩, ⟨bl_⟩⟩
    ·rw [if_neg cr] at H
     exact absurd H (by simp)
   ·rw [if_neg b0] at H
    have bB : (y == 245) = false := beq_eq_false_iff_ne.mpr b0
    have eK : (y != 245) = true := bne_iff_ne.mpr b0
    (first | rw [bB] | (simp only [i64_w, i32_w]; rw [bB]) | skip)
    by_cases b1 : y = 241
    ·rw [if_pos b1] at H
     have eL : (y == 241) = true := beq_iff_eq.mpr b1
     have eM : (y != 241) = false := bne_eq_false_iff_eq.mpr b1
     clear b1
     have H' := Z H
     clear H
     go_wp2
     go_meet
     case rel => exact ⟨_, (x), (an), (.slice aq x.length ac), H', ⟨by first | omega | exact Nat.le_refl _⟩, ⟨by (with_reducible repeat apply pV); exact Kd.V_mono (f6V a (Kd.V_mono s.out (fun k_ hk => (⟨hk, hk.2⟩ : _ ∧ k_ ≠ a))) (fun _ hk => hk.2)) (fun _ hk => ⟨hk.1.1.1.1.1.1.1, ⟨hk.1.1.2, ⟨hk.1.1.1.1.1.1.2, ⟨hk.1.1.1.1.1.2, ⟨hk.1.1.1.1.2, hk.1.2⟩⟩⟩⟩⟩)⟩, ⟨by (with_reducible repeat apply pR); exact Kd.R_mono (f6R a (Kd.R_types ao.out l.out (by decide)) (fun _ hk => hk.2)) (fun _ hk => hk.1.1)⟩, ⟨blk_off b.out aD.out off2_⟩, ⟨blk_off d.out ax.out off2_⟩, ⟨blk_off j.out r.out off2_⟩, ⟨put6 l.out⟩, ⟨bl_⟩⟩
    ·rw [if_neg b1] at H
     have eL : (y == 241) = false := beq_eq_false_iff_ne.mpr b1
     have eM : (y != 241) = true := bne_iff_ne.mpr b1
     by_cases b2 : y = 111
     ·rw [if_pos b2] at H
      have eN : (y == 111) = true := beq_iff_eq.mpr b2
      have eO : (y != 111) = false := bne_eq_false_iff_eq.mpr b2
      clear b2
      replace H := Option.bind_eq_some_iff.mp H
      obtain ⟨⟨eR, eS, ci, eT, eU, eV⟩, g7, H⟩ := H
      replace H : ((host_unlocked.f eR eS ci eT eU eV).bind fun T => (some (T.1, T.2.1, T.2.2.1, T.2.2.2.1, T.2.2.2.2.1, T.2.2.2.2.2, none, ([] : List (S184))))) = some (r1, r2, r3, r4, r5, r6, r7, r8) := H
      have lU := Z g7
      clear g7
      replace H := Option.bind_eq_some_iff.mp H
      obtain ⟨⟨bw, bG, bN, bV, cc, cj⟩, g8, H⟩ := H
      replace H : (some (bw, bG, bN, bV, cc, cj, none, ([] : List (S184)))) = some (r1, r2, r3, r4, r5, r6, r7, r8) := H
      have ff := Z g8
      clear g8
      simp only [Option.some.injEq, Prod.mk.injEq] at H
      obtain ⟨rfl, rfl, rfl, rfl, rfl, rfl, rfl, rfl⟩ := H
      have nr := aY.out
      have nZ := aD.out
      have ns := aV.out
      have n0 := ax.out
      have nt := aZ.out
      have n1 := r.out
      obtain ⟨c8, c9, da, db, dc, dd, ed, ee, ef, eg, eh, ei⟩ := cells6 l.out
      go_wp2_with (first | ((with_reducible refine gate_callee (f := 50) rfl ?_); refine goesL_ (some 62) rfl rfl Tryd.func50 (by kernel_rfl) rfl #[.agg #[.int .i64 aa, .int .i64 ad, .slice aq x.length ac, .int .i64 an, .bool ae, .bool ag]] rfl ag_ ?_; (with_reducible refine (host_clean.calls k aa ad _ _ x an ae ag eR eS ci eT eU eV _ ?side1 ?side2 lU.out).mono ?_); (case side1 => refine (Kd.R_reads' (e := 44) (base := w.heap.size) (ok := fun k_ => (((w.heap.size ≤ k_)) ∧ True)) (n := x.length) (c := ac) ?_).2.2; exact (by (with_reducible repeat apply pR); exact (Kd.R_mono (f6R a (Kd.R_types ao.out l.out (by decide)) (fun _ hk => hk.2)) (fun _ h_ => h_.1)))); (case side2 => exact (Kd.R_reads' ao.out).2.1); rintro e o1 ⟨oC, rfl, aE, hb⟩; refine ⟨_, rfl, ?_⟩; replace s := Z (Kd.V_elder' (by (with_reducible repeat apply pV); exact (Kd.V_mono (f6V a (Kd.V_mono s.out (fun k_ hk => (⟨hk, hk.2⟩ : _ ∧ k_ ≠ a))) (fun _ hk => hk.2)) (fun _ h_ => h_.1))) (Kd.R_base aE) hb); replace aw := Z (Kd.R_below (by (with_reducible repeat apply pR); exact (Kd.R_mono (f6R a (Kd.R_types aw.out l.out (by decide)) (fun _ hk => hk.2)) (fun _ h_ => h_.1))) hb); replace aK := Z (Kd.V_elder' (by (with_reducible repeat apply pV); exact (Kd.V_mono (f6V a (Kd.V_mono aK.out (fun k_ hk => (⟨hk, hk.2⟩ : _ ∧ k_ ≠ a))) (fun _ hk => hk.2)) (fun _ h_ => h_.1))) (Kd.R_base aE) hb); have a4 := Z (Kd.R_lower (Kd.R_new' (Kd.R_newM (M := fun k_ => (w.heap.size ≤ k_)) aE (below_size bl_) (fun k_ h_ => h_)) (Kd.R_lt (by (with_reducible repeat apply pR); exact (Kd.R_mono (f6R a (Kd.R_types ao.out l.out (by decide)) (fun _ hk => hk.2)) (fun _ h_ => h_.1))))) (below_size bl_)); replace ao := Z (Kd.R_elder' (by (with_reducible repeat apply pR); exact (Kd.R_mono (f6R a (Kd.R_types ao.out l.out (by decide)) (fun _ hk => hk.2)) (fun _ h_ => h_.1))) (Kd.R_base aE) hb); replace b := Z (blk_below (g := O) (o := .cells #[.int .i64 G, .int .i64 I, .slice ap u.length ar, .int .i64 J, .bool L, .bool P] 24 (0, 0)) (blk_off b.out aD.out off2_) hb); replace d := Z (blk_below (g := Q) (o := .cells #[.int .i64 y, .bool ak, .bool al, .bool am, .slice aO Y.length aP] 60 (0, 0)) (blk_off d.out ax.out off2_) hb); replace j := Z (blk_below (g := q) (o := .cells #[.int .i64 0, .int .i64 0, .slice none 0 0, .int .i64 0, .bool false, .bool false] 24 (0, 0)) (blk_off j.out r.out off2_) hb); replace l := Z (blk_below (g := a) (o := .cells #[.int .i64 aa, .int .i64 ad, .slice aq x.length ac, .int .i64 an, .bool ae, .bool ag] 24 (0, 0)) (put6 l.out) hb); replace HB := Z (below_step bl_ hb); (try clear hb); (try clear bJ); (try clear hk); (try clear hi); (try clear aE); obtain ⟨hf, hp, hY⟩ := Kd.R_slice a4.out; subst hY) | ((with_reducible refine gate_callee (f := 49) rfl ?_); refine goesL_ (some 63) rfl rfl Tryd.func49 (by kernel_rfl) rfl #[.agg #[.int .i64 eR, .int .i64 eS, .slice hf ci.length hp, .int .i64 eT, .bool eU, .bool eV]] rfl ag_ ?_; (with_reducible refine (host_unlocked.calls eR eS (fun k_ => some k_ = (.slice hf ci.length hp : Value).ownBlock) _ _ ci eT eU eV bw bG bN bV cc cj _ ?side1 ff.out).mono ?_); (case side1 => exact Kd.R_V (Kd.R_tight rfl (Kd.R_types (Kd.R_types (Kd.R_types (Kd.R_types (Kd.R_apart' (a4.out) (Kd.R_typed aw.out) (by decide)) b.out (by decide)) d.out (by decide)) j.out (by decide)) l.out (by decide)))); rintro e o2 ⟨oD, rfl, aE, hb⟩; refine ⟨_, rfl, ?_⟩; replace s := Z (vb s.out hb); replace aK := Z (vb aK.out hb); have fj := Z (Kd.V_lower (Kd.V_mono (ok' := fun k_ => (aH k_ ∨ w.heap.size ≤ k_) ∧ some k_ ≠ (bI : Value).ownBlock ∧ some k_ ≠ (.slice aq x.length ac : Value).ownBlock ∧ k_ ≠ O ∧ k_ ≠ Q ∧ k_ ≠ q ∧ k_ ≠ a) aE (fun k_ hk_ => ⟨Or.elim hk_ (fun hs_ => (.inr (((Kd.R_types (Kd.R_types (Kd.R_types (Kd.R_types (Kd.R_apart' (a4.out) (Kd.R_typed aw.out) (by decide)) b.out (by decide)) d.out (by decide)) j.out (by decide)) l.out (by decide)).1 k_ hs_.symm).1.1.1.1.1.1.1))) (fun hn_ => (ir_ hn_)), Or.elim hk_ (fun hs_ => ((Kd.R_types (Kd.R_types (Kd.R_types (Kd.R_types (Kd.R_apart' (a4.out) (Kd.R_typed aw.out) (by decide)) b.out (by decide)) d.out (by decide)) j.out (by decide)) l.out (by decide)).1 k_ hs_.symm).1.1.1.1.2) (fun hn_ => (Kd.fresh' (Kd.R_lt (by (with_reducible repeat apply pR); exact aw.out)) k_ hn_)), Or.elim hk_ (fun hs_ => ((Kd.R_types (Kd.R_types (Kd.R_types (Kd.R_types (Kd.R_apart' (a4.out) (Kd.R_typed aw.out) (by decide)) b.out (by decide)) d.out (by decide)) j.out (by decide)) l.out (by decide)).1 k_ hs_.symm).1.1.1.1.1.2) (fun hn_ => (Kd.fresh' (Kd.R_lt (by (with_reducible repeat apply pR); exact ao.out)) k_ hn_)), Or.elim hk_ (fun hs_ => ((Kd.R_types (Kd.R_types (Kd.R_types (Kd.R_types (Kd.R_apart' (a4.out) (Kd.R_typed aw.out) (by decide)) b.out (by decide)) d.out (by decide)) j.out (by decide)) l.out (by decide)).1 k_ hs_.symm).1.1.1.2) (fun hn_ => (fb b.out k_ hn_)), Or.elim hk_ (fun hs_ => ((Kd.R_types (Kd.R_types (Kd.R_types (Kd.R_types (Kd.R_apart' (a4.out) (Kd.R_typed aw.out) (by decide)) b.out (by decide)) d.out (by decide)) j.out (by decide)) l.out (by decide)).1 k_ hs_.symm).1.1.2) (fun hn_ => (fb d.out k_ hn_)), Or.elim hk_ (fun hs_ => ((Kd.R_types (Kd.R_types (Kd.R_types (Kd.R_types (Kd.R_apart' (a4.out) (Kd.R_typed aw.out) (by decide)) b.out (by decide)) d.out (by decide)) j.out (by decide)) l.out (by decide)).1 k_ hs_.symm).1.2) (fun hn_ => (fb j.out k_ hn_)), Or.elim hk_ (fun hs_ => ((Kd.R_types (Kd.R_types (Kd.R_types (Kd.R_types (Kd.R_apart' (a4.out) (Kd.R_typed aw.out) (by decide)) b.out (by decide)) d.out (by decide)) j.out (by decide)) l.out (by decide)).1 k_ hs_.symm).2) (fun hn_ => (fb l.out k_ hn_))⟩)) (below_size bl_)); replace aw := Z (rb aw.out hb); replace ao := Z (rb ao.out hb); replace a4 := Z (rb a4.out hb); replace b := Z (kb b.out hb); replace d := Z (kb d.out hb); replace j := Z (kb j.out hb); replace l := Z (kb l.out hb); replace HB := Z (below_step bl_ hb); (try clear hb); (try clear bJ); (try clear hk); (try clear hi); (try clear aE); obtain ⟨de, df, dg, dh, di, dj, ej, ek, el, em, en, eo⟩ := cells6 l.out; obtain ⟨ca, cb, hZ⟩ := Kd.V_slice fj.out; subst hZ; have nu := aX.out; have n2 := aW.out; have nv := aU.out; have n3 := aT.out; obtain ⟨dk, dl, dm, dn, dp, dq, ep, eq, er, es, et, eu⟩ := cells6 j.out))
      refine bodyPost_ret (results_ct rfl _ _ q 24 #[.int .i64 bw, .int .i64 bG, .slice ca bN.length cb, .int .i64 bV, .bool cc, .bool cj] (0, 0) _ rfl (by (with_reducible repeat apply pK); refine blk_put (cs := #[.int .i64 bw, .int .i64 bG, .slice ca bN.length cb, .int .i64 bV, .bool cc, .bool false]) ?_ 5 _ rfl; (with_reducible repeat apply pK); refine blk_put (cs := #[.int .i64 bw, .int .i64 bG, .slice ca bN.length cb, .int .i64 bV, .bool false, .bool false]) ?_ 4 _ rfl; (with_reducible repeat apply pK); refine blk_put (cs := #[.int .i64 bw, .int .i64 bG, .slice ca bN.length cb, .int .i64 0, .bool false, .bool false]) ?_ 3 _ rfl; (with_reducible repeat apply pK); refine blk_put (cs := #[.int .i64 bw, .int .i64 bG, .slice none 0 0, .int .i64 0, .bool false, .bool false]) ?_ 2 _ rfl; (with_reducible repeat apply pK); refine blk_put (cs := #[.int .i64 bw, .int .i64 0, .slice none 0 0, .int .i64 0, .bool false, .bool false]) ?_ 1 _ rfl; (with_reducible repeat apply pK); refine blk_put (cs := #[.int .i64 0, .int .i64 0, .slice none 0 0, .int .i64 0, .bool false, .bool false]) ?_ 0 _ rfl; (with_reducible repeat apply pK); refine blk_far ?_ r.out _; (with_reducible repeat apply pK); refine blk_far ?_ r.out _; (with_reducible repeat apply pK); refine blk_far ?_ r.out _; (with_reducible repeat apply pK); refine blk_far ?_ r.out _; (with_reducible repeat apply pK); refine blk_far ?_ r.out _; (with_reducible repeat apply pK); refine blk_far ?_ r.out _; (with_reducible repeat apply pK); exact j.out) Tryd.underlying24 rfl (by kernel_rfl)) rfl ?_
      exact ⟨_, _, er_, by (with_reducible repeat apply pV); exact Kd.V_mono (f6V q (f6V a (Kd.V_mono (Kd.V_mono fj.out (fun k_ hk => (⟨hk, hk.2.2.2.2.2.2⟩ : _ ∧ k_ ≠ a))) (fun k_ hk => (⟨hk, hk.1.2.2.2.2.2.1⟩ : _ ∧ k_ ≠ q))) (fun _ hk => hk.1.2)) (fun _ hk => hk.2)) (fun _ hk => hk.1.1.1), Kd.R_V (Kd.R_nil _ _ _ 0 _), bl_⟩
     ·rw [if_neg b2] at H
      have eN : (y == 111) = false := beq_eq_false_iff_ne.mpr b2
      have eO : (y != 111) = true := bne_iff_ne.mpr b2
      simp only [Option.some.injEq, Prod.mk.injEq] at H
      obtain ⟨rfl, rfl, rfl, rfl, rfl, rfl, rfl, rfl⟩ := H
      have nw := aY.out
      have n4 := aD.out
      have nx := aV.out
      have n5 := ax.out
      have ny := aZ.out
      have n6 := r.out
      obtain ⟨dr, dt, du, dv, dw, dx, ev, ew, ex, ey, eA, eB⟩ := cells6 l.out
      have nz := aX.out
      have n7 := aW.out
      have nA := aU.out
      have n8 := aT.out
      obtain ⟨dy, dz, dA, dB, dC, dD, eC, eD, eE, eF, eG, eH⟩ := cells6 j.out
      go_wp2
      refine bodyPost_ret (results_ct rfl _ _ q 24 #[.int .i64 aa, .int .i64 ad, .slice aq x.length ac, .int .i64 an, .bool ae, .bool ag] (0, 0) _ rfl (by (with_reducible repeat apply pK); refine blk_put (cs := #[.int .i64 aa, .int .i64 ad, .slice aq x.length ac, .int .i64 an, .bool ae, .bool false]) ?_ 5 _ rfl; (with_reducible repeat apply pK); refine blk_put (cs := #[.int .i64 aa, .int .i64 ad, .slice aq x.length ac, .int .i64 an, .bool false, .bool false]) ?_ 4 _ rfl; (with_reducible repeat apply pK); refine blk_put (cs := #[.int .i64 aa, .int .i64 ad, .slice aq x.length ac, .int .i64 0, .bool false, .bool false]) ?_ 3 _ rfl; (with_reducible repeat apply pK); refine blk_put (cs := #[.int .i64 aa, .int .i64 ad, .slice none 0 0, .int .i64 0, .bool false, .bool false]) ?_ 2 _ rfl; (with_reducible repeat apply pK); refine blk_put (cs := #[.int .i64 aa, .int .i64 0, .slice none 0 0, .int .i64 0, .bool false, .bool false]) ?_ 1 _ rfl; (with_reducible repeat apply pK); refine blk_put (cs := #[.int .i64 0, .int .i64 0, .slice none 0 0, .int .i64 0, .bool false, .bool false]) ?_ 0 _ rfl; (with_reducible repeat apply pK); refine blk_far ?_ r.out _; (with_reducible repeat apply pK); refine blk_far ?_ r.out _; (with_reducible repeat apply pK); refine blk_far ?_ r.out _; (with_reducible repeat apply pK); refine blk_far ?_ r.out _; (with_reducible repeat apply pK); refine blk_far ?_ r.out _; (with_reducible repeat apply pK); refine blk_far ?_ r.out _; (with_reducible repeat apply pK); exact j.out) Tryd.underlying24 rfl (by kernel_rfl)) rfl ?_
      exact ⟨_, _, er_, Kd.V_mono (Kd.R_V (by (with_reducible repeat apply pR); exact Kd.R_mono (f6R q (f6R a (Kd.R_types (Kd.R_types ao.out l.out (by decide)) j.out (by decide)) (fun _ hk => hk.1.2)) (fun _ hk => hk.2)) (fun _ hk => hk.1.1.1))) (fun k_ hk => by first | exact ⟨(.inr (hk.1)), hk.2⟩ | exact (.inr (hk))), Kd.R_V (Kd.R_nil _ _ _ 0 _), bl_⟩
  case rest =>
   clear hj
   try clear c1
   try clear c2
   try clear p2
   try clear q2
   try clear na
   try clear nc
   try clear mm
   try clear c3
   try clear c4
   try clear c5
   try clear lY
   try clear lZ
   try clear l0
   try clear l1
   try clear l2
   try clear l3
   try clear q23
   try clear b0
   try clear bB
   try clear eK
   try clear cr
   try clear fm
   try clear fn
   try clear l4
   try clear p27
   try clear cg
   try clear ll
   try clear hu
   try clear jH
   try clear l5
   try clear l6
   try clear l7
   try clear l8
   try clear b1
   try clear eL
   try clear eM
   try clear b2
   try clear eN
   try clear eO
   try clear l9
   try clear ma
   try clear mb
   try clear mc
   try clear md
   try clear me
   try clear mf
   try clear mg
   try clear mh
   try clear mi
   try clear mj
   try clear ml
   try clear ct
   try clear cu
   try clear cv
   try clear cw
   try clear cx
   try clear cy
   try clear cz
   try clear cA
   try clear cB
   try clear cC
   try clear cD
   try clear cE
   try clear cF
   try clear cG
   try clear cH
   try clear cI
   try clear cJ
   try clear cK
   try clear cL
   try clear cM
   try clear cN
   try clear cO
   try clear cP
   try clear cQ
   try clear cR
   try clear cS
   try clear cT
   try clear cU
   try clear cV
   try clear cW
   try clear cX
   try clear cY
   try clear cZ
   try clear c0
   try clear c7
   try clear c8
   try clear c9
   try clear da
   try clear db
   try clear dc
   try clear dd
   try clear de
   try clear df
   try clear dg
   try clear dh
   try clear di
   try clear dj
   try clear dk
   try clear dl
   try clear dm
   try clear dn
   try clear dp
   try clear dq
   try clear dr
   try clear dt
   try clear du
   try clear dv
   try clear dw
   try clear dx
   try clear dy
   try clear dz
   try clear dA
   try clear dB
   try clear dC
   try clear dD
   try clear dE
   try clear dF
   try clear dG
   try clear dH
   try clear dI
   try clear dJ
   try clear dK
   try clear dL
   try clear dM
   try clear dN
   try clear dO
   try clear dP
   try clear dQ
   try clear dR
   try clear dS
   try clear dT
   try clear dU
   try clear dV
   try clear dW
   try clear dX
   try clear dY
   try clear dZ
   try clear d0
   try clear d1
   try clear d2
   try clear d3
   try clear d4
   try clear d5
   try clear d6
   try clear d7
   try clear d8
   try clear d9
   try clear ea
   try clear eb
   try clear ec
   try clear ed
   try clear ee
   try clear ef
   try clear eg
   try clear eh
   try clear ei
   try clear ej
   try clear ek
   try clear el
   try clear em
   try clear en
   try clear eo
   try clear ep
   try clear eq
   try clear er
   try clear es
   try clear et
   try clear eu
   try clear ev
   try clear ew
   try clear ex
   try clear ey
   try clear eA
   try clear eB
   try clear eC
   try clear eD
   try clear eE
   try clear eF
   try clear eG
   try clear eH
   try clear b3
   try clear b4
   try clear b5
   try clear b6
   try clear b7
   try clear b8
   try clear p27
   try clear cf
   try clear cg
   obtain ⟨kq, a0, a1, u244002, HA, hP, HO_224002, HO_244002, b, d, j, l, HB⟩ := hcut
   cases kq with
   | zero => exact absurd HA.out (by simp [host_Do.j0])
   | succ fs =>
    have H := HA.out
    clear HA
    simp only [host_Do.j0] at H
    have e5 := Z H
    clear H
    have nB := a3.out
    have n9 := a2.out
    have nC := aT.out
    have oa := aU.out
    have nD := ax.out
    have ob := aV.out
    obtain ⟨ft, fu, fv, fw, fx, gn, go, gp, gq, gr⟩ := cells5 d.out
    go_upto_if 38 with (fail)
    go_cut [] (fun wc => ∃ (kq : Nat) (az : Int) (aA : Int) (z : List (S44)) (ab : Int) (aB : Bool) (aC : Bool) (u244002 : Value), Aside0 (host_Do.j1 kq G I u J L P y ak al am Y az aA z ab aB aC = some (r1, r2, r3, r4, r5, r6, r7, r8)) ∧ Aside0 (kq ≤ fs) ∧ Aside0 (Kd.V k44 44 wc w.heap.size (fun k_ => (aH k_ ∨ w.heap.size ≤ k_) ∧ some k_ ≠ (u244002 : Value).ownBlock ∧ k_ ≠ O ∧ k_ ≠ Q ∧ k_ ≠ q ∧ k_ ≠ a) (.slice ap u.length ar) u) ∧ Aside0 (Kd.R k44 44 wc w.heap.size (fun k_ => (w.heap.size ≤ k_)) u244002 z) ∧ Aside0 (wc.heap[O]? = some (.cells #[.int .i64 G, .int .i64 I, (.slice ap u.length ar), .int .i64 J, .bool L, .bool P] 24 (0, 0))) ∧ Aside0 (wc.heap[Q]? = some (.cells #[.int .i64 y, .bool ak, .bool al, .bool am, (.slice aO Y.length aP)] 60 (0, 0))) ∧ Aside0 (wc.heap[q]? = some (.cells #[.int .i64 0, .int .i64 0, (.slice none 0 0), .int .i64 0, .bool false, .bool false] 24 (0, 0))) ∧ Aside0 (wc.heap[a]? = some (.cells #[.int .i64 az, .int .i64 aA, u244002, .int .i64 ab, .bool aB, .bool aC] 24 (0, 0))) ∧ Aside0 (Below w.heap.size w wc))
    case first =>
     have H := e5.out
     clear e5
     by_cases eX : am = true
     ·subst eX
      have H1 : ((host_Reset.f aa ad a0 a1 ae ag true).bind fun bR => (host_Do.j1 fs G I u J L P y ak al true Y bR.1 bR.2.1 bR.2.2.1 bR.2.2.2.1 bR.2.2.2.2.1 bR.2.2.2.2.2)) = some (r1, r2, r3, r4, r5, r6, r7, r8) := by rw [if_pos rfl] at H; exact H
      clear H
      have H := H1
      clear H1
      replace H := Option.bind_eq_some_iff.mp H
      obtain ⟨⟨ck, cl, cd, cm, cn, co⟩, g9, H⟩ := H
      replace H : (host_Do.j1 fs G I u J L P y ak al true Y ck cl cd cm cn co) = some (r1, r2, r3, r4, r5, r6, r7, r8) := H
      have lW := Z g9
      clear g9
      have H' := Z H
      clear H
      have nE := aY.out
      have oc := aD.out
      have nF := aV.out
      have od := ax.out
      have nG := aZ.out
      have oe := r.out
      obtain ⟨fy, fz, fA, fB, fC, fD, gs, gt, gu, gv, gw, gx⟩ := cells6 l.out
      obtain ⟨hT, hW, h0⟩ := Kd.R_slice HO_244002.out
      subst h0
      go_wp2_with (first | ((with_reducible refine gate_callee (f := 29) rfl ?_); refine goesL_ (some 40) rfl rfl Tryd.func29 (by kernel_rfl) rfl #[.agg #[.int .i64 aa, .int .i64 ad, .slice hT a0.length hW, .int .i64 a1, .bool ae, .bool ag], .bool true] rfl ag_ ?_; (with_reducible refine (host_Reset.calls aa ad _ _ a0 a1 ae ag true ck cl cd cm cn co _ ?side1 ?side2 lW.out).mono ?_); (case side1 => repeat (first | exact (Kd.R_reads' HO_244002.out).2.2 | (with_reducible apply pC))); (case side2 => exact (Kd.R_reads' HO_244002.out).2.1); rintro e o3 ⟨oE, rfl, aE, hb⟩; refine ⟨_, rfl, ?_⟩; replace HO_224002 := Z (Kd.V_elder' (vV HO_224002.out) (Kd.R_base aE) hb); have fk := Z (Kd.R_lower (Kd.R_new' (Kd.R_newM (M := fun k_ => (w.heap.size ≤ k_)) aE (below_size bl_) (fun k_ h_ => h_)) (Kd.R_lt (by (with_reducible repeat apply pR); exact HO_244002.out))) (below_size bl_)); replace HO_244002 := Z (Kd.R_elder' (by (with_reducible repeat apply pR); exact HO_244002.out) (Kd.R_base aE) hb); replace b := Z (kb b.out hb); replace d := Z (kb d.out hb); replace j := Z (kb j.out hb); replace l := Z (kb l.out hb); replace HB := Z (below_step bl_ hb); (try clear hb); (try clear bJ); (try clear hk); (try clear hi); (try clear aE); obtain ⟨fE, fF, fG, fH, fI, fJ, gy, gz, gA, gB, gC, gD⟩ := cells6 l.out; obtain ⟨e4, e7, h1⟩ := Kd.R_slice fk.out; subst h1))
      go_meet
      case rel => exact ⟨_, (ck), (cl), (cd), (cm), (cn), (co), (.slice e4 cd.length e7), H', ⟨by have := hP.out; first | omega | exact Nat.le_refl _⟩, ⟨by (with_reducible repeat apply pV); exact Kd.V_mono (f6V a (Kd.V_mono HO_224002.out (fun k_ hk => (⟨hk, hk.1.2.2.2.2.2⟩ : _ ∧ k_ ≠ a))) (fun _ hk => hk.2)) (fun _ hk => ⟨hk.1.1.1, ⟨hk.1.2, ⟨hk.1.1.2.2.1, ⟨hk.1.1.2.2.2.1, ⟨hk.1.1.2.2.2.2.1, hk.1.1.2.2.2.2.2⟩⟩⟩⟩⟩)⟩, ⟨by (with_reducible repeat apply pR); exact Kd.R_mono (f6R a (Kd.R_types fk.out l.out (by decide)) (fun _ hk => hk.2)) (fun _ hk => hk.1.1.1)⟩, ⟨blk_off b.out aD.out off2_⟩, ⟨blk_off d.out ax.out off2_⟩, ⟨blk_off j.out r.out off2_⟩, ⟨put6 l.out⟩, ⟨bl_⟩⟩
     ·replace eX := Bool.eq_false_iff.mpr eX
      subst eX
      have H1 : (host_Do.j1 fs G I u J L P y ak al false Y aa ad a0 a1 ae ag) = some (r1, r2, r3, r4, r5, r6, r7, r8) := by rw [if_neg (show ¬ (false = true) by decide)] at H; exact H
      clear H
      have H := H1
      clear H1
      have H' := Z H
      clear H
      go_wp2
      go_meet
      case rel => exact ⟨_, (aa), (ad), (a0), (a1), (ae), (ag), (u244002), H', ⟨by have := hP.out; first | omega | exact Nat.le_refl _⟩, ⟨vV HO_224002.out⟩, ⟨by (with_reducible repeat apply pR); exact HO_244002.out⟩, ⟨vK b.out⟩, ⟨vK d.out⟩, ⟨vK j.out⟩, ⟨vK l.out⟩, ⟨bl_⟩⟩
    case rest =>
     clear e5
     try clear c1
     try clear c2
     try clear p2
     try clear q2
     try clear na
     try clear nc
     try clear mm
     try clear c3
     try clear c4
     try clear c5
     try clear c6
     try clear lY
     try clear lZ
     try clear l0
     try clear l1
     try clear l2
     try clear l3
     try clear q23
     try clear b0
     try clear bB
     try clear eK
     try clear cr
     try clear fm
     try clear fn
     try clear l4
     try clear p27
     try clear cg
     try clear ll
     try clear hu
     try clear jH
     try clear l5
     try clear l6
     try clear l7
     try clear l8
     try clear b1
     try clear eL
     try clear eM
     try clear b2
     try clear eN
     try clear eO
     try clear l9
     try clear ma
     try clear mb
     try clear mc
     try clear md
     try clear me
     try clear mf
     try clear mg
     try clear mh
     try clear mi
     try clear mj
     try clear ml
     try clear oR
     try clear oS
     try clear oT
     try clear eX
     try clear oU
     try clear oV
     try clear oW
     try clear ct
     try clear cu
     try clear cv
     try clear cw
     try clear cx
     try clear cy
     try clear cz
     try clear cA
     try clear cB
     try clear cC
     try clear cD
     try clear cE
     try clear cF
     try clear cG
     try clear cH
     try clear cI
     try clear cJ
     try clear cK
     try clear cL
     try clear cM
     try clear cN
     try clear cO
     try clear cP
     try clear cQ
     try clear cR
     try clear cS
     try clear cT
     try clear cU
     try clear cV
     try clear cW
     try clear cX
     try clear cY
     try clear cZ
     try clear c0
     try clear c7
     try clear c8
     try clear c9
     try clear da
     try clear db
     try clear dc
     try clear dd
     try clear de
     try clear df
     try clear dg
     try clear dh
     try clear di
     try clear dj
     try clear dk
     try clear dl
     try clear dm
     try clear dn
     try clear dp
     try clear dq
     try clear dr
     try clear dt
     try clear du
     try clear dv
     try clear dw
     try clear dx
     try clear dy
     try clear dz
     try clear dA
     try clear dB
     try clear dC
     try clear dD
     try clear ft
     try clear fu
     try clear fv
     try clear fw
     try clear fx
     try clear fy
     try clear fz
     try clear fA
     try clear fB
     try clear fC
     try clear fD
     try clear fE
     try clear fF
     try clear fG
     try clear fH
     try clear fI
     try clear fJ
     try clear dE
     try clear dF
     try clear dG
     try clear dH
     try clear dI
     try clear dJ
     try clear dK
     try clear dL
     try clear dM
     try clear dN
     try clear dO
     try clear dP
     try clear dQ
     try clear dR
     try clear dS
     try clear dT
     try clear dU
     try clear dV
     try clear dW
     try clear dX
     try clear dY
     try clear dZ
     try clear d0
     try clear d1
     try clear d2
     try clear d3
     try clear d4
     try clear d5
     try clear d6
     try clear d7
     try clear d8
     try clear d9
     try clear ea
     try clear eb
     try clear ec
     try clear ed
     try clear ee
     try clear ef
     try clear eg
     try clear eh
     try clear ei
     try clear ej
     try clear ek
     try clear el
     try clear em
     try clear en
     try clear eo
     try clear ep
     try clear eq
     try clear er
     try clear es
     try clear et
     try clear eu
     try clear ev
     try clear ew
     try clear ex
     try clear ey
     try clear eA
     try clear eB
     try clear eC
     try clear eD
     try clear eE
     try clear eF
     try clear eG
     try clear eH
     try clear gn
     try clear go
     try clear gp
     try clear gq
     try clear gr
     try clear gs
     try clear gt
     try clear gu
     try clear gv
     try clear gw
     try clear gx
     try clear gy
     try clear gz
     try clear gA
     try clear gB
     try clear gC
     try clear gD
     try clear b3
     try clear b4
     try clear b5
     try clear b6
     try clear b7
     try clear b8
     try clear p2
     try clear p27
     try clear q2
     try clear q23
     try clear cf
     try clear cg
     obtain ⟨kq, az, aA, z, ab, aB, aC, u244002, HA, os, HO_224002, HO_244002, b, d, j, l, HB⟩ := hcut
     cases kq with
     | zero => exact absurd HA.out (by simp [host_Do.j1])
     | succ oA =>
      have H := HA.out
      clear HA
      simp only [host_Do.j1] at H
      replace H := Option.bind_eq_some_iff.mp H
      obtain ⟨⟨aF, aJ, au, aM, aR, aS, fc, fd, bW⟩, hc, H⟩ := H
      replace H : (if fd.isNone = true then (if al = true then ((host_unlocked.f aF aJ au aM aR aS).bind fun aL => (some (aL.1, aL.2.1, aL.2.2.1, aL.2.2.2.1, aL.2.2.2.2.1, aL.2.2.2.2.2, none, ([] : List (S184))))) else (some (aF, aJ, au, aM, aR, aS, none, ([] : List (S184))))) else (some (G, I, u, J, L, P, some (fd.getD ez), bW))) = some (r1, r2, r3, r4, r5, r6, r7, r8) := H
      have ha := Z hc
      clear hc
      rcases fd with _ | e8
      ·have H1 : (if al = true then ((host_unlocked.f aF aJ au aM aR aS).bind fun aL => (some (aL.1, aL.2.1, aL.2.2.1, aL.2.2.2.1, aL.2.2.2.2.1, aL.2.2.2.2.2, none, ([] : List (S184))))) else (some (aF, aJ, au, aM, aR, aS, none, ([] : List (S184))))) = some (r1, r2, r3, r4, r5, r6, r7, r8) := by rw [if_pos (show (none : Option Er).isNone = true by rfl)] at H; exact H
       clear H
       have H := H1
       clear H1
       try simp only [errW_none, errW_some]
       by_cases fo : al = true
       ·subst fo
        have H1 : ((host_unlocked.f aF aJ au aM aR aS).bind fun aL => (some (aL.1, aL.2.1, aL.2.2.1, aL.2.2.2.1, aL.2.2.2.2.1, aL.2.2.2.2.2, none, ([] : List (S184))))) = some (r1, r2, r3, r4, r5, r6, r7, r8) := by rw [if_pos rfl] at H; exact H
        clear H
        have H := H1
        clear H1
        replace H := Option.bind_eq_some_iff.mp H
        obtain ⟨⟨bx, bH, bO, bX, ce, cp⟩, he, H⟩ := H
        replace H : (some (bx, bH, bO, bX, ce, cp, none, ([] : List (S184)))) = some (r1, r2, r3, r4, r5, r6, r7, r8) := H
        have lX := Z he
        clear he
        simp only [Option.some.injEq, Prod.mk.injEq] at H
        obtain ⟨rfl, rfl, rfl, rfl, rfl, rfl, rfl, rfl⟩ := H
        have nH := aY.out
        have of := aD.out
        have nI := aV.out
        have og := ax.out
        have nJ := aZ.out
        have oh := r.out
        obtain ⟨lx, ly, lz, lA, lB, lC, lI, lJ, lK, lL, lM, lN⟩ := cells6 l.out
        have nK := a3.out
        have oi := a2.out
        have nL := aT.out
        have oj := aU.out
        obtain ⟨lD, lE, lF, lG, lH, lO, lP, lQ, lR, lS⟩ := cells5 d.out
        obtain ⟨bb, bc, h2⟩ := Kd.R_slice HO_244002.out
        subst h2
        go_wp2_with (first | ((with_reducible refine gate_callee (f := 24) rfl ?_); refine goesL_ (some 47) rfl rfl Tryd.func24 (by kernel_rfl) rfl #[.agg #[.int .i64 az, .int .i64 aA, .slice bb z.length bc, .int .i64 ab, .bool aB, .bool aC], .int .i64 ab, .slice aO Y.length aP] rfl ag_ ?_; (with_reducible refine (paint_All.calls az aA _ _ z ab aB aC ab _ _ Y aF aJ au aM aR aS fc none bW _ ?side1 ?side2 ?side3 ?side4 ha.out).mono ?_); (case side1 => repeat (first | exact (Kd.R_reads' HO_244002.out).2.2 | (with_reducible apply pC))); (case side2 => exact (Kd.R_reads' HO_244002.out).2.1); (case side3 => repeat (first | exact (Kd.C_below bZ.out HB.out) | (with_reducible apply pC))); (case side4 => exact bY.out); rintro e o4 ⟨cq, eW, rfl, aE, bu, hb⟩; refine ⟨_, rfl, ?_⟩; replace HO_224002 := Z (Kd.V_elder' (vV HO_224002.out) (Kd.R_base aE) hb); have aj := Z (Kd.R_lower (Kd.R_new' (Kd.R_newM (M := fun k_ => (w.heap.size ≤ k_)) (Kd.R_mono (ok' := fun k_ => True) aE (fun _ hk_ => trivial)) (below_size bl_) (fun k_ h_ => h_)) (Kd.R_lt (by (with_reducible repeat apply pR); exact HO_244002.out))) (below_size bl_)); have aG := Z (Kd.V_lower (Kd.V_mono (ok' := fun k_ => (aH k_ ∨ w.heap.size ≤ k_) ∧ some k_ ≠ (cq : Value).ownBlock ∧ some k_ ≠ (.slice bb z.length bc : Value).ownBlock ∧ k_ ≠ O ∧ k_ ≠ Q ∧ k_ ≠ q ∧ k_ ≠ a) bu (fun k_ hk_ => ⟨(.inr (Nat.le_trans (below_size bl_) hk_.1)), hk_.2, (Kd.fresh' (Kd.R_lt (by (with_reducible repeat apply pR); exact HO_244002.out)) k_ hk_.1), (Kd.freshB (g := O) (o := .cells #[.int .i64 G, .int .i64 I, .slice ap u.length ar, .int .i64 J, .bool L, .bool P] 24 (0, 0)) (vK b.out) k_ hk_.1), (Kd.freshB (g := Q) (o := .cells #[.int .i64 y, .bool ak, .bool true, .bool am, .slice aO Y.length aP] 60 (0, 0)) (vK d.out) k_ hk_.1), (Kd.freshB (g := q) (o := .cells #[.int .i64 0, .int .i64 0, .slice none 0 0, .int .i64 0, .bool false, .bool false] 24 (0, 0)) (vK j.out) k_ hk_.1), (Kd.freshB (g := a) (o := .cells #[.int .i64 az, .int .i64 aA, .slice bb z.length bc, .int .i64 ab, .bool aB, .bool aC] 24 (0, 0)) (vK l.out) k_ hk_.1)⟩)) (below_size bl_)); replace HO_244002 := Z (Kd.R_elder' (by (with_reducible repeat apply pR); exact HO_244002.out) (Kd.R_base aE) hb); replace b := Z (kb b.out hb); replace d := Z (kb d.out hb); replace j := Z (kb j.out hb); replace l := Z (kb l.out hb); replace HB := Z (below_step bl_ hb); (try clear hb); (try clear bJ); (try clear hk); (try clear hi); (try clear aE); (try clear bu); (try simp only [errW_none, errW_some])) | ((with_reducible refine gate_dst (N := 9) rfl ?_); refine bx_ 9 24 #[.int .i64 0, .int .i64 0, .slice none 0 0, .int .i64 0, .bool false, .bool false] ?_; intro U hg nd hbox hb; replace HO_224002 := Z (ve HO_224002.out hg hb); replace HO_244002 := Z (rb HO_244002.out hb); replace aj := Z (rb aj.out hb); replace aG := Z (ve aG.out hg hb); have ay := Z (hbox); have fi := Z (ln_ hg : w.heap.size ≤ U); have fh := Z (ln_ hg : w.heap.size ≤ U); replace HB := Z (below_step bl_ hb); have a7 := Z (nl b.out hg); have bd := Z (ng b.out hg); replace b := Z (kb b.out hb); have a8 := Z (nl d.out hg); have be := Z (ng d.out hg); replace d := Z (kb d.out hb); have ai := Z (nl j.out hg); have bf := Z (ng j.out hg); replace j := Z (kb j.out hb); have a9 := Z (nl l.out hg); have ba := Z (ng l.out hg); replace l := Z (kb l.out hb); clear hb hbox hg; have nM := bd.out; have ol := a7.out; have nN := be.out; have om := a8.out; have nO := bf.out; have on := ai.out; have nP := ba.out; have oo := a9.out; obtain ⟨fK, fL, fM, fN, fO, fP, gE, gF, gG, gH, gI, gJ⟩ := cells6 ay.out; obtain ⟨a5, a6, h3⟩ := Kd.R_slice aj.out; subst h3) | ((with_reducible refine gate_store (t := 24) (p := 9) rfl ?_); (with_reducible refine gateW_ nd ?_); refine sx_ 24 9 ((((((nd.setCell ⟨U, 0, none⟩ (.int .i64 aF)).setCell ⟨U, 1, none⟩ (.int .i64 aJ)).setCell ⟨U, 2, none⟩ (.slice a5 au.length a6)).setCell ⟨U, 3, none⟩ (.int .i64 aM)).setCell ⟨U, 4, none⟩ (.bool aR)).setCell ⟨U, 5, none⟩ (.bool aS)) ?_ rfl rfl rfl (by refine stS_ rfl ?_ ?_ ay.out <;> rfl); intro bP hw; have A : Aside0 (Kd.V k44 44 bP w.heap.size (fun k_ => (aH k_ ∨ w.heap.size ≤ k_) ∧ some k_ ≠ (.slice bb z.length bc : Value).ownBlock ∧ some k_ ≠ (.slice a5 au.length a6 : Value).ownBlock ∧ k_ ≠ O ∧ k_ ≠ Q ∧ k_ ≠ q ∧ k_ ≠ a ∧ k_ ≠ U) (.slice ap u.length ar) u) := ⟨(by rw [hw]; exact (by (with_reducible repeat apply pV); exact V_off HO_224002.out (fun k_ hk => hk.2) off2_ (fun _ hk => ⟨hk.1.1.1, ⟨hk.1.1.2.1, ⟨hk.1.2, ⟨hk.1.1.2.2.1, ⟨hk.1.1.2.2.2.1, ⟨hk.1.1.2.2.2.2.1, ⟨hk.1.1.2.2.2.2.2, hk.2⟩⟩⟩⟩⟩⟩⟩)))⟩; have B : Aside0 (Kd.R k44 44 bP w.heap.size (fun k_ => (w.heap.size ≤ k_) ∧ some k_ ≠ (.slice a5 au.length a6 : Value).ownBlock) (.slice bb z.length bc) z) := ⟨(by rw [hw]; exact (by (with_reducible repeat apply pR); exact Kd.R_mono (R_off HO_244002.out ay.out (by decide) off2_) (fun _ hk => ⟨hk.1, hk.2⟩)))⟩; have D : Aside0 (Kd.R k44 44 bP w.heap.size (fun k_ => (w.heap.size ≤ k_) ∧ some k_ ≠ (.slice bb z.length bc : Value).ownBlock) (.slice a5 au.length a6) au) := ⟨(by rw [hw]; exact (by (with_reducible repeat apply pR); exact Kd.R_mono (R_off aj.out ay.out (by decide) off2_) (fun _ hk => ⟨hk.1.1, hk.2⟩)))⟩; have E : Aside0 (Kd.V k184 184 bP w.heap.size (fun k_ => (aH k_ ∨ w.heap.size ≤ k_) ∧ some k_ ≠ (.slice bb z.length bc : Value).ownBlock ∧ some k_ ≠ (.slice a5 au.length a6 : Value).ownBlock ∧ k_ ≠ O ∧ k_ ≠ Q ∧ k_ ≠ q ∧ k_ ≠ a ∧ k_ ≠ U) eW bW) := ⟨(by rw [hw]; exact (by (with_reducible repeat apply pV); exact V_off aG.out (fun k_ hk => hk.2) off2_ (fun _ hk => ⟨hk.1.1, ⟨hk.1.2.2.1, ⟨hk.1.2.1, ⟨hk.1.2.2.2.1, ⟨hk.1.2.2.2.2.1, ⟨hk.1.2.2.2.2.2.1, ⟨hk.1.2.2.2.2.2.2, hk.2⟩⟩⟩⟩⟩⟩⟩)))⟩; have F : Aside0 (bP.heap[O]? = some (.cells #[.int .i64 G, .int .i64 I, .slice ap u.length ar, .int .i64 J, .bool L, .bool P] 24 (0, 0))) := ⟨by rw [hw]; exact (blk_off b.out a7.out off2_)⟩; have W : Aside0 (bP.heap[Q]? = some (.cells #[.int .i64 y, .bool ak, .bool true, .bool am, .slice aO Y.length aP] 60 (0, 0))) := ⟨by rw [hw]; exact (blk_off d.out a8.out off2_)⟩; have X : Aside0 (bP.heap[q]? = some (.cells #[.int .i64 0, .int .i64 0, .slice none 0 0, .int .i64 0, .bool false, .bool false] 24 (0, 0))) := ⟨by rw [hw]; exact (blk_off j.out ai.out off2_)⟩; have af : Aside0 (bP.heap[a]? = some (.cells #[.int .i64 az, .int .i64 aA, .slice bb z.length bc, .int .i64 ab, .bool aB, .bool aC] 24 (0, 0))) := ⟨by rw [hw]; exact (blk_off l.out a9.out off2_)⟩; have av : Aside0 (bP.heap[U]? = some (.cells #[.int .i64 aF, .int .i64 aJ, .slice a5 au.length a6, .int .i64 aM, .bool aR, .bool aS] 24 (0, 0))) := ⟨by rw [hw]; exact (put6 ay.out)⟩; have aN : Aside0 (Below w.heap.size w bP) := ⟨by rw [hw]; exact bl_⟩; clear hw HO_224002 HO_244002 aj aG b d j l ay HB; have HO_224002 := A; have HO_244002 := B; have aj := D; have aG := E; have b := F; have d := W; have j := X; have l := af; have ay := av; have HB := aN; clear A B D E F W X af av aN; (try clear fK); (try clear gE); (try clear fL); (try clear gF); (try clear fM); (try clear gG); (try clear fN); (try clear gH); (try clear fO); (try clear gI); (try clear fP); (try clear gJ); obtain ⟨fQ, fR, fS, fT, fU, fV, gK, gL, gM, gN, gO, gP⟩ := cells6 ay.out; obtain ⟨fW, fX, fY, fZ, ga, gb, gQ, gR, gS, gT, gU, gV⟩ := cells6 l.out) | ((with_reducible refine gate_store (t := 24) (p := 8) rfl ?_); (with_reducible refine gateW_ bP ?_); refine sx_ 24 8 ((((((bP.setCell ⟨a, 0, none⟩ (.int .i64 aF)).setCell ⟨a, 1, none⟩ (.int .i64 aJ)).setCell ⟨a, 2, none⟩ (.slice a5 au.length a6)).setCell ⟨a, 3, none⟩ (.int .i64 aM)).setCell ⟨a, 4, none⟩ (.bool aR)).setCell ⟨a, 5, none⟩ (.bool aS)) ?_ rfl rfl rfl (by refine stS_ rfl ?_ ?_ l.out <;> rfl); intro bU hw; have A : Aside0 (Kd.V k44 44 bU w.heap.size (fun k_ => (aH k_ ∨ w.heap.size ≤ k_) ∧ some k_ ≠ (.slice bb z.length bc : Value).ownBlock ∧ some k_ ≠ (.slice a5 au.length a6 : Value).ownBlock ∧ k_ ≠ O ∧ k_ ≠ Q ∧ k_ ≠ q ∧ k_ ≠ a ∧ k_ ≠ U) (.slice ap u.length ar) u) := ⟨(by rw [hw]; exact (by (with_reducible repeat apply pV); exact V_off HO_224002.out (fun k_ hk => hk.2.2.2.2.2.2.1) off2_ (fun _ hk => ⟨hk.1, ⟨hk.2.1, ⟨hk.2.2.1, ⟨hk.2.2.2.1, ⟨hk.2.2.2.2.1, ⟨hk.2.2.2.2.2.1, ⟨hk.2.2.2.2.2.2.1, hk.2.2.2.2.2.2.2⟩⟩⟩⟩⟩⟩⟩)))⟩; have B : Aside0 (Kd.R k44 44 bU w.heap.size (fun k_ => (w.heap.size ≤ k_) ∧ some k_ ≠ (.slice a5 au.length a6 : Value).ownBlock) (.slice bb z.length bc) z) := ⟨(by rw [hw]; exact (by (with_reducible repeat apply pR); exact Kd.R_mono (R_off HO_244002.out l.out (by decide) off2_) (fun _ hk => ⟨hk.1, hk.2⟩)))⟩; have D : Aside0 (Kd.R k44 44 bU w.heap.size (fun k_ => (w.heap.size ≤ k_) ∧ some k_ ≠ (.slice bb z.length bc : Value).ownBlock) (.slice a5 au.length a6) au) := ⟨(by rw [hw]; exact (by (with_reducible repeat apply pR); exact Kd.R_mono (R_off aj.out l.out (by decide) off2_) (fun _ hk => ⟨hk.1, hk.2⟩)))⟩; have E : Aside0 (Kd.V k184 184 bU w.heap.size (fun k_ => (aH k_ ∨ w.heap.size ≤ k_) ∧ some k_ ≠ (.slice bb z.length bc : Value).ownBlock ∧ some k_ ≠ (.slice a5 au.length a6 : Value).ownBlock ∧ k_ ≠ O ∧ k_ ≠ Q ∧ k_ ≠ q ∧ k_ ≠ a ∧ k_ ≠ U) eW bW) := ⟨(by rw [hw]; exact (by (with_reducible repeat apply pV); exact V_off aG.out (fun k_ hk => hk.2.2.2.2.2.2.1) off2_ (fun _ hk => ⟨hk.1, ⟨hk.2.1, ⟨hk.2.2.1, ⟨hk.2.2.2.1, ⟨hk.2.2.2.2.1, ⟨hk.2.2.2.2.2.1, ⟨hk.2.2.2.2.2.2.1, hk.2.2.2.2.2.2.2⟩⟩⟩⟩⟩⟩⟩)))⟩; have F : Aside0 (bU.heap[O]? = some (.cells #[.int .i64 G, .int .i64 I, .slice ap u.length ar, .int .i64 J, .bool L, .bool P] 24 (0, 0))) := ⟨by rw [hw]; exact (blk_off b.out aD.out off2_)⟩; have W : Aside0 (bU.heap[Q]? = some (.cells #[.int .i64 y, .bool ak, .bool true, .bool am, .slice aO Y.length aP] 60 (0, 0))) := ⟨by rw [hw]; exact (blk_off d.out ax.out off2_)⟩; have X : Aside0 (bU.heap[q]? = some (.cells #[.int .i64 0, .int .i64 0, .slice none 0 0, .int .i64 0, .bool false, .bool false] 24 (0, 0))) := ⟨by rw [hw]; exact (blk_off j.out r.out off2_)⟩; have af : Aside0 (bU.heap[a]? = some (.cells #[.int .i64 aF, .int .i64 aJ, .slice a5 au.length a6, .int .i64 aM, .bool aR, .bool aS] 24 (0, 0))) := ⟨by rw [hw]; exact (put6 l.out)⟩; have av : Aside0 (bU.heap[U]? = some (.cells #[.int .i64 aF, .int .i64 aJ, .slice a5 au.length a6, .int .i64 aM, .bool aR, .bool aS] 24 (0, 0))) := ⟨by rw [hw]; exact (blk_off ay.out ba.out off2_)⟩; have aN : Aside0 (Below w.heap.size w bU) := ⟨by rw [hw]; exact bl_⟩; clear hw HO_224002 HO_244002 aj aG b d j l ay HB; have HO_224002 := A; have HO_244002 := B; have aj := D; have aG := E; have b := F; have d := W; have j := X; have l := af; have ay := av; have HB := aN; clear A B D E F W X af av aN; (try clear fQ); (try clear gK); (try clear fR); (try clear gL); (try clear fS); (try clear gM); (try clear fT); (try clear gN); (try clear fU); (try clear gO); (try clear fV); (try clear gP); (try clear fW); (try clear gQ); (try clear fX); (try clear gR); (try clear fY); (try clear gS); (try clear fZ); (try clear gT); (try clear ga); (try clear gU); (try clear gb); (try clear gV); obtain ⟨gc, gd, ge, gf, gg, gW, gX, gY, gZ, g0⟩ := cells5 d.out; obtain ⟨gh, gi, gj, gk, gl, gm, g1, g2, g3, g4, g5, g6⟩ := cells6 l.out) | ((with_reducible refine gate_callee (f := 49) rfl ?_); refine goesL_ (some 60) rfl rfl Tryd.func49 (by kernel_rfl) rfl #[.agg #[.int .i64 aF, .int .i64 aJ, .slice a5 au.length a6, .int .i64 aM, .bool aR, .bool aS]] rfl ag_ ?_; (with_reducible refine (host_unlocked.calls aF aJ (fun k_ => some k_ = (.slice a5 au.length a6 : Value).ownBlock) _ _ au aM aR aS bx bH bO bX ce cp _ ?side1 lX.out).mono ?_); (case side1 => exact Kd.R_V (Kd.R_tight rfl (Kd.R_types (Kd.R_types (Kd.R_types (Kd.R_types (Kd.R_types (aj.out) b.out (by decide)) d.out (by decide)) j.out (by decide)) l.out (by decide)) ay.out (by decide)))); rintro e oG ⟨oF, rfl, aE, hb⟩; refine ⟨_, rfl, ?_⟩; replace HO_224002 := Z (vb HO_224002.out hb); replace aG := Z (vb aG.out hb); have fl := Z (Kd.V_lower (Kd.V_mono (ok' := fun k_ => (aH k_ ∨ w.heap.size ≤ k_) ∧ some k_ ≠ (.slice bb z.length bc : Value).ownBlock ∧ k_ ≠ O ∧ k_ ≠ Q ∧ k_ ≠ q ∧ k_ ≠ a ∧ k_ ≠ U) aE (fun k_ hk_ => ⟨Or.elim hk_ (fun hs_ => (.inr (((Kd.R_types (Kd.R_types (Kd.R_types (Kd.R_types (Kd.R_types (aj.out) b.out (by decide)) d.out (by decide)) j.out (by decide)) l.out (by decide)) ay.out (by decide)).1 k_ hs_.symm).1.1.1.1.1.1))) (fun hn_ => (ir_ hn_)), Or.elim hk_ (fun hs_ => ((Kd.R_types (Kd.R_types (Kd.R_types (Kd.R_types (Kd.R_types (aj.out) b.out (by decide)) d.out (by decide)) j.out (by decide)) l.out (by decide)) ay.out (by decide)).1 k_ hs_.symm).1.1.1.1.1.2) (fun hn_ => (Kd.fresh' (Kd.R_lt (by (with_reducible repeat apply pR); exact HO_244002.out)) k_ hn_)), Or.elim hk_ (fun hs_ => ((Kd.R_types (Kd.R_types (Kd.R_types (Kd.R_types (Kd.R_types (aj.out) b.out (by decide)) d.out (by decide)) j.out (by decide)) l.out (by decide)) ay.out (by decide)).1 k_ hs_.symm).1.1.1.1.2) (fun hn_ => (fb b.out k_ hn_)), Or.elim hk_ (fun hs_ => ((Kd.R_types (Kd.R_types (Kd.R_types (Kd.R_types (Kd.R_types (aj.out) b.out (by decide)) d.out (by decide)) j.out (by decide)) l.out (by decide)) ay.out (by decide)).1 k_ hs_.symm).1.1.1.2) (fun hn_ => (fb d.out k_ hn_)), Or.elim hk_ (fun hs_ => ((Kd.R_types (Kd.R_types (Kd.R_types (Kd.R_types (Kd.R_types (aj.out) b.out (by decide)) d.out (by decide)) j.out (by decide)) l.out (by decide)) ay.out (by decide)).1 k_ hs_.symm).1.1.2) (fun hn_ => (fb j.out k_ hn_)), Or.elim hk_ (fun hs_ => ((Kd.R_types (Kd.R_types (Kd.R_types (Kd.R_types (Kd.R_types (aj.out) b.out (by decide)) d.out (by decide)) j.out (by decide)) l.out (by decide)) ay.out (by decide)).1 k_ hs_.symm).1.2) (fun hn_ => (fb l.out k_ hn_)), Or.elim hk_ (fun hs_ => ((Kd.R_types (Kd.R_types (Kd.R_types (Kd.R_types (Kd.R_types (aj.out) b.out (by decide)) d.out (by decide)) j.out (by decide)) l.out (by decide)) ay.out (by decide)).1 k_ hs_.symm).2) (fun hn_ => (fb ay.out k_ hn_))⟩)) (below_size bl_)); replace HO_244002 := Z (rb HO_244002.out hb); replace aj := Z (rb aj.out hb); replace b := Z (kb b.out hb); replace d := Z (kb d.out hb); replace j := Z (kb j.out hb); replace l := Z (kb l.out hb); replace ay := Z (kb ay.out hb); replace HB := Z (below_step bl_ hb); (try clear hb); (try clear bJ); (try clear hk); (try clear hi); (try clear aE); (try clear gc); (try clear gW); (try clear gd); (try clear gX); (try clear ge); (try clear gY); (try clear gf); (try clear gZ); (try clear gg); (try clear g0); (try clear gh); (try clear g1); (try clear gi); (try clear g2); (try clear gj); (try clear g3); (try clear gk); (try clear g4); (try clear gl); (try clear g5); (try clear gm); (try clear g6); obtain ⟨h5, h6, h7, h8, h9, ia, jI, jJ, jK, jL, jM, jN⟩ := cells6 l.out; obtain ⟨bQ, bS, hF⟩ := Kd.V_slice fl.out; subst hF; have mn := aX.out; have mM := aW.out; obtain ⟨ib, ic, id, ie, ig, ih, jO, jP, jQ, jR, jS, jT⟩ := cells6 j.out))
        refine bodyPost_ret (results_ct rfl _ _ q 24 #[.int .i64 bx, .int .i64 bH, .slice bQ bO.length bS, .int .i64 bX, .bool ce, .bool cp] (0, 0) _ rfl (by (with_reducible repeat apply pK); refine blk_put (cs := #[.int .i64 bx, .int .i64 bH, .slice bQ bO.length bS, .int .i64 bX, .bool ce, .bool false]) ?_ 5 _ rfl; (with_reducible repeat apply pK); refine blk_put (cs := #[.int .i64 bx, .int .i64 bH, .slice bQ bO.length bS, .int .i64 bX, .bool false, .bool false]) ?_ 4 _ rfl; (with_reducible repeat apply pK); refine blk_put (cs := #[.int .i64 bx, .int .i64 bH, .slice bQ bO.length bS, .int .i64 0, .bool false, .bool false]) ?_ 3 _ rfl; (with_reducible repeat apply pK); refine blk_put (cs := #[.int .i64 bx, .int .i64 bH, .slice none 0 0, .int .i64 0, .bool false, .bool false]) ?_ 2 _ rfl; (with_reducible repeat apply pK); refine blk_put (cs := #[.int .i64 bx, .int .i64 0, .slice none 0 0, .int .i64 0, .bool false, .bool false]) ?_ 1 _ rfl; (with_reducible repeat apply pK); refine blk_put (cs := #[.int .i64 0, .int .i64 0, .slice none 0 0, .int .i64 0, .bool false, .bool false]) ?_ 0 _ rfl; (with_reducible repeat apply pK); refine blk_far ?_ r.out _; (with_reducible repeat apply pK); refine blk_far ?_ r.out _; (with_reducible repeat apply pK); refine blk_far ?_ r.out _; (with_reducible repeat apply pK); refine blk_far ?_ r.out _; (with_reducible repeat apply pK); refine blk_far ?_ r.out _; (with_reducible repeat apply pK); refine blk_far ?_ r.out _; (with_reducible repeat apply pK); exact j.out) Tryd.underlying24 rfl (by kernel_rfl)) rfl ?_
        exact ⟨_, _, er_, by (with_reducible repeat apply pV); exact Kd.V_mono (f6V q (f6V a (Kd.V_mono (Kd.V_mono fl.out (fun k_ hk => (⟨hk, hk.2.2.2.2.2.1⟩ : _ ∧ k_ ≠ a))) (fun k_ hk => (⟨hk, hk.1.2.2.2.2.1⟩ : _ ∧ k_ ≠ q))) (fun _ hk => hk.1.2)) (fun _ hk => hk.2)) (fun _ hk => hk.1.1.1), Kd.R_V (Kd.R_nil _ _ _ 0 _), bl_⟩
       ·replace fo := Bool.eq_false_iff.mpr fo
        subst fo
        have H1 : (some (aF, aJ, au, aM, aR, aS, none, ([] : List (S184)))) = some (r1, r2, r3, r4, r5, r6, r7, r8) := by rw [if_neg (show ¬ (false = true) by decide)] at H; exact H
        clear H
        have H := H1
        clear H1
        simp only [Option.some.injEq, Prod.mk.injEq] at H
        obtain ⟨rfl, rfl, rfl, rfl, rfl, rfl, rfl, rfl⟩ := H
        have mo := aY.out
        have mN := aD.out
        have mq := aV.out
        have mO := ax.out
        have mr := aZ.out
        have mP := r.out
        obtain ⟨ii, ij, ik, il, im, io, jU, jV, jW, jX, jY, jZ⟩ := cells6 l.out
        have ms := a3.out
        have mQ := a2.out
        have mt := aT.out
        have mR := aU.out
        obtain ⟨ip, iq, ir, it, iu, j2, j3, j4, j5, j6⟩ := cells5 d.out
        obtain ⟨eI, eP, hG⟩ := Kd.R_slice HO_244002.out
        subst hG
        go_wp2_with (first | ((with_reducible refine gate_callee (f := 24) rfl ?_); refine goesL_ (some 47) rfl rfl Tryd.func24 (by kernel_rfl) rfl #[.agg #[.int .i64 az, .int .i64 aA, .slice eI z.length eP, .int .i64 ab, .bool aB, .bool aC], .int .i64 ab, .slice aO Y.length aP] rfl ag_ ?_; (with_reducible refine (paint_All.calls az aA _ _ z ab aB aC ab _ _ Y aF aJ au aM aR aS fc none bW _ ?side1 ?side2 ?side3 ?side4 ha.out).mono ?_); (case side1 => repeat (first | exact (Kd.R_reads' HO_244002.out).2.2 | (with_reducible apply pC))); (case side2 => exact (Kd.R_reads' HO_244002.out).2.1); (case side3 => repeat (first | exact (Kd.C_below bZ.out HB.out) | (with_reducible apply pC))); (case side4 => exact bY.out); rintro e oH ⟨cq, eW, rfl, aE, bu, hb⟩; refine ⟨_, rfl, ?_⟩; replace HO_224002 := Z (Kd.V_elder' (vV HO_224002.out) (Kd.R_base aE) hb); have aj := Z (Kd.R_lower (Kd.R_new' (Kd.R_newM (M := fun k_ => (w.heap.size ≤ k_)) (Kd.R_mono (ok' := fun k_ => True) aE (fun _ hk_ => trivial)) (below_size bl_) (fun k_ h_ => h_)) (Kd.R_lt (by (with_reducible repeat apply pR); exact HO_244002.out))) (below_size bl_)); have aG := Z (Kd.V_lower (Kd.V_mono (ok' := fun k_ => (aH k_ ∨ w.heap.size ≤ k_) ∧ some k_ ≠ (cq : Value).ownBlock ∧ some k_ ≠ (.slice eI z.length eP : Value).ownBlock ∧ k_ ≠ O ∧ k_ ≠ Q ∧ k_ ≠ q ∧ k_ ≠ a) bu (fun k_ hk_ => ⟨(.inr (Nat.le_trans (below_size bl_) hk_.1)), hk_.2, (Kd.fresh' (Kd.R_lt (by (with_reducible repeat apply pR); exact HO_244002.out)) k_ hk_.1), (Kd.freshB (g := O) (o := .cells #[.int .i64 G, .int .i64 I, .slice ap u.length ar, .int .i64 J, .bool L, .bool P] 24 (0, 0)) (vK b.out) k_ hk_.1), (Kd.freshB (g := Q) (o := .cells #[.int .i64 y, .bool ak, .bool false, .bool am, .slice aO Y.length aP] 60 (0, 0)) (vK d.out) k_ hk_.1), (Kd.freshB (g := q) (o := .cells #[.int .i64 0, .int .i64 0, .slice none 0 0, .int .i64 0, .bool false, .bool false] 24 (0, 0)) (vK j.out) k_ hk_.1), (Kd.freshB (g := a) (o := .cells #[.int .i64 az, .int .i64 aA, .slice eI z.length eP, .int .i64 ab, .bool aB, .bool aC] 24 (0, 0)) (vK l.out) k_ hk_.1)⟩)) (below_size bl_)); replace HO_244002 := Z (Kd.R_elder' (by (with_reducible repeat apply pR); exact HO_244002.out) (Kd.R_base aE) hb); replace b := Z (kb b.out hb); replace d := Z (kb d.out hb); replace j := Z (kb j.out hb); replace l := Z (kb l.out hb); replace HB := Z (below_step bl_ hb); (try clear hb); (try clear bJ); (try clear hk); (try clear hi); (try clear aE); (try clear bu); (try simp only [errW_none, errW_some])) | ((with_reducible refine gate_dst (N := 9) rfl ?_); refine bx_ 9 24 #[.int .i64 0, .int .i64 0, .slice none 0 0, .int .i64 0, .bool false, .bool false] ?_; intro U hg oI hbox hb; replace HO_224002 := Z (ve HO_224002.out hg hb); replace HO_244002 := Z (rb HO_244002.out hb); replace aj := Z (rb aj.out hb); replace aG := Z (ve aG.out hg hb); have ay := Z (hbox); have fi := Z (ln_ hg : w.heap.size ≤ U); have fh := Z (ln_ hg : w.heap.size ≤ U); replace HB := Z (below_step bl_ hb); have a7 := Z (nl b.out hg); have bd := Z (ng b.out hg); replace b := Z (kb b.out hb); have a8 := Z (nl d.out hg); have be := Z (ng d.out hg); replace d := Z (kb d.out hb); have ai := Z (nl j.out hg); have bf := Z (ng j.out hg); replace j := Z (kb j.out hb); have a9 := Z (nl l.out hg); have ba := Z (ng l.out hg); replace l := Z (kb l.out hb); clear hb hbox hg; have mu := bd.out; have mS := a7.out; have mv := be.out; have mT := a8.out; have mw := bf.out; have mU := ai.out; have mx := ba.out; have mV := a9.out; obtain ⟨iv, iw, ix, iy, iz, iA, j7, j8, j9, ka, kc, kd⟩ := cells6 ay.out; obtain ⟨bz, bC, hH⟩ := Kd.R_slice aj.out; subst hH; obtain ⟨iB, iC, iD, iE, iF, iG, ke, kf, kg, kh, ki, kj⟩ := cells6 l.out; obtain ⟨iH, iI, iJ, iK, iL, kk, kl, km, kn, ko⟩ := cells5 d.out; have my := aX.out; have mW := aW.out; obtain ⟨iM, iN, iO, iP, iQ, iR, kp, kr, ks, kt, ku, kv⟩ := cells6 j.out))
        refine bodyPost_ret (results_ct rfl _ _ q 24 #[.int .i64 aF, .int .i64 aJ, .slice bz au.length bC, .int .i64 aM, .bool aR, .bool aS] (0, 0) _ rfl (by (with_reducible repeat apply pK); refine blk_put (cs := #[.int .i64 aF, .int .i64 aJ, .slice bz au.length bC, .int .i64 aM, .bool aR, .bool false]) ?_ 5 _ rfl; (with_reducible repeat apply pK); refine blk_put (cs := #[.int .i64 aF, .int .i64 aJ, .slice bz au.length bC, .int .i64 aM, .bool false, .bool false]) ?_ 4 _ rfl; (with_reducible repeat apply pK); refine blk_put (cs := #[.int .i64 aF, .int .i64 aJ, .slice bz au.length bC, .int .i64 0, .bool false, .bool false]) ?_ 3 _ rfl; (with_reducible repeat apply pK); refine blk_put (cs := #[.int .i64 aF, .int .i64 aJ, .slice none 0 0, .int .i64 0, .bool false, .bool false]) ?_ 2 _ rfl; (with_reducible repeat apply pK); refine blk_put (cs := #[.int .i64 aF, .int .i64 0, .slice none 0 0, .int .i64 0, .bool false, .bool false]) ?_ 1 _ rfl; (with_reducible repeat apply pK); refine blk_put (cs := #[.int .i64 0, .int .i64 0, .slice none 0 0, .int .i64 0, .bool false, .bool false]) ?_ 0 _ rfl; (with_reducible repeat apply pK); refine blk_far ?_ r.out _; (with_reducible repeat apply pK); refine blk_far ?_ r.out _; (with_reducible repeat apply pK); refine blk_far ?_ r.out _; (with_reducible repeat apply pK); refine blk_far ?_ r.out _; (with_reducible repeat apply pK); refine blk_far ?_ r.out _; (with_reducible repeat apply pK); refine blk_far ?_ r.out _; (with_reducible repeat apply pK); refine blk_far ?_ ai.out _; (with_reducible repeat apply pK); refine blk_far ?_ ai.out _; (with_reducible repeat apply pK); refine blk_far ?_ ai.out _; (with_reducible repeat apply pK); refine blk_far ?_ ai.out _; (with_reducible repeat apply pK); refine blk_far ?_ ai.out _; (with_reducible repeat apply pK); refine blk_far ?_ ai.out _; (with_reducible repeat apply pK); exact j.out) Tryd.underlying24 rfl (by kernel_rfl)) rfl ?_
        exact ⟨_, _, er_, Kd.V_mono (Kd.R_V (by (with_reducible repeat apply pR); exact Kd.R_mono (f6R q (f6R a (f6R U (Kd.R_types (Kd.R_types (Kd.R_types aj.out ay.out (by decide)) l.out (by decide)) j.out (by decide)) (fun _ hk => hk.1.1.2)) (fun _ hk => hk.1.2)) (fun _ hk => hk.2)) (fun _ hk => hk.1.1.1.1.1))) (fun k_ hk => by first | exact ⟨(.inr (hk.1)), hk.2⟩ | exact (.inr (hk))), Kd.R_V (Kd.R_nil _ _ _ 0 _), bl_⟩
      ·have H1 : (some (G, I, u, J, L, P, some e8, bW)) = some (r1, r2, r3, r4, r5, r6, r7, r8) := by rw [if_neg (show ¬ (some e8).isNone = true by simp)] at H; exact H
       clear H
       have H := H1
       clear H1
       try simp only [errW_none, errW_some]
       simp only [Option.some.injEq, Prod.mk.injEq] at H
       obtain ⟨rfl, rfl, rfl, rfl, rfl, rfl, rfl, rfl⟩ := H
       have mz := aY.out
       have mX := aD.out
       have mA := aV.out
       have mY := ax.out
       have mB := aZ.out
       have mZ := r.out
       obtain ⟨iS, iT, iU, iV, iW, iX, kw, kx, ky, kz, kA, kB⟩ := cells6 l.out
       have mC := a3.out
       have m0 := a2.out
       have mD := aT.out
       have m1 := aU.out
       obtain ⟨iY, iZ, ja, jb, jc, kC, kD, kE, kF, kG⟩ := cells5 d.out
       obtain ⟨eJ, eQ, hI⟩ := Kd.R_slice HO_244002.out
       subst hI
       go_wp2_with (first | ((with_reducible refine gate_callee (f := 24) rfl ?_); refine goesL_ (some 47) rfl rfl Tryd.func24 (by kernel_rfl) rfl #[.agg #[.int .i64 az, .int .i64 aA, .slice eJ z.length eQ, .int .i64 ab, .bool aB, .bool aC], .int .i64 ab, .slice aO Y.length aP] rfl ag_ ?_; (with_reducible refine (paint_All.calls az aA _ _ z ab aB aC ab _ _ Y aF aJ au aM aR aS fc (some e8) bW _ ?side1 ?side2 ?side3 ?side4 ha.out).mono ?_); (case side1 => repeat (first | exact (Kd.R_reads' HO_244002.out).2.2 | (with_reducible apply pC))); (case side2 => exact (Kd.R_reads' HO_244002.out).2.1); (case side3 => repeat (first | exact (Kd.C_below bZ.out HB.out) | (with_reducible apply pC))); (case side4 => exact bY.out); rintro e oJ ⟨cq, eW, rfl, aE, bu, hb⟩; refine ⟨_, rfl, ?_⟩; replace HO_224002 := Z (Kd.V_elder' (vV HO_224002.out) (Kd.R_base aE) hb); have aj := Z (Kd.R_lower (Kd.R_new' (Kd.R_newM (M := fun k_ => (w.heap.size ≤ k_)) (Kd.R_mono (ok' := fun k_ => True) aE (fun _ hk_ => trivial)) (below_size bl_) (fun k_ h_ => h_)) (Kd.R_lt (by (with_reducible repeat apply pR); exact HO_244002.out))) (below_size bl_)); have aG := Z (Kd.V_lower (Kd.V_mono (ok' := fun k_ => (aH k_ ∨ w.heap.size ≤ k_) ∧ some k_ ≠ (cq : Value).ownBlock ∧ some k_ ≠ (.slice eJ z.length eQ : Value).ownBlock ∧ k_ ≠ O ∧ k_ ≠ Q ∧ k_ ≠ q ∧ k_ ≠ a) bu (fun k_ hk_ => ⟨(.inr (Nat.le_trans (below_size bl_) hk_.1)), hk_.2, (Kd.fresh' (Kd.R_lt (by (with_reducible repeat apply pR); exact HO_244002.out)) k_ hk_.1), (Kd.freshB (g := O) (o := .cells #[.int .i64 G, .int .i64 I, .slice ap u.length ar, .int .i64 J, .bool L, .bool P] 24 (0, 0)) (vK b.out) k_ hk_.1), (Kd.freshB (g := Q) (o := .cells #[.int .i64 y, .bool ak, .bool al, .bool am, .slice aO Y.length aP] 60 (0, 0)) (vK d.out) k_ hk_.1), (Kd.freshB (g := q) (o := .cells #[.int .i64 0, .int .i64 0, .slice none 0 0, .int .i64 0, .bool false, .bool false] 24 (0, 0)) (vK j.out) k_ hk_.1), (Kd.freshB (g := a) (o := .cells #[.int .i64 az, .int .i64 aA, .slice eJ z.length eQ, .int .i64 ab, .bool aB, .bool aC] 24 (0, 0)) (vK l.out) k_ hk_.1)⟩)) (below_size bl_)); replace HO_244002 := Z (Kd.R_elder' (by (with_reducible repeat apply pR); exact HO_244002.out) (Kd.R_base aE) hb); replace b := Z (kb b.out hb); replace d := Z (kb d.out hb); replace j := Z (kb j.out hb); replace l := Z (kb l.out hb); replace HB := Z (below_step bl_ hb); (try clear hb); (try clear bJ); (try clear hk); (try clear hi); (try clear aE); (try clear bu); (try simp only [errW_none, errW_some])) | ((with_reducible refine gate_dst (N := 9) rfl ?_); refine bx_ 9 24 #[.int .i64 0, .int .i64 0, .slice none 0 0, .int .i64 0, .bool false, .bool false] ?_; intro U hg oK hbox hb; replace HO_224002 := Z (ve HO_224002.out hg hb); replace HO_244002 := Z (rb HO_244002.out hb); replace aj := Z (rb aj.out hb); replace aG := Z (ve aG.out hg hb); have ay := Z (hbox); have fi := Z (ln_ hg : w.heap.size ≤ U); have fh := Z (ln_ hg : w.heap.size ≤ U); replace HB := Z (below_step bl_ hb); have a7 := Z (nl b.out hg); have bd := Z (ng b.out hg); replace b := Z (kb b.out hb); have a8 := Z (nl d.out hg); have be := Z (ng d.out hg); replace d := Z (kb d.out hb); have ai := Z (nl j.out hg); have bf := Z (ng j.out hg); replace j := Z (kb j.out hb); have a9 := Z (nl l.out hg); have ba := Z (ng l.out hg); replace l := Z (kb l.out hb); clear hb hbox hg; have mE := bd.out; have m2 := a7.out; have mF := be.out; have m3 := a8.out; have mG := bf.out; have m4 := ai.out; have mH := ba.out; have m5 := a9.out; obtain ⟨jd, je, jf, jg, jh, ji, kH, kI, kJ, kK, kL, kM⟩ := cells6 ay.out; obtain ⟨fg, fp, hJ⟩ := Kd.R_slice aj.out; subst hJ; have mI := aW.out; have m6 := aX.out; obtain ⟨jj, jk, jl, jm, jn, jo, kN, kO, kP, kQ, kR, kS⟩ := cells6 b.out; obtain ⟨jp, jq, jr, js, jt, ju, kT, kU, kV, kW, kX, kY⟩ := cells6 j.out))
       refine bodyPost_ret (results_ct rfl _ _ q 24 #[.int .i64 G, .int .i64 I, .slice ap u.length ar, .int .i64 J, .bool L, .bool P] (0, 0) _ rfl (by (with_reducible repeat apply pK); refine blk_put (cs := #[.int .i64 G, .int .i64 I, .slice ap u.length ar, .int .i64 J, .bool L, .bool false]) ?_ 5 _ rfl; (with_reducible repeat apply pK); refine blk_put (cs := #[.int .i64 G, .int .i64 I, .slice ap u.length ar, .int .i64 J, .bool false, .bool false]) ?_ 4 _ rfl; (with_reducible repeat apply pK); refine blk_put (cs := #[.int .i64 G, .int .i64 I, .slice ap u.length ar, .int .i64 0, .bool false, .bool false]) ?_ 3 _ rfl; (with_reducible repeat apply pK); refine blk_put (cs := #[.int .i64 G, .int .i64 I, .slice none 0 0, .int .i64 0, .bool false, .bool false]) ?_ 2 _ rfl; (with_reducible repeat apply pK); refine blk_put (cs := #[.int .i64 G, .int .i64 0, .slice none 0 0, .int .i64 0, .bool false, .bool false]) ?_ 1 _ rfl; (with_reducible repeat apply pK); refine blk_put (cs := #[.int .i64 0, .int .i64 0, .slice none 0 0, .int .i64 0, .bool false, .bool false]) ?_ 0 _ rfl; (with_reducible repeat apply pK); refine blk_far ?_ ai.out _; (with_reducible repeat apply pK); refine blk_far ?_ ai.out _; (with_reducible repeat apply pK); refine blk_far ?_ ai.out _; (with_reducible repeat apply pK); refine blk_far ?_ ai.out _; (with_reducible repeat apply pK); refine blk_far ?_ ai.out _; (with_reducible repeat apply pK); refine blk_far ?_ ai.out _; (with_reducible repeat apply pK); exact j.out) Tryd.underlying24 rfl (by kernel_rfl)) rfl ?_
       exact ⟨_, _, er_, by (with_reducible repeat apply pV); exact Kd.V_mono (f6V q (f6V U (Kd.V_mono (Kd.V_mono HO_224002.out (fun k_ hk => (⟨hk, hk.2⟩ : _ ∧ k_ ≠ U))) (fun k_ hk => (⟨hk, hk.1.1.1.2.2.2.2.1⟩ : _ ∧ k_ ≠ q))) (fun _ hk => hk.1.2)) (fun _ hk => hk.2)) (fun _ hk => hk.1.1.1.1.1), by (with_reducible repeat apply pV); exact Kd.V_mono (f6V q (f6V U (Kd.V_mono (Kd.V_mono aG.out (fun k_ hk => (⟨hk, hk.2⟩ : _ ∧ k_ ≠ U))) (fun k_ hk => (⟨hk, hk.1.1.2.2.2.2.2.1⟩ : _ ∧ k_ ≠ q))) (fun _ hk => hk.1.2)) (fun _ hk => hk.2)) (fun _ hk => hk.1.1.1.1), bl_⟩
 ·have H1 : (some (G, I, u, J, L, P, some cf, ch)) = some (r1, r2, r3, r4, r5, r6, r7, r8) := by rw [if_neg (show ¬ (some cf).isNone = true by simp)] at H; exact H
  clear H
  have H := H1
  clear H1
  try simp only [errW_none, errW_some]
  simp only [Option.some.injEq, Prod.mk.injEq] at H
  obtain ⟨rfl, rfl, rfl, rfl, rfl, rfl, rfl, rfl⟩ := H
  go_enter Tryd.func31, Tryd.ntmps31
  try go_wp2_with (first | ((with_reducible refine gate_dst (N := 2) rfl ?_); refine bx_ 2 24 #[.int .i64 G, .int .i64 I, .slice ap u.length ar, .int .i64 J, .bool L, .bool P] ?_; intro O hg oL hbox hb; replace s := Z (ve s.out hg hb); have b := Z (hbox); have hB := Z (ln_ hg : w.heap.size ≤ O); have hy := Z (ln_ hg : w.heap.size ≤ O); replace HB := Z (below_step bl_ hb); clear hb hbox hg) | ((with_reducible refine gate_dst (N := 3) rfl ?_); refine bx_ 3 60 #[.int .i64 y, .bool ak, .bool al, .bool am, .slice aO Y.length aP] ?_; intro Q hg oM hbox hb; replace s := Z (ve s.out hg hb); have d := Z (hbox); have hC := Z (ln_ hg : w.heap.size ≤ Q); have hz := Z (ln_ hg : w.heap.size ≤ Q); replace HB := Z (below_step bl_ hb); have a2 := Z (nl b.out hg); have a3 := Z (ng b.out hg); replace b := Z (kb b.out hb); clear hb hbox hg) | ((with_reducible refine gate_dst (N := 4) rfl ?_); refine bx_ 4 24 #[.int .i64 0, .int .i64 0, .slice none 0 0, .int .i64 0, .bool false, .bool false] ?_; intro q hg lw hbox hb; replace s := Z (ve s.out hg hb); have j := Z (hbox); have hD := Z (ln_ hg : w.heap.size ≤ q); have hA := Z (ln_ hg : w.heap.size ≤ q); replace HB := Z (below_step bl_ hb); have aW := Z (nl b.out hg); have aX := Z (ng b.out hg); replace b := Z (kb b.out hb); have aT := Z (nl d.out hg); have aU := Z (ng d.out hg); replace d := Z (kb d.out hb); clear hb hbox hg))
  have A := Z (Kd.V_drew s.out)
  have B := Z (blk_drew b.out)
  have D := Z (blk_drew d.out)
  have E := Z (blk_drew j.out)
  have F := Z (below_drew1 HB.out)
  clear s
  clear b
  clear d
  clear j
  clear HB
  have s := A
  have b := B
  have d := D
  have j := E
  have HB := F
  clear A B D E F
  refine start_ (n := 9) (S := fun w' => w'.cell? ⟨Q, 0, none⟩ = some (.int .i64 y) ∧ w'.cell? ⟨Q, 1, none⟩ = some (.bool ak) ∧ w'.cell? ⟨Q, 2, none⟩ = some (.bool al) ∧ w'.cell? ⟨Q, 3, none⟩ = some (.bool am) ∧ w'.cell? ⟨Q, 4, none⟩ = some (.slice aO Y.length aP) ∧ w'.cell? ⟨O, 0, none⟩ = some (.int .i64 G) ∧ w'.cell? ⟨O, 1, none⟩ = some (.int .i64 I) ∧ w'.cell? ⟨O, 2, none⟩ = some (.slice ap u.length ar) ∧ w'.cell? ⟨O, 3, none⟩ = some (.int .i64 J) ∧ w'.cell? ⟨O, 4, none⟩ = some (.bool L) ∧ w'.cell? ⟨O, 5, none⟩ = some (.bool P)) (ds := []) (bv 9 0) (by kernel_rfl) rfl rfl ⟨(blk_cell d.out 0).trans rfl, (blk_cell d.out 1).trans rfl, (blk_cell d.out 2).trans rfl, (blk_cell d.out 3).trans rfl, (blk_cell d.out 4).trans rfl, (blk_cell b.out 0).trans rfl, (blk_cell b.out 1).trans rfl, (blk_cell b.out 2).trans rfl, (blk_cell b.out 3).trans rfl, (blk_cell b.out 4).trans rfl, (blk_cell b.out 5).trans rfl⟩ (fun hHeld => ?_); refine with_tabW host_Do.tab1 host_Do.bits1 (fun HT_ HW_ => ?_)
  generalize lw.drew = oN at s b d j HB hHeld ⊢
  refine take_ (i := 0) (N := some 13) (v := ?_) (a' := ?_) (bv 9 1) rfl rfl (take_ofW HT_.out HW_.out (by kernel_rfl)) (fun _ _ _ h => h) (Or.inl ⟨by rfl, ?_⟩) hHeld ?_ ?_
  rotate_left
  ·rintro w' ⟨s0, s1, s2, s3, s4, s5, s6, s7, s8, s9, hv⟩
   go_simp
   with_reducible rfl
  rotate_left
  ·simp only [Act.put, sA, sB, sC, i64_w, i32_w]
   rfl
  refine take_ (i := 1) (N := some 14) (v := ?_) (a' := ?_) (bv 9 3) rfl rfl (take_ofW HT_.out HW_.out (by kernel_rfl)) (fun _ _ _ h => h) (Or.inl ⟨by rfl, ?_⟩) hHeld ?_ ?_
  rotate_left
  ·rintro w' ⟨s0, s1, s2, s3, s4, s5, s6, s7, s8, s9, hv⟩
   go_simp
   with_reducible rfl
  rotate_left
  ·simp only [Act.put, sA, sB, sC, i64_w, i32_w]
   rfl
  refine one_ (i := 2) (N := some 15) (bv 9 7) rfl rfl (one_of HT_.out (by kernel_rfl)) (by decide) (fun K hK => ?_)
  refine goes_ Tryd.func37 (by kernel_rfl) rfl #[.agg #[.int .i64 G, .int .i64 I, .slice ap u.length ar, .int .i64 J, .bool L, .bool P]] (by rfl) rfl rfl ag_ ?_
  with_reducible refine (grid_Size.calls G I _ _ u J L P bF _ ?side1 ?side2 A3.out).mono ?_
  (case side1 => repeat (first | exact (Kd.V_reads' s.out).2.2 | (with_reducible apply pC)))
  (case side2 => exact (Kd.V_reads' s.out).2.1)
  rintro e oO ⟨rfl, hb⟩
  refine ⟨_, rfl, ?_⟩
  have A := Z (vb s.out hb)
  have B := Z (kb b.out hb)
  have D := Z (kb d.out hb)
  have E := Z (kb j.out hb)
  have F := Z (below_step bl_ hb)
  clear s
  clear b
  clear d
  clear j
  clear HB
  have s := A
  have b := B
  have d := D
  have j := E
  have HB := F
  clear A B D E F
  (try clear hb)
  (try clear bJ)
  (try clear hk)
  (try clear hi)
  refine hK.out _ _ ⟨(blk_cell d.out 0).trans rfl, (blk_cell d.out 1).trans rfl, (blk_cell d.out 2).trans rfl, (blk_cell d.out 3).trans rfl, (blk_cell d.out 4).trans rfl, (blk_cell b.out 0).trans rfl, (blk_cell b.out 1).trans rfl, (blk_cell b.out 2).trans rfl, (blk_cell b.out 3).trans rfl, (blk_cell b.out 4).trans rfl, (blk_cell b.out 5).trans rfl⟩ (fun hHeld => ?_)
  clear hK K
  refine norm_ (a' := ?_) ?_ ?_
  rotate_left
  ·show Act.put _ (some 15) _ = _
   simp only [Act.put, sA, sB, sC, i64_w, i32_w]
   rfl
  refine one_ (i := 3) (N := some 16) (bv 9 15) rfl rfl (one_of HT_.out (by kernel_rfl)) (by decide) (fun K hK => ?_)
  refine goes_ Tryd.func48 (by kernel_rfl) rfl #[.agg #[.int .i64 y, .bool ak, .bool al, .bool am, .slice aO Y.length aP], .int .i64 bF] (by rfl) rfl rfl ag_ ?_
  with_reducible refine (stream_Write.calls k y ak al am _ _ Y bF e9 (some cf) ch _ ?side1 ?side2 A4.out).mono ?_
  (case side1 => repeat (first | exact (Kd.C_below bZ.out HB.out) | (with_reducible apply pC)))
  (case side2 => exact bY.out)
  rintro e oP ⟨bI, hx, rfl, aE, bu, hb⟩
  refine ⟨_, rfl, ?_⟩
  have A := Z (Kd.V_elder' (vV s.out) (Kd.R_base aE) hb)
  have B := Z (Kd.R_lower (Kd.R_newM (M := fun k_ => (w.heap.size ≤ k_)) (Kd.R_mono (ok' := fun k_ => True) aE (fun _ hk_ => trivial)) (below_size bl_) (fun k_ h_ => h_)) (below_size bl_))
  have D := Z (Kd.V_lower (Kd.V_mono (ok' := fun k_ => (aH k_ ∨ w.heap.size ≤ k_) ∧ some k_ ≠ (bI : Value).ownBlock ∧ k_ ≠ O ∧ k_ ≠ Q ∧ k_ ≠ q) bu (fun k_ hk_ => ⟨(.inr (Nat.le_trans (below_size bl_) hk_.1)), hk_.2, (Kd.freshB (g := O) (o := .cells #[.int .i64 G, .int .i64 I, .slice ap u.length ar, .int .i64 J, .bool L, .bool P] 24 (0, 0)) (vK b.out) k_ hk_.1), (Kd.freshB (g := Q) (o := .cells #[.int .i64 y, .bool ak, .bool al, .bool am, .slice aO Y.length aP] 60 (0, 0)) (vK d.out) k_ hk_.1), (Kd.freshB (g := q) (o := .cells #[.int .i64 0, .int .i64 0, .slice none 0 0, .int .i64 0, .bool false, .bool false] 24 (0, 0)) (vK j.out) k_ hk_.1)⟩)) (below_size bl_))
  have E := Z (kb b.out hb)
  have F := Z (kb d.out hb)
  have W := Z (kb j.out hb)
  have X := Z (below_step bl_ hb)
  clear s
  clear b
  clear d
  clear j
  clear HB
  have s := A
  have aw := B
  have aK := D
  have b := E
  have d := F
  have j := W
  have HB := X
  clear A B D E F W X
  (try clear hb)
  (try clear bJ)
  (try clear hk)
  (try clear hi)
  (try clear aE)
  (try clear bu)
  (try simp only [errW_none, errW_some])
  refine hK.out _ _ ⟨(blk_cell d.out 0).trans rfl, (blk_cell d.out 1).trans rfl, (blk_cell d.out 2).trans rfl, (blk_cell d.out 3).trans rfl, (blk_cell d.out 4).trans rfl, (blk_cell b.out 0).trans rfl, (blk_cell b.out 1).trans rfl, (blk_cell b.out 2).trans rfl, (blk_cell b.out 3).trans rfl, (blk_cell b.out 4).trans rfl, (blk_cell b.out 5).trans rfl⟩ (fun hHeld => ?_)
  clear hK K
  refine norm_ (a' := ?_) ?_ ?_
  rotate_left
  ·show Act.put _ (some 16) _ = _
   simp only [Act.put, sA, sB, sC, i64_w, i32_w]
   rfl
  refine pure_ (i := 4) (N := some 12) (v := ?_) (a' := ?_) (bv 9 31) rfl rfl (any_of HT_.out (by kernel_rfl)) (fun _ _ _ h => h) (Or.inl ⟨by rfl, ?_⟩) ?_ ?_
  rotate_left
  ·intro w'
   go_simp
   with_reducible rfl
  rotate_left
  ·simp only [Act.put, sA, sB, sC, i64_w, i32_w]
   rfl
  refine pure_ (i := 5) (N := some 17) (v := ?_) (a' := ?_) (bv 9 63) rfl rfl (any_of HT_.out (by kernel_rfl)) (fun _ _ _ h => h) (Or.inl ⟨by rfl, ?_⟩) ?_ ?_
  rotate_left
  ·intro w'
   go_simp
   with_reducible rfl
  rotate_left
  ·simp only [Act.put, sA, sB, sC, i64_w, i32_w]
   rfl
  refine pure_ (i := 6) (N := some 18) (v := ?_) (a' := ?_) (bv 9 127) rfl rfl (any_of HT_.out (by kernel_rfl)) (fun _ _ _ h => h) (Or.inl ⟨by rfl, ?_⟩) ?_ ?_
  rotate_left
  ·intro w'
   go_simp
   with_reducible rfl
  rotate_left
  ·simp only [Act.put, sA, sB, sC, i64_w, i32_w]
   rfl
  refine pure_ (i := 7) (N := some 6) (v := ?_) (a' := ?_) (bv 9 255) rfl rfl (any_of HT_.out (by kernel_rfl)) (fun _ _ _ h => h) (Or.inl ⟨by rfl, ?_⟩) ?_ ?_
  rotate_left
  ·intro w'
   go_simp
   with_reducible rfl
  rotate_left
  ·simp only [Act.put, sA, sB, sC, i64_w, i32_w]
   rfl
  refine pure_ (i := 8) (N := some 7) (v := ?_) (a' := ?_) (bv 9 511) rfl rfl (any_of HT_.out (by kernel_rfl)) (fun _ _ _ h => h) (Or.inl ⟨by rfl, ?_⟩) ?_ ?_
  rotate_left
  ·intro w'
   go_simp
   with_reducible rfl
  rotate_left
  ·simp only [Act.put, sA, sB, sC, i64_w, i32_w]
   rfl
  refine done_ (done_of HT_.out (by kernel_rfl)) ?_
  have mJ := a2.out
  have m7 := a3.out
  have mK := aW.out
  have m8 := aX.out
  obtain ⟨jv, jw, jx, jy, jz, jA, kZ, la, lb, lc, ld, le⟩ := cells6 b.out
  have mL := aU.out
  have m9 := aT.out
  obtain ⟨jB, jC, jD, jE, jF, jG, lf, lg, lh, li, lj, lk⟩ := cells6 j.out
  try go_wp2
  refine bodyPost_ret (results_ct rfl _ _ q 24 #[.int .i64 G, .int .i64 I, .slice ap u.length ar, .int .i64 J, .bool L, .bool P] (0, 0) _ rfl (put6 j.out) Tryd.underlying24 rfl (by kernel_rfl)) rfl ?_
  exact ⟨_, _, er_, by (with_reducible repeat apply pV); exact Kd.V_mono (f6V q (Kd.V_mono s.out (fun k_ hk => (⟨hk, hk.1.2⟩ : _ ∧ k_ ≠ q))) (fun _ hk => hk.2)) (fun _ hk => hk.1.1.1.1.1), by (with_reducible repeat apply pV); exact Kd.V_mono (f6V q (Kd.V_mono aK.out (fun k_ hk => (⟨hk, hk.2.2.2.2⟩ : _ ∧ k_ ≠ q))) (fun _ hk => hk.2)) (fun _ hk => hk.1.1), bl_⟩
end Go.Proofs.YtgboplhcjhlabaaDoor.P
