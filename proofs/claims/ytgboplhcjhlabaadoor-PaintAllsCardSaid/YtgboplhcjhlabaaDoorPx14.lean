/- pp.py and press2.py (wip/tools) wrote this text. -/
import Derived.Test.YtgboplhcjhlabaaDoorPx0
import Derived.Test.YtgboplhcjhlabaaDoorPxS
import Derived.Test.YtgboplhcjhlabaaDoorPx3
import Derived.Test.YtgboplhcjhlabaaDoorPx13
namespace Go.Proofs.YtgboplhcjhlabaaDoor.P
open Go.RowKit Go.Proofs.YtgboplhcjhlabaaDoorW.PrintWords Go.Proofs.YtgboplhcjhlabaaDoorW.PrintLast Go.Proofs.YtgboplhcjhlabaaDoorW.PrintMore
attribute [local go_sem] max2_int min2_int max_two min_two max_three min_three max_four min_four
attribute [local go_sem] Instr.field asAgg
set_option linter.unusedVariables false
set_option linter.unusedSimpArgs false

/-! ### shutterref12_One: function 20 -/
mutual
def shutterref12_One.l0 : Nat → Int → Int → Int → Int → List (S44) → Int → Bool → Bool → Int → List Int → Bool → Bool → Int → Bool → Int → Int → Int → Int → List (S44) → Int → Bool → Bool → Option (Int × Int × (List (S44)) × Int × Bool × Bool × Int)
 | 0, _, _, _, _, _, _, _, _, _, _, _, _, _, _, _, _, _, _, _, _, _, _ => none
 | k + 1, w, x, c, d, e, g, h, i, p, a, q, r, s, t, u, v, j, l, b, m, n, o => if x < (a.length : Int) then (if 0 ≤ x then (if 0 ≤ w then (if w < (b.length : Int) then ((shutterref10_Next.f c d e g h i w).bind fun y => (shutterref12_One.l0 k y (wrap64 (x + 1)) c d e g h i p a q r s t u v j l (b.set (w : Int).toNat (⟨false, (⟨false, false, 0, false⟩ : S28), rd a x⟩ : S44)) m n o)) else (none)) else (none)) else (none)) else (some (j, l, b, m, n, o, w))
def shutterref12_One.l1 : Nat → Int → Int → Int → List (S44) → Int → Bool → Bool → Int → Int → List (S44) → Int → Bool → Bool → Option (Int × Int × (List (S44)) × Int × Bool × Bool × Int)
 | 0, _, _, _, _, _, _, _, _, _, _, _, _, _ => none
 | k + 1, x10, i, j, a, l, m, n, b, c, d, e, g, h => if x10 < (a.length : Int) then ((shutterref10_Next.f i j a l m n x10).bind fun o => (if 0 ≤ x10 then (if (rd_T44 a x10).f0 = true then (if ((rd_T44 a x10).f1.f0 = true) then (shutterref12_One.l1 k (wrap64 (x10 + 1)) i j a l m n b c d e g h) else (if 0 ≤ o then (if o < (a.length : Int) then (if ((rd_T44 a o).f0 = true) then (shutterref12_One.l1 k (wrap64 (x10 + 1)) i j a l m n b c d e g h) else (some (b, c, d, e, g, h, o))) else (none)) else (none))) else (shutterref12_One.l1 k (wrap64 (x10 + 1)) i j a l m n b c d e g h)) else (none))) else (some (b, c, d, e, g, h, 0))
def shutterref12_One.l2 : Nat → List Int → Int → Int → Int → List (S44) → Int → Bool → Bool → Int → List Int → Bool → Bool → Int → Bool → Int → Int → Int → Int → List (S44) → Int → Bool → Bool → Option (Int × Int × (List (S44)) × Int × Bool × Bool × Int)
 | 0, _, _, _, _, _, _, _, _, _, _, _, _, _, _, _, _, _, _, _, _, _, _ => none
 | k + 1, x12, b, c, d, e, g, h, i, j, s, t, u, v, w, l, m, n, o, a, p, q, r => if b < (x12.length : Int) then (if j = 6 then (if 0 ≤ b then (if 0 ≤ (rd x12 b) then (if (rd x12 b) < (a.length : Int) then (shutterref12_One.l2 k x12 (wrap64 (b + 1)) c d e g h i j s t u v w l m n o (a.set ((rd x12 b) : Int).toNat (⟨false, (⟨false, false, 0, false⟩ : S28), m⟩ : S44)) p q r) else (none)) else (none)) else (none)) else (if 0 ≤ b then ((shutterref11_Open.f k c d e g h i (rd x12 b)).bind fun x => (if x = true then (if 0 ≤ (rd x12 b) then (if (rd x12 b) < (a.length : Int) then (shutterref12_One.l2 k x12 (wrap64 (b + 1)) c d e g h i j s t u v w l m n o (a.set ((rd x12 b) : Int).toNat (⟨(rd_T44 a (rd x12 b)).f0, (⟨(rd_T44 a (rd x12 b)).f1.f0, (rd_T44 a (rd x12 b)).f1.f1, (rd_T44 a (rd x12 b)).f1.f2, (rd_T44 a (rd x12 b)).f1.f3⟩ : S28), 0⟩ : S44)) p q r) else (none)) else (none)) else (shutterref12_One.l2 k x12 (wrap64 (b + 1)) c d e g h i j s t u v w l m n o a p q r))) else (none))) else (some (n, o, a, p, q, r, l))
end
def shutterref12_One.f (k : Nat) (c : Int) (d : Int) (i : List (S44)) (e : Int) (g : Bool) (h : Bool) (a1 : Int) (b : Int) (q : List Int) (l : Bool) (m : Bool) (n : Int) (o : Bool) (j : Int) (p : Int) : Option (Int × Int × (List (S44)) × Int × Bool × Bool × Int) := (shutterref10_Copy.f c d i e g h).bind fun a => (if b = 1 then (shutterref12_One.l0 k a1 0 c d i e g h b q l m n o j p a.1 a.2.1 a.2.2.1 a.2.2.2.1 a.2.2.2.2.1 a.2.2.2.2.2) else (if b = 2 then (if 0 ≤ a1 then (if a1 < (a.2.2.1.length : Int) then ((shutterref10_Next.f c d i e g h a1).bind fun r => (some (a.1, a.2.1, (a.2.2.1.set (a1 : Int).toNat (⟨true, (⟨l, m, n, o⟩ : S28), 0⟩ : S44)), a.2.2.2.1, a.2.2.2.2.1, a.2.2.2.2.2, r))) else (none)) else (none)) else (if b = 3 then (some (a.1, a.2.1, a.2.2.1, a.2.2.2.1, a.2.2.2.2.1, a.2.2.2.2.2, j)) else (if b = 4 then (some (a.1, a.2.1, a.2.2.1, a1, a.2.2.2.2.1, a.2.2.2.2.2, a1)) else (if b = 5 then (shutterref12_One.l1 k a1 c d i e g h a.1 a.2.1 a.2.2.1 a.2.2.2.1 a.2.2.2.2.1 a.2.2.2.2.2) else ((shutterref10_Span.f k c d i e g h a1 j).bind fun s => (shutterref12_One.l2 k s 0 c d i e g h b q l m n o j p a.1 a.2.1 a.2.2.1 a.2.2.2.1 a.2.2.2.2.1 a.2.2.2.2.2)))))))
theorem shutterref12_One.mono_l : ∀ k, (∀ d e o s t u v w x y a b c f g i j l m n p q, LeO (shutterref12_One.l0 k d e o s t u v w x y a b c f g i j l m n p q) (shutterref12_One.l0 (k + 1) d e o s t u v w x y a b c f g i j l m n p q)) ∧ (∀ d e o s t u v w x y a b c, LeO (shutterref12_One.l1 k d e o s t u v w x y a b c) (shutterref12_One.l1 (k + 1) d e o s t u v w x y a b c)) ∧ (∀ d e o s t u v w x y a b c f g i j l m n p q, LeO (shutterref12_One.l2 k d e o s t u v w x y a b c f g i j l m n p q) (shutterref12_One.l2 (k + 1) d e o s t u v w x y a b c f g i j l m n p q))
 | 0 => ⟨fun _ _ _ _ _ _ _ _ _ _ _ _ _ _ _ _ _ _ _ _ _ _ r h => by simp [shutterref12_One.l0] at h, fun _ _ _ _ _ _ _ _ _ _ _ _ _ r h => by simp [shutterref12_One.l1] at h, fun _ _ _ _ _ _ _ _ _ _ _ _ _ _ _ _ _ _ _ _ _ _ r h => by simp [shutterref12_One.l2] at h⟩
 | k + 1 => by
  obtain ⟨z, A, B⟩ := shutterref12_One.mono_l k
  refine ⟨?_, ?_, ?_⟩
  ·intro d e o s t u v w x y a b c f g i j l m n p q
   unfold shutterref12_One.l0
   repeat' first
   | (with_reducible exact z _ _ _ _ _ _ _ _ _ _ _ _ _ _ _ _ _ _ _ _ _ _)
   | (with_reducible exact A _ _ _ _ _ _ _ _ _ _ _ _ _)
   | (with_reducible exact B _ _ _ _ _ _ _ _ _ _ _ _ _ _ _ _ _ _ _ _ _ _)
   | (with_reducible exact shutterref10_Span.mono _ _ _ _ _ _ _ _ _)
   | (with_reducible exact shutterref11_Open.mono _ _ _ _ _ _ _ _)
   | (with_reducible exact LeO.refl _)
   | (with_reducible exact LeO.none _)
   | (with_reducible refine LeO.ite ?_ ?_)
   | (with_reducible refine LeO.bind ?_ (fun _ => ?_))
   | exact z _ _ _ _ _ _ _ _ _ _ _ _ _ _ _ _ _ _ _ _ _ _
   | exact A _ _ _ _ _ _ _ _ _ _ _ _ _
   | exact B _ _ _ _ _ _ _ _ _ _ _ _ _ _ _ _ _ _ _ _ _ _
   | exact shutterref10_Span.mono _ _ _ _ _ _ _ _ _
   | exact shutterref11_Open.mono _ _ _ _ _ _ _ _
   | exact LeO.none _
   | refine LeO.ite ?_ ?_
   | refine LeO.bind ?_ (fun _ => ?_)
  ·intro d e o s t u v w x y a b c
   unfold shutterref12_One.l1
   repeat' first
   | (with_reducible exact z _ _ _ _ _ _ _ _ _ _ _ _ _ _ _ _ _ _ _ _ _ _)
   | (with_reducible exact A _ _ _ _ _ _ _ _ _ _ _ _ _)
   | (with_reducible exact B _ _ _ _ _ _ _ _ _ _ _ _ _ _ _ _ _ _ _ _ _ _)
   | (with_reducible exact shutterref10_Span.mono _ _ _ _ _ _ _ _ _)
   | (with_reducible exact shutterref11_Open.mono _ _ _ _ _ _ _ _)
   | (with_reducible exact LeO.refl _)
   | (with_reducible exact LeO.none _)
   | (with_reducible refine LeO.ite ?_ ?_)
   | (with_reducible refine LeO.bind ?_ (fun _ => ?_))
   | exact z _ _ _ _ _ _ _ _ _ _ _ _ _ _ _ _ _ _ _ _ _ _
   | exact A _ _ _ _ _ _ _ _ _ _ _ _ _
   | exact B _ _ _ _ _ _ _ _ _ _ _ _ _ _ _ _ _ _ _ _ _ _
   | exact shutterref10_Span.mono _ _ _ _ _ _ _ _ _
   | exact shutterref11_Open.mono _ _ _ _ _ _ _ _
   | exact LeO.none _
   | refine LeO.ite ?_ ?_
   | refine LeO.bind ?_ (fun _ => ?_)
  ·intro d e o s t u v w x y a b c f g i j l m n p q
   unfold shutterref12_One.l2
   repeat' first
   | (with_reducible exact z _ _ _ _ _ _ _ _ _ _ _ _ _ _ _ _ _ _ _ _ _ _)
   | (with_reducible exact A _ _ _ _ _ _ _ _ _ _ _ _ _)
   | (with_reducible exact B _ _ _ _ _ _ _ _ _ _ _ _ _ _ _ _ _ _ _ _ _ _)
   | (with_reducible exact shutterref10_Span.mono _ _ _ _ _ _ _ _ _)
   | (with_reducible exact shutterref11_Open.mono _ _ _ _ _ _ _ _)
   | (with_reducible exact LeO.refl _)
   | (with_reducible exact LeO.none _)
   | (with_reducible refine LeO.ite ?_ ?_)
   | (with_reducible refine LeO.bind ?_ (fun _ => ?_))
   | exact z _ _ _ _ _ _ _ _ _ _ _ _ _ _ _ _ _ _ _ _ _ _
   | exact A _ _ _ _ _ _ _ _ _ _ _ _ _
   | exact B _ _ _ _ _ _ _ _ _ _ _ _ _ _ _ _ _ _ _ _ _ _
   | exact shutterref10_Span.mono _ _ _ _ _ _ _ _ _
   | exact shutterref11_Open.mono _ _ _ _ _ _ _ _
   | exact LeO.none _
   | refine LeO.ite ?_ ?_
   | refine LeO.bind ?_ (fun _ => ?_)
theorem shutterref12_One.mono : ∀ a0 a1 j l a4 m n o p q a b c d e k, LeO (shutterref12_One.f k a0 a1 j l a4 m n o p q a b c d e) (shutterref12_One.f (k + 1) a0 a1 j l a4 m n o p q a b c d e) := by
 intro a0 a1 j l a4 m n o p q a b c d e k
 obtain ⟨g, h, i⟩ := shutterref12_One.mono_l k
 unfold shutterref12_One.f
 repeat' first
   | (with_reducible exact g _ _ _ _ _ _ _ _ _ _ _ _ _ _ _ _ _ _ _ _ _ _)
   | (with_reducible exact h _ _ _ _ _ _ _ _ _ _ _ _ _)
   | (with_reducible exact i _ _ _ _ _ _ _ _ _ _ _ _ _ _ _ _ _ _ _ _ _ _)
   | (with_reducible exact shutterref10_Span.mono _ _ _ _ _ _ _ _ _)
   | (with_reducible exact shutterref11_Open.mono _ _ _ _ _ _ _ _)
   | (with_reducible exact LeO.refl _)
   | (with_reducible exact LeO.none _)
   | (with_reducible refine LeO.ite ?_ ?_)
   | (with_reducible refine LeO.bind ?_ (fun _ => ?_))
   | exact g _ _ _ _ _ _ _ _ _ _ _ _ _ _ _ _ _ _ _ _ _ _
   | exact h _ _ _ _ _ _ _ _ _ _ _ _ _
   | exact i _ _ _ _ _ _ _ _ _ _ _ _ _ _ _ _ _ _ _ _ _ _
   | exact shutterref10_Span.mono _ _ _ _ _ _ _ _ _
   | exact shutterref11_Open.mono _ _ _ _ _ _ _ _
   | exact LeO.none _
   | refine LeO.ite ?_ ?_
   | refine LeO.bind ?_ (fun _ => ?_)
def shutterref12_One.T6 : Bool × List (List Nat × List Nat) := (true, [([], []), ([0], [0]), ([], []), ([], []), ([3], [3]), ([], []), ([4, 5], [4, 5]), ([6], [6]), ([7], [7]), ([1, 2, 0, 1, 2, 3, 4, 5, 6, 7, 8], [1, 2]), ([9, 8, 0, 1, 2, 3, 4, 5, 6, 7, 8], [8, 9])])
def shutterref12_One.B6 : List Nat := [0, 1, 0, 0, 8, 0, 56, 120, 248, 511, 1023]
theorem shutterref12_One.tab6 : rtab .any (opsOf Tryd.f20 6) = shutterref12_One.T6 := by kernel_rfl
theorem shutterref12_One.bits6 : waitsOk shutterref12_One.T6.2 shutterref12_One.B6 = true := by kernel_rfl
def shutterref12_One.T30 : Bool × List (List Nat × List Nat) := (true, [([], []), ([0], [0]), ([], []), ([], []), ([2, 3], [2, 3]), ([4], [4]), ([], []), ([6], [6]), ([7], [7]), ([1, 5, 0, 1, 2, 3, 4, 5, 6, 7, 8], [1, 5]), ([9, 8, 0, 1, 2, 3, 4, 5, 6, 7, 8], [8, 9])])
def shutterref12_One.B30 : List Nat := [0, 1, 0, 0, 12, 28, 0, 64, 192, 511, 1023]
theorem shutterref12_One.tab30 : rtab .any (opsOf Tryd.f20 30) = shutterref12_One.T30 := by kernel_rfl
theorem shutterref12_One.bits30 : waitsOk shutterref12_One.T30.2 shutterref12_One.B30 = true := by kernel_rfl
def shutterref12_One.T32 : Bool × List (List Nat × List Nat) := (true, [([], []), ([0], [0]), ([], []), ([], []), ([2, 3], [2, 3]), ([4], [4]), ([1, 5, 0, 1, 2, 3, 4, 5], [1, 5]), ([6, 0, 1, 2, 3, 4, 5], [6]), ([7, 0, 1, 2, 3, 4, 5], [7])])
def shutterref12_One.B32 : List Nat := [0, 1, 0, 0, 12, 28, 63, 127, 255]
theorem shutterref12_One.tab32 : rtab .any (opsOf Tryd.f20 32) = shutterref12_One.T32 := by kernel_rfl
theorem shutterref12_One.bits32 : waitsOk shutterref12_One.T32.2 shutterref12_One.B32 = true := by kernel_rfl
set_option maxHeartbeats 8000000 in
set_option maxRecDepth 100000 in
theorem shutterref12_One.calls (k : Nat) (T : Int) (U : Int) (aF : Option Addr) (aA : Nat) (E : List (S44)) (V : Int) (W : Bool) (X : Bool) (a1 : Int) (ab : Int) (aR : Option Addr) (aP : Nat) (ai : List Int) (ap : Bool) (aq : Bool) (ar : Int) (au : Bool) (av : Int) (ak : Int) (r1 : Int) (r2 : Int) (r3 : List (S44)) (r4 : Int) (r5 : Bool) (r6 : Bool) (r7 : Int) (w : World) (ni : Kd.C k44 w aF E.length E) (nc : E.length ≤ aA) (nj : Kd.C (Kd.int .u8) w aR ai.length ai) (nd : ai.length ≤ aP) (h : shutterref12_One.f k T U E V W X a1 ab ai ap aq ar au av ak = some (r1, r2, r3, r4, r5, r6, r7)) :
  Calls Tryd.prog 20 #[.agg #[.int .i64 T, .int .i64 U, .slice aF E.length aA, .int .i64 V, .bool W, .bool X], .int .i64 a1, .agg #[.int .i64 ab, .slice aR ai.length aP, .bool ap, .bool aq, .int .i64 ar, .bool au, .int .i64 av, .int .u8 ak]] w fun e w' => ∃ pv : Value, e = .returned (.tuple #[.agg #[.int .i64 r1, .int .i64 r2, pv, .int .i64 r4, .bool r5, .bool r6], .int .i64 r7]) ∧ Kd.R k44 44 w' w.heap.size (fun _ => True) pv r3 ∧ Below w.heap.size w w' := by
 have yy := Tryd.underlying24
 have yA := Tryd.underlying30
 have yB := Tryd.underlying44
 have yz := Tryd.underlying28
 have aQ := Z ni
 have a7 := Z nc
 clear ni nc
 have o6 := Z nj
 have wo := Z nd
 clear nj nd
 have HB := Z (Below.refl w.heap.size w)
 have H : ((shutterref10_Copy.f T U E V W X).bind fun az => (if ab = 1 then (shutterref12_One.l0 k a1 0 T U E V W X ab ai ap aq ar au av ak az.1 az.2.1 az.2.2.1 az.2.2.2.1 az.2.2.2.2.1 az.2.2.2.2.2) else (if ab = 2 then (if 0 ≤ a1 then (if a1 < (az.2.2.1.length : Int) then ((shutterref10_Next.f T U E V W X a1).bind fun cg => (some (az.1, az.2.1, (az.2.2.1.set (a1 : Int).toNat (⟨true, (⟨ap, aq, ar, au⟩ : S28), 0⟩ : S44)), az.2.2.2.1, az.2.2.2.2.1, az.2.2.2.2.2, cg))) else (none)) else (none)) else (if ab = 3 then (some (az.1, az.2.1, az.2.2.1, az.2.2.2.1, az.2.2.2.2.1, az.2.2.2.2.2, av)) else (if ab = 4 then (some (az.1, az.2.1, az.2.2.1, a1, az.2.2.2.2.1, az.2.2.2.2.2, a1)) else (if ab = 5 then (shutterref12_One.l1 k a1 T U E V W X az.1 az.2.1 az.2.2.1 az.2.2.2.1 az.2.2.2.2.1 az.2.2.2.2.2) else ((shutterref10_Span.f k T U E V W X a1 av).bind fun x => (shutterref12_One.l2 k x 0 T U E V W X ab ai ap aq ar au av ak az.1 az.2.1 az.2.2.1 az.2.2.2.1 az.2.2.2.2.1 az.2.2.2.2.2)))))))) = some (r1, r2, r3, r4, r5, r6, r7) := h
 clear h
 replace H := Option.bind_eq_some_iff.mp H
 obtain ⟨⟨I, J, F, O, L, M⟩, pq, H⟩ := H
 replace H : (if ab = 1 then (shutterref12_One.l0 k a1 0 T U E V W X ab ai ap aq ar au av ak I J F O L M) else (if ab = 2 then (if 0 ≤ a1 then (if a1 < (F.length : Int) then ((shutterref10_Next.f T U E V W X a1).bind fun cg => (some (I, J, (F.set (a1 : Int).toNat (⟨true, (⟨ap, aq, ar, au⟩ : S28), 0⟩ : S44)), O, L, M, cg))) else (none)) else (none)) else (if ab = 3 then (some (I, J, F, O, L, M, av)) else (if ab = 4 then (some (I, J, F, a1, L, M, a1)) else (if ab = 5 then (shutterref12_One.l1 k a1 T U E V W X I J F O L M) else ((shutterref10_Span.f k T U E V W X a1 av).bind fun x => (shutterref12_One.l2 k x 0 T U E V W X ab ai ap aq ar au av ak I J F O L M))))))) = some (r1, r2, r3, r4, r5, r6, r7) := H
 have A4 := Z pq
 clear pq
 by_cases c5 : ab = 1
 ·rw [if_pos c5] at H
  have iL : (ab == 1) = true := beq_iff_eq.mpr c5
  have iM : (ab != 1) = false := bne_eq_false_iff_eq.mpr c5
  clear c5
  have H' := Z H
  clear H
  go_enter Tryd.func20, Tryd.ntmps20
  go_wp2_with (first | ((with_reducible refine gate_dst (N := 3) rfl ?_); refine bx_ 3 24 #[.int .i64 T, .int .i64 U, .slice aF E.length aA, .int .i64 V, .bool W, .bool X] ?_; intro ah hg w6 hbox hb; have b := Z (hbox); have cp := Z (ln_ hg : w.heap.size ≤ ah); have bQ := Z (ln_ hg : w.heap.size ≤ ah); replace HB := Z (below_step bl_ hb); clear hb hbox hg) | ((with_reducible refine gate_dst (N := 5) rfl ?_); refine bx_ 5 30 #[.int .i64 ab, .slice aR ai.length aP, .bool ap, .bool aq, .int .i64 ar, .bool au, .int .i64 av, .int .u8 ak] ?_; intro ac hg w7 hbox hb; have d := Z (hbox); have cq := Z (ln_ hg : w.heap.size ≤ ac); have bR := Z (ln_ hg : w.heap.size ≤ ac); replace HB := Z (below_step bl_ hb); have ax := Z (nl b.out hg); have ay := Z (ng b.out hg); replace b := Z (kb b.out hb); clear hb hbox hg) | ((with_reducible refine gate_dst (N := 6) rfl ?_); refine bx_ 6 24 #[.int .i64 0, .int .i64 0, .slice none 0 0, .int .i64 0, .bool false, .bool false] ?_; intro a hg w8 hbox hb; have m := Z (hbox); have cr := Z (ln_ hg : w.heap.size ≤ a); have bS := Z (ln_ hg : w.heap.size ≤ a); replace HB := Z (below_step bl_ hb); have u := Z (nl b.out hg); have ad := Z (ng b.out hg); replace b := Z (kb b.out hb); have l := Z (nl d.out hg); have ae := Z (ng d.out hg); replace d := Z (kb d.out hb); clear hb hbox hg; have yq := ax.out; have yr := ay.out; have wH := u.out; have xd := ad.out; obtain ⟨nn, no, np, nq, nr, ns, nT, nU, nV, nW, nX, nY⟩ := cells6 b.out) | ((with_reducible refine gate_callee (f := 25) rfl ?_); refine goesL_ (some 15) rfl rfl Tryd.func25 (by kernel_rfl) rfl #[.agg #[.int .i64 T, .int .i64 U, .slice aF E.length aA, .int .i64 V, .bool W, .bool X]] rfl ag_ ?_; (with_reducible refine (shutterref10_Copy.calls T U _ _ E V W X I J F O L M _ ?side1 ?side2 A4.out).mono ?_); (case side1 => repeat (first | exact (Kd.C_below aQ.out HB.out) | (with_reducible apply pC))); (case side2 => exact a7.out); rintro e zf ⟨ff, rfl, bn, hb⟩; refine ⟨_, rfl, ?_⟩; have Q := Z (Kd.R_lower bn (below_size bl_)); replace b := Z (kb b.out hb); replace d := Z (kb d.out hb); replace m := Z (kb m.out hb); replace HB := Z (below_step bl_ hb); (try clear hb); (try clear bU); (try clear hk); (try clear hi); (try clear bn)) | ((with_reducible refine gate_dst (N := 8) rfl ?_); refine bx_ 8 24 #[.int .i64 0, .int .i64 0, .slice none 0 0, .int .i64 0, .bool false, .bool false] ?_; intro D hg wi hbox hb; replace Q := Z (rb Q.out hb); have q := Z (hbox); have ct := Z (ln_ hg : w.heap.size ≤ D); have bT := Z (ln_ hg : w.heap.size ≤ D); replace HB := Z (below_step bl_ hb); have am := Z (nl b.out hg); have aG := Z (ng b.out hg); replace b := Z (kb b.out hb); have an := Z (nl d.out hg); have aH := Z (ng d.out hg); replace d := Z (kb d.out hb); have Y := Z (nl m.out hg); have c := Z (ng m.out hg); replace m := Z (kb m.out hb); clear hb hbox hg; have wI := aG.out; have xe := am.out; have wJ := aH.out; have xf := an.out; have wK := c.out; have xg := Y.out; obtain ⟨nt, nu, nv, nw, nx, ny, nZ, n0, n1, n2, n3, n4⟩ := cells6 q.out; obtain ⟨h7, iq, pP⟩ := Kd.R_slice Q.out; subst pP) | ((with_reducible refine gate_store (t := 24) (p := 8) rfl ?_); refine sx_ 24 8 ((((((wi.setCell ⟨D, 0, none⟩ (.int .i64 I)).setCell ⟨D, 1, none⟩ (.int .i64 J)).setCell ⟨D, 2, none⟩ (.slice h7 F.length iq)).setCell ⟨D, 3, none⟩ (.int .i64 O)).setCell ⟨D, 4, none⟩ (.bool L)).setCell ⟨D, 5, none⟩ (.bool M)) ?_; intro h4 hw; replace Q : Aside0 (Kd.R k44 44 h4 w.heap.size (fun _ => True) (.slice h7 F.length iq) F) := ⟨(by rw [hw]; exact (by (with_reducible repeat apply pR); exact R_off Q.out q.out (by decide) off2_))⟩; replace b := Z (sM hw (blk_off b.out am.out off2_)); replace d := Z (sM hw (blk_off d.out an.out off2_)); replace m := Z (sM hw (blk_off m.out Y.out off2_)); replace q : Aside0 (h4.heap[D]? = some (.cells #[.int .i64 I, .int .i64 J, .slice h7 F.length iq, .int .i64 O, .bool L, .bool M] 24 (0, 0))) := ⟨by rw [hw]; exact (put6 q.out)⟩; replace HB : Aside0 (Below w.heap.size w h4) := ⟨by rw [hw]; exact bl_⟩; clear hw; have wL := l.out; have xh := ae.out; obtain ⟨nz, nA, nB, nC, nD, nE, nF, nG, n5, n6, n7, n8, n9, oa, ob, oc⟩ := cells8 d.out))
  go_loopg [1, 9] k (fun kq v1 v9 w' => ∃ (af : Int) (aU : Int) (r : List (S44)) (u265002 : Value), v1 = .int .i64 af ∧ v9 = .int .i64 aU ∧ Aside0 (shutterref12_One.l0 kq af aU T U E V W X ab ai ap aq ar au av ak I J r O L M = some (r1, r2, r3, r4, r5, r6, r7)) ∧ Aside0 (kq ≤ k) ∧ Aside0 (Kd.R k44 44 w' w.heap.size (fun _ => True) u265002 r) ∧ Aside0 (w'.heap[ah]? = some (.cells #[.int .i64 T, .int .i64 U, (.slice aF E.length aA), .int .i64 V, .bool W, .bool X] 24 (0, 0))) ∧ Aside0 (w'.heap[ac]? = some (.cells #[.int .i64 ab, (.slice aR ai.length aP), .bool ap, .bool aq, .int .i64 ar, .bool au, .int .i64 av, .int .u8 ak] 30 (0, 0))) ∧ Aside0 (w'.heap[a]? = some (.cells #[.int .i64 0, .int .i64 0, (.slice none 0 0), .int .i64 0, .bool false, .bool false] 24 (0, 0))) ∧ Aside0 (w'.heap[D]? = some (.cells #[.int .i64 I, .int .i64 J, u265002, .int .i64 O, .bool L, .bool M] 24 (0, 0))) ∧ Aside0 (Below w.heap.size w w'))
  case atStart => exact ⟨(a1), (0), (F), (.slice h7 F.length iq), (dn_), (dn_), H', ⟨Nat.le_refl _⟩, ⟨by (with_reducible repeat apply pR); exact Q.out⟩, ⟨vK b.out⟩, ⟨vK d.out⟩, ⟨vK m.out⟩, ⟨vK q.out⟩, ⟨bl_⟩⟩
  case round =>
   clear H'
   try clear c1
   try clear c2
   try clear p2
   try clear c5
   try clear iL
   try clear iM
   try clear c9
   try clear c10
   try clear pr
   try clear ty
   try clear tz
   try clear ps
   try clear nn
   try clear no
   try clear np
   try clear nq
   try clear nr
   try clear ns
   try clear nt
   try clear nu
   try clear nv
   try clear nw
   try clear nx
   try clear ny
   try clear nz
   try clear nA
   try clear nB
   try clear nC
   try clear nD
   try clear nE
   try clear nF
   try clear nG
   try clear nT
   try clear nU
   try clear nV
   try clear nW
   try clear nX
   try clear nY
   try clear nZ
   try clear n0
   try clear n1
   try clear n2
   try clear n3
   try clear n4
   try clear n5
   try clear n6
   try clear n7
   try clear n8
   try clear n9
   try clear oa
   try clear ob
   try clear oc
   obtain ⟨af, aU, r, u265002, rfl, rfl, HA, bJ, HO_265002, b, d, m, q, HB⟩ := hrel
   cases gk with
   | zero => exact absurd HA.out (by simp [shutterref12_One.l0])
   | succ k1 =>
    have H := HA.out
    clear HA
    simp only [shutterref12_One.l0] at H
    by_cases cM : aU < (ai.length : Int)
    ·rw [if_pos cM] at H
     have ih : decide (aU < (ai.length : Int)) = true := decide_eq_true cM
     clear cM
     by_cases fi : 0 ≤ aU
     ·rw [if_pos fi] at H
      have wp : decide (0 ≤ aU) = true := decide_eq_true fi
      clear fi
      by_cases c24 : 0 ≤ af
      ·rw [if_pos c24] at H
       have wq : decide (0 ≤ af) = true := decide_eq_true c24
       clear c24
       by_cases fj : af < (r.length : Int)
       ·rw [if_pos fj] at H
        have ws : decide (af < (r.length : Int)) = true := decide_eq_true fj
        clear fj
        obtain ⟨it, cy⟩ : ∃ y_ : List (S44), y_ = (r.set (af : Int).toNat (⟨false, (⟨false, false, 0, false⟩ : S28), rd ai aU⟩ : S44)) := ⟨_, rfl⟩
        replace H : ((shutterref10_Next.f T U E V W X af).bind fun fe => (shutterref12_One.l0 k1 fe (wrap64 (aU + 1)) T U E V W X ab ai ap aq ar au av ak I J it O L M)) = some (r1, r2, r3, r4, r5, r6, r7) := by first | (rw [cy]; with_reducible exact H) | (have bL := (Option.bind_some _ _).symm.trans H; rw [cy]; with_reducible exact bL) | (have bL := (Option.bind_some _ _).symm.trans H; with_reducible exact bL) | with_reducible exact H | (rw [cy]; exact H) | exact H
        have o7 := Z cy
        clear cy
        replace H := Option.bind_eq_some_iff.mp H
        obtain ⟨fe, oq, H⟩ := H
        replace H : (shutterref12_One.l0 k1 fe (wrap64 (aU + 1)) T U E V W X ab ai ap aq ar au av ak I J it O L M) = some (r1, r2, r3, r4, r5, r6, r7) := H
        have tt := Z oq
        clear oq
        have H' := Z H
        clear H
        have wM := ay.out
        have xi := ax.out
        have wN := l.out
        have xj := ae.out
        have wO := an.out
        have xk := aH.out
        obtain ⟨sn, so, sp, sq, sr, ss, st, su, sv, sw, sx, sy, sD, sE, sF, sG⟩ := cells8 d.out
        try go_wp2
        have y := Z (Kd.R_drew HO_265002.out)
        have z := Z (blk_drew b.out)
        have A := Z (blk_drew d.out)
        have B := Z (blk_drew m.out)
        have G := Z (blk_drew q.out)
        have P := Z (below_drew1 HB.out)
        clear HO_265002
        clear b
        clear d
        clear m
        clear q
        clear HB
        have HO_265002 := y
        have b := z
        have d := A
        have m := B
        have q := G
        have HB := P
        clear y z A B G P
        have mE : 0 ≤ (aU : Int) := od_
        have mJ : aU < (ai.length : Int) := od_
        obtain ⟨ia, pM, br⟩ := Kd.at_int o6.out aU mE mJ
        have h1 := br
        cases pM
        replace br := (HB.out.cell (bk_ w _ br)).trans br
        replace mE := eq_true mE
        replace mJ := eq_true mJ
        have p26 : 0 ≤ (af : Int) := od_
        have e9 : (af : Int) < ((r.length : Int) : Int) := od_
        obtain ⟨al, ir, oD, oF, pU, yn, ot⟩ := Kd.R_form HO_265002.out (by omega)
        (first | cases oD | (injection oD with ea_ en_ ec_; (first | subst ea_ | (injection ea_ with ea_; subst ea_)); subst ec_; clear en_))
        have cE := Z oF
        have px := Z ot
        clear oF pU ot
        obtain ⟨yj, pn, oH, b0, b2⟩ := Kd.R_elem HO_265002.out z44 (af : Int) p26 e9
        obtain rfl := k44_openM oH
        have eX : World.cell? _ ⟨al, (af : Int).toNat * 6, none⟩ = some (.bool ((rd_T44 r af).f0)) := b0 0 _ rfl
        have eY : World.cell? _ ⟨al, (af : Int).toNat * 6 + 1, none⟩ = some (.bool ((rd_T44 r af).f1.f0)) := b0 1 _ rfl
        have eZ : World.cell? _ ⟨al, (af : Int).toNat * 6 + 2, none⟩ = some (.bool ((rd_T44 r af).f1.f1)) := b0 2 _ rfl
        have e0 : World.cell? _ ⟨al, (af : Int).toNat * 6 + 3, none⟩ = some (.int .i64 ((rd_T44 r af).f1.f2)) := b0 3 _ rfl
        have e1 : World.cell? _ ⟨al, (af : Int).toNat * 6 + 4, none⟩ = some (.bool ((rd_T44 r af).f1.f3)) := b0 4 _ rfl
        have e2 : World.cell? _ ⟨al, (af : Int).toNat * 6 + 5, none⟩ = some (.int .u8 ((rd_T44 r af).f2)) := b0 5 _ rfl
        have oN : World.frozen? _ ⟨al, (af : Int).toNat * 6, none⟩ = false := b2 0
        have oO : World.frozen? _ ⟨al, (af : Int).toNat * 6 + 1, none⟩ = false := b2 1
        have oP : World.frozen? _ ⟨al, (af : Int).toNat * 6 + 2, none⟩ = false := b2 2
        have oQ : World.frozen? _ ⟨al, (af : Int).toNat * 6 + 3, none⟩ = false := b2 3
        have oR : World.frozen? _ ⟨al, (af : Int).toNat * 6 + 4, none⟩ = false := b2 4
        have oS : World.frozen? _ ⟨al, (af : Int).toNat * 6 + 5, none⟩ = false := b2 5
        clear pn b0 b2 oH
        replace p26 := eq_true p26
        replace e9 := eq_true e9
        obtain ⟨yk, nf, oI, ne, pp⟩ := Kd.R_elem HO_265002.out z44 (af : Int) (od_) (by have h_ : (af : Int) < ((r.length : Int) : Int) := od_; first | exact h_ | (have e_ := (Kd.R_reads' HO_265002.out).1; omega) | simpa using h_)
        obtain rfl := k44_openM oI
        have iI := (Kd.R_seg HO_265002.out (af : Int) (od_) (by have h_ : (af : Int) < ((r.length : Int) : Int) := od_; first | exact h_ | (have e_ := (Kd.R_reads' HO_265002.out).1; omega) | simpa using h_) (seg := [.bool false, .bool false, .bool false, .int .i64 0, .bool false, .int .u8 (rd ai aU)]) (j := 0) nf ne (show 6 ≤ 6 from by decide) (x' := (⟨false, (⟨false, false, 0, false⟩ : S28), rd ai aU⟩ : S44)) (k44_mkM _ _ _ (⟨false, (⟨false, false, 0, false⟩ : S28), rd ai aU⟩ : S44) ) (fun _ hk => hk)).1
        rw [← o7.out] at iI
        have ov := Z iI
        clear nf ne pp oI iI
        refine start_ (n := 11) (S := fun w' => w'.cell? ⟨D, 0, none⟩ = some (.int .i64 I) ∧ w'.cell? ⟨D, 1, none⟩ = some (.int .i64 J) ∧ w'.cell? ⟨D, 2, none⟩ = some (.slice (some ⟨al, 0, none⟩) r.length ir) ∧ w'.cell? ⟨D, 3, none⟩ = some (.int .i64 O) ∧ w'.cell? ⟨D, 4, none⟩ = some (.bool L) ∧ w'.cell? ⟨D, 5, none⟩ = some (.bool M) ∧ w'.cell? ⟨ac, 0, none⟩ = some (.int .i64 ab) ∧ w'.cell? ⟨ac, 1, none⟩ = some (.slice (some ia) ai.length aP) ∧ w'.cell? ⟨ac, 2, none⟩ = some (.bool ap) ∧ w'.cell? ⟨ac, 3, none⟩ = some (.bool aq) ∧ w'.cell? ⟨ac, 4, none⟩ = some (.int .i64 ar) ∧ w'.cell? ⟨ac, 5, none⟩ = some (.bool au) ∧ w'.cell? ⟨ac, 6, none⟩ = some (.int .i64 av) ∧ w'.cell? ⟨ac, 7, none⟩ = some (.int .u8 ak) ∧ w'.cell? (ia.add (aU).toNat) = some (.int .u8 (rd ai aU))) (ds := [10]) (bv 11 0) (by kernel_rfl) rfl rfl ⟨(blk_cell q.out 0).trans rfl, (blk_cell q.out 1).trans rfl, (blk_cell q.out 2).trans rfl, (blk_cell q.out 3).trans rfl, (blk_cell q.out 4).trans rfl, (blk_cell q.out 5).trans rfl, (blk_cell d.out 0).trans rfl, (blk_cell d.out 1).trans rfl, (blk_cell d.out 2).trans rfl, (blk_cell d.out 3).trans rfl, (blk_cell d.out 4).trans rfl, (blk_cell d.out 5).trans rfl, (blk_cell d.out 6).trans rfl, (blk_cell d.out 7).trans rfl, ((HB.out.cell (bk_ w _ h1)).trans h1)⟩ (fun hHeld => ?_); refine with_tabW shutterref12_One.tab6 shutterref12_One.bits6 (fun HT_ HW_ => ?_)
        generalize wr.drew = fg at HO_265002 b d m q HB px ov oN oO oP oQ oR oS br eX eY eZ e0 e1 e2 hHeld ⊢
        refine pure_ (i := 0) (N := some 26) (v := ?_) (a' := ?_) (bv 11 1) rfl rfl (any_of HT_.out (by kernel_rfl)) (fun _ _ _ h => h) (Or.inl ⟨by rfl, ?_⟩) ?_ ?_
        rotate_left
        ·intro w'
         go_simp
         with_reducible rfl
        rotate_left
        ·simp only [Act.put, sA, sB, sC, i64_w, i32_w]
         rfl
        refine pure_ (i := 2) (N := some 28) (v := ?_) (a' := ?_) (bv 11 5) rfl rfl (any_of HT_.out (by kernel_rfl)) (fun _ _ _ h => h) (Or.inl ⟨by rfl, ?_⟩) ?_ ?_
        rotate_left
        ·intro w'
         go_simp
         with_reducible rfl
        rotate_left
        ·simp only [Act.put, sA, sB, sC, i64_w, i32_w]
         rfl
        refine pure_ (i := 3) (N := some 29) (v := ?_) (a' := ?_) (bv 11 13) rfl rfl (any_of HT_.out (by kernel_rfl)) (fun _ _ _ h => h) (Or.inl ⟨by rfl, ?_⟩) ?_ ?_
        rotate_left
        ·intro w'
         go_simp
         with_reducible rfl
        rotate_left
        ·simp only [Act.put, sA, sB, sC, i64_w, i32_w]
         rfl
        refine pure_ (i := 5) (N := some 31) (v := ?_) (a' := ?_) (bv 11 45) rfl rfl (any_of HT_.out (by kernel_rfl)) (fun _ _ _ h => h) (Or.inl ⟨by rfl, ?_⟩) ?_ ?_
        rotate_left
        ·intro w'
         go_simp
         with_reducible rfl
        rotate_left
        ·simp only [Act.put, sA, sB, sC, i64_w, i32_w]
         rfl
        refine take_ (i := 1) (N := some 27) (v := ?_) (a' := ?_) (bv 11 47) rfl rfl (take_ofW HT_.out HW_.out (by kernel_rfl)) (fun _ _ _ h => h) (Or.inl ⟨by rfl, ?_⟩) hHeld ?_ ?_
        rotate_left
        ·rintro w' ⟨s0, s1, s2, s3, s4, s5, s6, s7, s8, s9, b9, ca, cC, cD, iG⟩
         go_simp
         with_reducible rfl
        rotate_left
        ·simp only [Act.put, sA, sB, sC, i64_w, i32_w]
         rfl
        refine take_ (i := 4) (N := some 30) (v := ?_) (a' := ?_) (bv 11 63) rfl rfl (take_ofW HT_.out HW_.out (by kernel_rfl)) (fun _ _ _ h => h) (Or.inl ⟨by rfl, ?_⟩) hHeld ?_ ?_
        rotate_left
        ·rintro w' ⟨s0, s1, s2, s3, s4, s5, s6, s7, s8, s9, b9, ca, cC, cD, iG⟩
         go_simp
         with_reducible rfl
        rotate_left
        ·simp only [Act.put, sA, sB, sC, i64_w, i32_w]
         rfl
        refine pure_ (i := 6) (N := some 32) (v := ?_) (a' := ?_) (bv 11 127) rfl rfl (any_of HT_.out (by kernel_rfl)) (fun _ _ _ h => h) (Or.inl ⟨by rfl, ?_⟩) ?_ ?_
        rotate_left
        ·intro w'
         go_simp
         with_reducible rfl
        rotate_left
        ·simp only [Act.put, sA, sB, sC, i64_w, i32_w]
         rfl
        refine take_ (i := 7) (N := some 33) (v := ?_) (a' := ?_) (bv 11 255) rfl rfl (take_ofW HT_.out HW_.out (by kernel_rfl)) (fun _ _ _ h => h) (Or.inl ⟨by rfl, ?_⟩) hHeld ?_ ?_
        rotate_left
        ·rintro w' ⟨s0, s1, s2, s3, s4, s5, s6, s7, s8, s9, b9, ca, cC, cD, iG⟩
         go_simp
         with_reducible rfl
        rotate_left
        ·simp only [Act.put, sA, sB, sC, i64_w, i32_w]
         rfl
        refine pure_ (i := 8) (N := some 34) (v := ?_) (a' := ?_) (bv 11 511) rfl rfl (any_of HT_.out (by kernel_rfl)) (fun _ _ _ h => h) (Or.inl ⟨by rfl, ?_⟩) ?_ ?_
        rotate_left
        ·intro w'
         go_simp
         with_reducible rfl
        rotate_left
        ·simp only [Act.put, sA, sB, sC, i64_w, i32_w]
         rfl
        refine pure_ (i := 9) (N := some 35) (v := ?_) (a' := ?_) (bv 11 1023) rfl rfl (any_of HT_.out (by kernel_rfl)) (fun _ _ _ h => h) (Or.inl ⟨by rfl, ?_⟩) ?_ ?_
        rotate_left
        ·intro w'
         go_simp
         with_reducible rfl
        rotate_left
        ·simp only [Act.put, sA, sB, sC, i64_w, i32_w]
         rfl
        refine last_ (i := 10) (N := none) (bv 11 2047) rfl rfl (one_of HT_.out (by kernel_rfl)) (by decide) (fun K hK => ?_)
        refine skip_ (w1 := ?_) (by rfl) rfl ?_ ?_
        rotate_left
        ·go_simp
         rfl
        refine hK.out _ _ ?_
        clear hK K
        refine done_ (done_of HT_.out (by kernel_rfl)) ?_
        have y : Aside0 (Kd.R k44 44 ((((((fg.setCell ⟨al, (af : Int).toNat * 6, none⟩ (.bool false)).setCell ⟨al, (af : Int).toNat * 6 + 1, none⟩ (.bool false)).setCell ⟨al, (af : Int).toNat * 6 + 2, none⟩ (.bool false)).setCell ⟨al, (af : Int).toNat * 6 + 3, none⟩ (.int .i64 0)).setCell ⟨al, (af : Int).toNat * 6 + 4, none⟩ (.bool false)).setCell ⟨al, (af : Int).toNat * 6 + 5, none⟩ (.int .u8 (rd ai aU))) w.heap.size (fun _ => True) (.slice (some ⟨al, 0, none⟩) r.length ir) it) := ⟨by (with_reducible repeat apply pR); exact ov.out⟩
        have z : Aside0 (((((((fg.setCell ⟨al, (af : Int).toNat * 6, none⟩ (.bool false)).setCell ⟨al, (af : Int).toNat * 6 + 1, none⟩ (.bool false)).setCell ⟨al, (af : Int).toNat * 6 + 2, none⟩ (.bool false)).setCell ⟨al, (af : Int).toNat * 6 + 3, none⟩ (.int .i64 0)).setCell ⟨al, (af : Int).toNat * 6 + 4, none⟩ (.bool false)).setCell ⟨al, (af : Int).toNat * 6 + 5, none⟩ (.int .u8 (rd ai aU))).heap[ah]? = some (.cells #[.int .i64 T, .int .i64 U, .slice aF E.length aA, .int .i64 V, .bool W, .bool X] 24 (0, 0))) := ⟨by (with_reducible repeat apply pK); refine blk_far ?_ (by have h_ := Kd.R_ne HO_265002.out b.out (by decide); intro e_; exact h_ (by rw [e_]; rfl)) _; (with_reducible repeat apply pK); refine blk_far ?_ (by have h_ := Kd.R_ne HO_265002.out b.out (by decide); intro e_; exact h_ (by rw [e_]; rfl)) _; (with_reducible repeat apply pK); refine blk_far ?_ (by have h_ := Kd.R_ne HO_265002.out b.out (by decide); intro e_; exact h_ (by rw [e_]; rfl)) _; (with_reducible repeat apply pK); refine blk_far ?_ (by have h_ := Kd.R_ne HO_265002.out b.out (by decide); intro e_; exact h_ (by rw [e_]; rfl)) _; (with_reducible repeat apply pK); refine blk_far ?_ (by have h_ := Kd.R_ne HO_265002.out b.out (by decide); intro e_; exact h_ (by rw [e_]; rfl)) _; (with_reducible repeat apply pK); refine blk_far ?_ (by have h_ := Kd.R_ne HO_265002.out b.out (by decide); intro e_; exact h_ (by rw [e_]; rfl)) _; (with_reducible repeat apply pK); exact b.out⟩
        have A : Aside0 (((((((fg.setCell ⟨al, (af : Int).toNat * 6, none⟩ (.bool false)).setCell ⟨al, (af : Int).toNat * 6 + 1, none⟩ (.bool false)).setCell ⟨al, (af : Int).toNat * 6 + 2, none⟩ (.bool false)).setCell ⟨al, (af : Int).toNat * 6 + 3, none⟩ (.int .i64 0)).setCell ⟨al, (af : Int).toNat * 6 + 4, none⟩ (.bool false)).setCell ⟨al, (af : Int).toNat * 6 + 5, none⟩ (.int .u8 (rd ai aU))).heap[ac]? = some (.cells #[.int .i64 ab, .slice (some ia) ai.length aP, .bool ap, .bool aq, .int .i64 ar, .bool au, .int .i64 av, .int .u8 ak] 30 (0, 0))) := ⟨by (with_reducible repeat apply pK); refine blk_far ?_ (by have h_ := Kd.R_ne HO_265002.out d.out (by decide); intro e_; exact h_ (by rw [e_]; rfl)) _; (with_reducible repeat apply pK); refine blk_far ?_ (by have h_ := Kd.R_ne HO_265002.out d.out (by decide); intro e_; exact h_ (by rw [e_]; rfl)) _; (with_reducible repeat apply pK); refine blk_far ?_ (by have h_ := Kd.R_ne HO_265002.out d.out (by decide); intro e_; exact h_ (by rw [e_]; rfl)) _; (with_reducible repeat apply pK); refine blk_far ?_ (by have h_ := Kd.R_ne HO_265002.out d.out (by decide); intro e_; exact h_ (by rw [e_]; rfl)) _; (with_reducible repeat apply pK); refine blk_far ?_ (by have h_ := Kd.R_ne HO_265002.out d.out (by decide); intro e_; exact h_ (by rw [e_]; rfl)) _; (with_reducible repeat apply pK); refine blk_far ?_ (by have h_ := Kd.R_ne HO_265002.out d.out (by decide); intro e_; exact h_ (by rw [e_]; rfl)) _; (with_reducible repeat apply pK); exact d.out⟩
        have B : Aside0 (((((((fg.setCell ⟨al, (af : Int).toNat * 6, none⟩ (.bool false)).setCell ⟨al, (af : Int).toNat * 6 + 1, none⟩ (.bool false)).setCell ⟨al, (af : Int).toNat * 6 + 2, none⟩ (.bool false)).setCell ⟨al, (af : Int).toNat * 6 + 3, none⟩ (.int .i64 0)).setCell ⟨al, (af : Int).toNat * 6 + 4, none⟩ (.bool false)).setCell ⟨al, (af : Int).toNat * 6 + 5, none⟩ (.int .u8 (rd ai aU))).heap[a]? = some (.cells #[.int .i64 0, .int .i64 0, .slice none 0 0, .int .i64 0, .bool false, .bool false] 24 (0, 0))) := ⟨by (with_reducible repeat apply pK); refine blk_far ?_ (by have h_ := Kd.R_ne HO_265002.out m.out (by decide); intro e_; exact h_ (by rw [e_]; rfl)) _; (with_reducible repeat apply pK); refine blk_far ?_ (by have h_ := Kd.R_ne HO_265002.out m.out (by decide); intro e_; exact h_ (by rw [e_]; rfl)) _; (with_reducible repeat apply pK); refine blk_far ?_ (by have h_ := Kd.R_ne HO_265002.out m.out (by decide); intro e_; exact h_ (by rw [e_]; rfl)) _; (with_reducible repeat apply pK); refine blk_far ?_ (by have h_ := Kd.R_ne HO_265002.out m.out (by decide); intro e_; exact h_ (by rw [e_]; rfl)) _; (with_reducible repeat apply pK); refine blk_far ?_ (by have h_ := Kd.R_ne HO_265002.out m.out (by decide); intro e_; exact h_ (by rw [e_]; rfl)) _; (with_reducible repeat apply pK); refine blk_far ?_ (by have h_ := Kd.R_ne HO_265002.out m.out (by decide); intro e_; exact h_ (by rw [e_]; rfl)) _; (with_reducible repeat apply pK); exact m.out⟩
        have G : Aside0 (((((((fg.setCell ⟨al, (af : Int).toNat * 6, none⟩ (.bool false)).setCell ⟨al, (af : Int).toNat * 6 + 1, none⟩ (.bool false)).setCell ⟨al, (af : Int).toNat * 6 + 2, none⟩ (.bool false)).setCell ⟨al, (af : Int).toNat * 6 + 3, none⟩ (.int .i64 0)).setCell ⟨al, (af : Int).toNat * 6 + 4, none⟩ (.bool false)).setCell ⟨al, (af : Int).toNat * 6 + 5, none⟩ (.int .u8 (rd ai aU))).heap[D]? = some (.cells #[.int .i64 I, .int .i64 J, .slice (some ⟨al, 0, none⟩) r.length ir, .int .i64 O, .bool L, .bool M] 24 (0, 0))) := ⟨by (with_reducible repeat apply pK); refine blk_far ?_ (by have h_ := Kd.R_ne HO_265002.out q.out (by decide); intro e_; exact h_ (by rw [e_]; rfl)) _; (with_reducible repeat apply pK); refine blk_far ?_ (by have h_ := Kd.R_ne HO_265002.out q.out (by decide); intro e_; exact h_ (by rw [e_]; rfl)) _; (with_reducible repeat apply pK); refine blk_far ?_ (by have h_ := Kd.R_ne HO_265002.out q.out (by decide); intro e_; exact h_ (by rw [e_]; rfl)) _; (with_reducible repeat apply pK); refine blk_far ?_ (by have h_ := Kd.R_ne HO_265002.out q.out (by decide); intro e_; exact h_ (by rw [e_]; rfl)) _; (with_reducible repeat apply pK); refine blk_far ?_ (by have h_ := Kd.R_ne HO_265002.out q.out (by decide); intro e_; exact h_ (by rw [e_]; rfl)) _; (with_reducible repeat apply pK); refine blk_far ?_ (by have h_ := Kd.R_ne HO_265002.out q.out (by decide); intro e_; exact h_ (by rw [e_]; rfl)) _; (with_reducible repeat apply pK); exact q.out⟩
        have P : Aside0 (Below w.heap.size w ((((((fg.setCell ⟨al, (af : Int).toNat * 6, none⟩ (.bool false)).setCell ⟨al, (af : Int).toNat * 6 + 1, none⟩ (.bool false)).setCell ⟨al, (af : Int).toNat * 6 + 2, none⟩ (.bool false)).setCell ⟨al, (af : Int).toNat * 6 + 3, none⟩ (.int .i64 0)).setCell ⟨al, (af : Int).toNat * 6 + 4, none⟩ (.bool false)).setCell ⟨al, (af : Int).toNat * 6 + 5, none⟩ (.int .u8 (rd ai aU)))) := ⟨by repeat (first | (with_reducible first | exact HB.out | apply below_alloc | apply pw_below_drewN | apply below_drew1 | refine below_set ?_ cE.out | refine below_set ?_ cE.out | refine below_set ?_ cE.out | refine below_set ?_ cE.out | refine below_set ?_ cE.out | refine below_set ?_ cE.out | refine below_set ?_ bQ.out | refine below_set ?_ bR.out | refine below_set ?_ bS.out | refine below_set ?_ bT.out) | exact HB.out)⟩
        (try clear HO_265002)
        (try clear b)
        (try clear d)
        (try clear m)
        (try clear q)
        (try clear HB)
        generalize ((((((fg.setCell ⟨al, (af : Int).toNat * 6, none⟩ (.bool false)).setCell ⟨al, (af : Int).toNat * 6 + 1, none⟩ (.bool false)).setCell ⟨al, (af : Int).toNat * 6 + 2, none⟩ (.bool false)).setCell ⟨al, (af : Int).toNat * 6 + 3, none⟩ (.int .i64 0)).setCell ⟨al, (af : Int).toNat * 6 + 4, none⟩ (.bool false)).setCell ⟨al, (af : Int).toNat * 6 + 5, none⟩ (.int .u8 (rd ai aU))) = zg at y z A B G P ⊢
        have HO_265002 := y
        have b := z
        have d := A
        have m := B
        have q := G
        have HB := P
        clear y z A B G P
        have wP := u.out
        have xl := ad.out
        have wQ := am.out
        have xm := aG.out
        obtain ⟨fm, fn, fo, fp, fq, fr, gH, gI, gJ, gK, gL, gM⟩ := cells6 b.out
        try go_wp2_with (first | ((with_reducible refine gate_callee (f := 43) rfl ?_); refine goesL_ (some 38) rfl rfl Tryd.func43 (by kernel_rfl) rfl #[.agg #[.int .i64 T, .int .i64 U, .slice aF E.length aA, .int .i64 V, .bool W, .bool X], .int .i64 af] rfl ag_ ?_; (with_reducible refine (shutterref10_Next.calls T U _ _ E V W X af fe _ ?side1 ?side2 tt.out).mono ?_); (case side1 => repeat (first | exact (Kd.C_below aQ.out HB.out) | (with_reducible apply pC))); (case side2 => exact a7.out); rintro e zh ⟨rfl, hb⟩; refine ⟨_, rfl, ?_⟩; replace HO_265002 := Z (rb HO_265002.out hb); replace b := Z (kb b.out hb); replace d := Z (kb d.out hb); replace m := Z (kb m.out hb); replace q := Z (kb q.out hb); replace HB := Z (below_step bl_ hb); (try clear hb); (try clear bU); (try clear hk); (try clear hi)))
        go_roundg k1
        case measure => have := bJ.out; omega
        case rel => exact ⟨(fe), (wrap64 (aU + 1)), (it), (.slice (some ⟨al, 0, none⟩) r.length ir), (dn_), (dn_), H', ⟨by have := bJ.out; omega⟩, ⟨by (with_reducible repeat apply pR); exact HO_265002.out⟩, ⟨vK b.out⟩, ⟨vK d.out⟩, ⟨vK m.out⟩, ⟨vK q.out⟩, ⟨bl_⟩⟩
       ·rw [if_neg fj] at H
        exact absurd H (by simp)
      ·rw [if_neg c24] at H
       exact absurd H (by simp)
     ·rw [if_neg fi] at H
      exact absurd H (by simp)
    ·rw [if_neg cM] at H
     have ih : decide (aU < (ai.length : Int)) = false := decide_eq_false cM
     clear cM
     simp only [Option.some.injEq, Prod.mk.injEq] at H
     obtain ⟨rfl, rfl, rfl, rfl, rfl, rfl, rfl⟩ := H
     have wR := ay.out
     have xn := ax.out
     have wS := l.out
     have xo := ae.out
     have wT := an.out
     have xp := aH.out
     obtain ⟨fs, ft, fu, fv, fw, fx, fy, fz, gN, gO, gP, gQ, gR, gS, gT, gU⟩ := cells8 d.out
     have wU := aG.out
     have xq := am.out
     have wV := c.out
     have xr := Y.out
     obtain ⟨fA, fB, fC, fD, fE, fF, gV, gW, gX, gY, gZ, g0⟩ := cells6 q.out
     have wW := ad.out
     have xs := u.out
     obtain ⟨fG, fH, fI, fJ, fK, fL, g1, g2, g3, g4, g5, g6⟩ := cells6 m.out
     obtain ⟨cQ, da, pQ⟩ := Kd.R_slice HO_265002.out
     subst pQ
     go_wp2_with (first | ((with_reducible refine gate_store (t := 24) (p := 6) rfl ?_); refine sx_ 24 6 ((((((wr.setCell ⟨a, 0, none⟩ (.int .i64 I)).setCell ⟨a, 1, none⟩ (.int .i64 J)).setCell ⟨a, 2, none⟩ (.slice cQ r.length da)).setCell ⟨a, 3, none⟩ (.int .i64 O)).setCell ⟨a, 4, none⟩ (.bool L)).setCell ⟨a, 5, none⟩ (.bool M)) ?_; intro h5 hw; replace HO_265002 : Aside0 (Kd.R k44 44 h5 w.heap.size (fun _ => True) (.slice cQ r.length da) r) := ⟨(by rw [hw]; exact (by (with_reducible repeat apply pR); exact R_off HO_265002.out m.out (by decide) off2_))⟩; replace b := Z (sM hw (blk_off b.out u.out off2_)); replace d := Z (sM hw (blk_off d.out l.out off2_)); replace m : Aside0 (h5.heap[a]? = some (.cells #[.int .i64 I, .int .i64 J, .slice cQ r.length da, .int .i64 O, .bool L, .bool M] 24 (0, 0))) := ⟨by rw [hw]; exact (put6 m.out)⟩; replace q := Z (sM hw (blk_off q.out c.out off2_)); replace HB : Aside0 (Below w.heap.size w h5) := ⟨by rw [hw]; exact bl_⟩; clear hw))
     refine bodyPost_ret (results_ct rfl _ _ a 24 #[.int .i64 I, .int .i64 J, .slice cQ r.length da, .int .i64 O, .bool L, .bool M] (0, 0) _ rfl (vK m.out) Tryd.underlying24 rfl (by kernel_rfl)) rfl ?_
     exact ⟨_, er_, by (with_reducible repeat apply pR); exact HO_265002.out, bl_⟩
 ·rw [if_neg c5] at H
  have iL : (ab == 1) = false := beq_eq_false_iff_ne.mpr c5
  have iM : (ab != 1) = true := bne_iff_ne.mpr c5
  by_cases cw : ab = 2
  ·rw [if_pos cw] at H
   have il : (ab == 2) = true := beq_iff_eq.mpr cw
   have im : (ab != 2) = false := bne_eq_false_iff_eq.mpr cw
   clear cw
   by_cases fk : 0 ≤ a1
   ·rw [if_pos fk] at H
    have m0 : decide (0 ≤ a1) = true := decide_eq_true fk
    clear fk
    by_cases fl : a1 < (F.length : Int)
    ·rw [if_pos fl] at H
     have m1 : decide (a1 < (F.length : Int)) = true := decide_eq_true fl
     clear fl
     obtain ⟨iu, cz⟩ : ∃ y_ : List (S44), y_ = (F.set (a1 : Int).toNat (⟨true, (⟨ap, aq, ar, au⟩ : S28), 0⟩ : S44)) := ⟨_, rfl⟩
     replace H : ((shutterref10_Next.f T U E V W X a1).bind fun cg => (some (I, J, iu, O, L, M, cg))) = some (r1, r2, r3, r4, r5, r6, r7) := by first | (rw [cz]; with_reducible exact H) | (have bL := (Option.bind_some _ _).symm.trans H; rw [cz]; with_reducible exact bL) | (have bL := (Option.bind_some _ _).symm.trans H; with_reducible exact bL) | with_reducible exact H | (rw [cz]; exact H) | exact H
     have o8 := Z cz
     clear cz
     replace H := Option.bind_eq_some_iff.mp H
     obtain ⟨cg, os, H⟩ := H
     replace H : (some (I, J, iu, O, L, M, cg)) = some (r1, r2, r3, r4, r5, r6, r7) := H
     have tu := Z os
     clear os
     simp only [Option.some.injEq, Prod.mk.injEq] at H
     obtain ⟨rfl, rfl, rfl, rfl, rfl, rfl, rfl⟩ := H
     go_enter Tryd.func20, Tryd.ntmps20
     try go_wp2_with (first | ((with_reducible refine gate_dst (N := 3) rfl ?_); refine bx_ 3 24 #[.int .i64 T, .int .i64 U, .slice aF E.length aA, .int .i64 V, .bool W, .bool X] ?_; intro ah hg zi hbox hb; have b := Z (hbox); have cp := Z (ln_ hg : w.heap.size ≤ ah); have bQ := Z (ln_ hg : w.heap.size ≤ ah); replace HB := Z (below_step bl_ hb); clear hb hbox hg) | ((with_reducible refine gate_dst (N := 5) rfl ?_); refine bx_ 5 30 #[.int .i64 ab, .slice aR ai.length aP, .bool ap, .bool aq, .int .i64 ar, .bool au, .int .i64 av, .int .u8 ak] ?_; intro ac hg zj hbox hb; have d := Z (hbox); have cq := Z (ln_ hg : w.heap.size ≤ ac); have bR := Z (ln_ hg : w.heap.size ≤ ac); replace HB := Z (below_step bl_ hb); have ax := Z (nl b.out hg); have ay := Z (ng b.out hg); replace b := Z (kb b.out hb); clear hb hbox hg) | ((with_reducible refine gate_dst (N := 6) rfl ?_); refine bx_ 6 24 #[.int .i64 0, .int .i64 0, .slice none 0 0, .int .i64 0, .bool false, .bool false] ?_; intro a hg zk hbox hb; have m := Z (hbox); have cr := Z (ln_ hg : w.heap.size ≤ a); have bS := Z (ln_ hg : w.heap.size ≤ a); replace HB := Z (below_step bl_ hb); have u := Z (nl b.out hg); have ad := Z (ng b.out hg); replace b := Z (kb b.out hb); have l := Z (nl d.out hg); have ae := Z (ng d.out hg); replace d := Z (kb d.out hb); clear hb hbox hg; have wX := ax.out; have xt := ay.out; have wY := u.out; have xu := ad.out; obtain ⟨fM, fN, fO, fP, fQ, fR, g7, g8, g9, ha, hc, he⟩ := cells6 b.out) | ((with_reducible refine gate_callee (f := 25) rfl ?_); refine goesL_ (some 15) rfl rfl Tryd.func25 (by kernel_rfl) rfl #[.agg #[.int .i64 T, .int .i64 U, .slice aF E.length aA, .int .i64 V, .bool W, .bool X]] rfl ag_ ?_; (with_reducible refine (shutterref10_Copy.calls T U _ _ E V W X I J F O L M _ ?side1 ?side2 A4.out).mono ?_); (case side1 => repeat (first | exact (Kd.C_below aQ.out HB.out) | (with_reducible apply pC))); (case side2 => exact a7.out); rintro e zl ⟨ff, rfl, bn, hb⟩; refine ⟨_, rfl, ?_⟩; have Q := Z (Kd.R_lower bn (below_size bl_)); replace b := Z (kb b.out hb); replace d := Z (kb d.out hb); replace m := Z (kb m.out hb); replace HB := Z (below_step bl_ hb); (try clear hb); (try clear bU); (try clear hk); (try clear hi); (try clear bn)) | ((with_reducible refine gate_dst (N := 8) rfl ?_); refine bx_ 8 24 #[.int .i64 0, .int .i64 0, .slice none 0 0, .int .i64 0, .bool false, .bool false] ?_; intro D hg wj hbox hb; replace Q := Z (rb Q.out hb); have q := Z (hbox); have ct := Z (ln_ hg : w.heap.size ≤ D); have bT := Z (ln_ hg : w.heap.size ≤ D); replace HB := Z (below_step bl_ hb); have am := Z (nl b.out hg); have aG := Z (ng b.out hg); replace b := Z (kb b.out hb); have an := Z (nl d.out hg); have aH := Z (ng d.out hg); replace d := Z (kb d.out hb); have Y := Z (nl m.out hg); have c := Z (ng m.out hg); replace m := Z (kb m.out hb); clear hb hbox hg; have wZ := aG.out; have xv := am.out; have w0 := aH.out; have xw := an.out; have w2 := c.out; have xx := Y.out; obtain ⟨fS, fT, fU, fV, fW, fX, hf, hh, hj, hl, hm, hp⟩ := cells6 q.out; obtain ⟨iH, ba, pS⟩ := Kd.R_slice Q.out; subst pS) | ((with_reducible refine gate_store (t := 24) (p := 8) rfl ?_); refine sx_ 24 8 ((((((wj.setCell ⟨D, 0, none⟩ (.int .i64 I)).setCell ⟨D, 1, none⟩ (.int .i64 J)).setCell ⟨D, 2, none⟩ (.slice iH F.length ba)).setCell ⟨D, 3, none⟩ (.int .i64 O)).setCell ⟨D, 4, none⟩ (.bool L)).setCell ⟨D, 5, none⟩ (.bool M)) ?_; intro bm hw; replace Q : Aside0 (Kd.R k44 44 bm w.heap.size (fun _ => True) (.slice iH F.length ba) F) := ⟨(by rw [hw]; exact (by (with_reducible repeat apply pR); exact R_off Q.out q.out (by decide) off2_))⟩; replace b := Z (sM hw (blk_off b.out am.out off2_)); replace d := Z (sM hw (blk_off d.out an.out off2_)); replace m := Z (sM hw (blk_off m.out Y.out off2_)); replace q : Aside0 (bm.heap[D]? = some (.cells #[.int .i64 I, .int .i64 J, .slice iH F.length ba, .int .i64 O, .bool L, .bool M] 24 (0, 0))) := ⟨by rw [hw]; exact (put6 q.out)⟩; replace HB : Aside0 (Below w.heap.size w bm) := ⟨by rw [hw]; exact bl_⟩; clear hw; have w3 := l.out; have xy := ae.out; obtain ⟨fY, fZ, ga, gb, gc, gd, ge, gf, hq, hs, ht, hu, hv, hx, hy, hz⟩ := cells8 d.out; obtain ⟨gg, gh, gi, gj, gl, gm, hA, hB, hC, hD, hE, hF⟩ := cells6 q.out; have p53 : 0 ≤ (a1 : Int) := od_; have fa : (a1 : Int) < ((F.length : Int) : Int) := od_; obtain ⟨aO, yp, oE, oG, pV, yo, ou⟩ := Kd.R_form Q.out (by omega); (first | cases oE | (injection oE with ea_ en_ ec_; (first | subst ea_ | (injection ea_ with ea_; subst ea_)); subst ec_; clear en_)); have cF := Z oG; have xR := Z ou; clear oG pV ou; obtain ⟨yl, po, oJ, b1, b3⟩ := Kd.R_elem Q.out z44 (a1 : Int) p53 fa; obtain rfl := k44_openM oJ; have iA : bm.cell? ⟨aO, (a1 : Int).toNat * 6, none⟩ = some (.bool ((rd_T44 F a1).f0)) := b1 0 _ rfl; have iB : bm.cell? ⟨aO, (a1 : Int).toNat * 6 + 1, none⟩ = some (.bool ((rd_T44 F a1).f1.f0)) := b1 1 _ rfl; have iC : bm.cell? ⟨aO, (a1 : Int).toNat * 6 + 2, none⟩ = some (.bool ((rd_T44 F a1).f1.f1)) := b1 2 _ rfl; have iD : bm.cell? ⟨aO, (a1 : Int).toNat * 6 + 3, none⟩ = some (.int .i64 ((rd_T44 F a1).f1.f2)) := b1 3 _ rfl; have iE : bm.cell? ⟨aO, (a1 : Int).toNat * 6 + 4, none⟩ = some (.bool ((rd_T44 F a1).f1.f3)) := b1 4 _ rfl; have iF : bm.cell? ⟨aO, (a1 : Int).toNat * 6 + 5, none⟩ = some (.int .u8 ((rd_T44 F a1).f2)) := b1 5 _ rfl; have t8 : bm.frozen? ⟨aO, (a1 : Int).toNat * 6, none⟩ = false := b3 0; have t9 : bm.frozen? ⟨aO, (a1 : Int).toNat * 6 + 1, none⟩ = false := b3 1; have ua : bm.frozen? ⟨aO, (a1 : Int).toNat * 6 + 2, none⟩ = false := b3 2; have ub : bm.frozen? ⟨aO, (a1 : Int).toNat * 6 + 3, none⟩ = false := b3 3; have uc : bm.frozen? ⟨aO, (a1 : Int).toNat * 6 + 4, none⟩ = false := b3 4; have ud : bm.frozen? ⟨aO, (a1 : Int).toNat * 6 + 5, none⟩ = false := b3 5; clear po b1 b3 oJ; replace p53 := eq_true p53; replace fa := eq_true fa; have ow := Z (show Kd.R k44 44 bm w.heap.size (fun _ => True) (.slice (some ⟨aO, 0, none⟩) F.length ba) F from (by (with_reducible repeat apply pR); exact Q.out)); obtain ⟨ym, nh, oK, bV, b4⟩ := Kd.R_elem ow.out z44 (a1 : Int) (od_) (by have h_ : (a1 : Int) < ((F.length : Int) : Int) := od_; first | exact h_ | (have e_ := (Kd.R_reads' Q.out).1; omega) | simpa using h_); obtain rfl := k44_openM oK; have iJ := Kd.R_seg ow.out (a1 : Int) (od_) (by have h_ : (a1 : Int) < ((F.length : Int) : Int) := od_; first | exact h_ | (have e_ := (Kd.R_reads' Q.out).1; omega) | simpa using h_) (seg := [.bool true, .bool ap, .bool aq, .int .i64 ar, .bool au, .int .u8 0]) (j := 0) nh bV (show 6 ≤ 6 from by decide) (x' := (⟨true, (⟨ap, aq, ar, au⟩ : S28), 0⟩ : S44)) (k44_mkM _ _ _ (⟨true, (⟨ap, aq, ar, au⟩ : S28), 0⟩ : S44) ) (fun _ hk => hk); have e3 := bV 0 _ rfl; (try simp only [show (k44).sz = 6 from rfl, Nat.mul_one, Nat.add_zero] at e3); have oT := b4 0; (try simp only [show (k44).sz = 6 from rfl, Nat.mul_one, Nat.add_zero] at oT); have e4 := bV 1 _ rfl; (try simp only [show (k44).sz = 6 from rfl, Nat.mul_one, Nat.add_zero] at e4); have oU := b4 1; (try simp only [show (k44).sz = 6 from rfl, Nat.mul_one, Nat.add_zero] at oU); have e5 := bV 2 _ rfl; (try simp only [show (k44).sz = 6 from rfl, Nat.mul_one, Nat.add_zero] at e5); have oV := b4 2; (try simp only [show (k44).sz = 6 from rfl, Nat.mul_one, Nat.add_zero] at oV); have e6 := bV 3 _ rfl; (try simp only [show (k44).sz = 6 from rfl, Nat.mul_one, Nat.add_zero] at e6); have oW := b4 3; (try simp only [show (k44).sz = 6 from rfl, Nat.mul_one, Nat.add_zero] at oW); have e7 := bV 4 _ rfl; (try simp only [show (k44).sz = 6 from rfl, Nat.mul_one, Nat.add_zero] at e7); have oX := b4 4; (try simp only [show (k44).sz = 6 from rfl, Nat.mul_one, Nat.add_zero] at oX); have e8 := bV 5 _ rfl; (try simp only [show (k44).sz = 6 from rfl, Nat.mul_one, Nat.add_zero] at e8); have oY := b4 5; (try simp only [show (k44).sz = 6 from rfl, Nat.mul_one, Nat.add_zero] at oY); clear nh bV b4 oK) | ((with_reducible refine gate_store (t := 44) (p := 50) rfl ?_); refine sx_ 44 50 ((((((bm.setCell ⟨aO, (a1 : Int).toNat * 6, none⟩ (.bool true)).setCell ⟨aO, (a1 : Int).toNat * 6 + 1, none⟩ (.bool ap)).setCell ⟨aO, (a1 : Int).toNat * 6 + 2, none⟩ (.bool aq)).setCell ⟨aO, (a1 : Int).toNat * 6 + 3, none⟩ (.int .i64 ar)).setCell ⟨aO, (a1 : Int).toNat * 6 + 4, none⟩ (.bool au)).setCell ⟨aO, (a1 : Int).toNat * 6 + 5, none⟩ (.int .u8 0)) ?_; intro nk hw; have hg : bm.grownBy nk (some aO) := (by rw [hw]; exact iJ.2); have hp_ : Kd.R k44 44 nk w.heap.size (fun _ => True) (.slice (some ⟨aO, 0, none⟩) F.length ba) iu := (by rw [hw, o8.out]; exact iJ.1); clear iJ; replace b := Z (blk_grown (g := ah) (o := .cells #[.int .i64 T, .int .i64 U, .slice aF E.length aA, .int .i64 V, .bool W, .bool X] 24 (0, 0)) (vK b.out) hg (Kd.R_ne Q.out b.out (by decide))); replace d := Z (blk_grown (g := ac) (o := .cells #[.int .i64 ab, .slice aR ai.length aP, .bool ap, .bool aq, .int .i64 ar, .bool au, .int .i64 av, .int .u8 ak] 30 (0, 0)) (vK d.out) hg (Kd.R_ne Q.out d.out (by decide))); replace m := Z (blk_grown (g := a) (o := .cells #[.int .i64 0, .int .i64 0, .slice none 0 0, .int .i64 0, .bool false, .bool false] 24 (0, 0)) (vK m.out) hg (Kd.R_ne Q.out m.out (by decide))); replace q := Z (blk_grown (g := D) (o := .cells #[.int .i64 I, .int .i64 J, .slice (some ⟨aO, 0, none⟩) F.length ba, .int .i64 O, .bool L, .bool M] 24 (0, 0)) (vK q.out) hg (Kd.R_ne Q.out q.out (by decide))); replace Q := Z (hp_); replace HB := Z ((by rw [hw]; exact below_set (below_set (below_set (below_set (below_set (below_set (HB.out) cF.out) cF.out) cF.out) cF.out) cF.out) cF.out : Below w.heap.size w nk)); clear hg hw hp_))
     have y := Z (Kd.R_drew Q.out)
     have z := Z (blk_drew b.out)
     have A := Z (blk_drew d.out)
     have B := Z (blk_drew m.out)
     have G := Z (blk_drew q.out)
     have P := Z (below_drew1 HB.out)
     clear Q
     clear b
     clear d
     clear m
     clear q
     clear HB
     have Q := y
     have b := z
     have d := A
     have m := B
     have q := G
     have HB := P
     clear y z A B G P
     refine start_ (n := 6) (S := fun w' => w'.cell? ⟨D, 0, none⟩ = some (.int .i64 I) ∧ w'.cell? ⟨D, 1, none⟩ = some (.int .i64 J) ∧ w'.cell? ⟨D, 2, none⟩ = some (.slice (some ⟨aO, 0, none⟩) F.length ba) ∧ w'.cell? ⟨D, 3, none⟩ = some (.int .i64 O) ∧ w'.cell? ⟨D, 4, none⟩ = some (.bool L) ∧ w'.cell? ⟨D, 5, none⟩ = some (.bool M) ∧ w'.cell? ⟨ah, 0, none⟩ = some (.int .i64 T) ∧ w'.cell? ⟨ah, 1, none⟩ = some (.int .i64 U) ∧ w'.cell? ⟨ah, 2, none⟩ = some (.slice aF E.length aA) ∧ w'.cell? ⟨ah, 3, none⟩ = some (.int .i64 V) ∧ w'.cell? ⟨ah, 4, none⟩ = some (.bool W) ∧ w'.cell? ⟨ah, 5, none⟩ = some (.bool X)) (ds := []) (bv 6 0) (by kernel_rfl) rfl rfl ⟨(blk_cell q.out 0).trans rfl, (blk_cell q.out 1).trans rfl, (blk_cell q.out 2).trans rfl, (blk_cell q.out 3).trans rfl, (blk_cell q.out 4).trans rfl, (blk_cell q.out 5).trans rfl, (blk_cell b.out 0).trans rfl, (blk_cell b.out 1).trans rfl, (blk_cell b.out 2).trans rfl, (blk_cell b.out 3).trans rfl, (blk_cell b.out 4).trans rfl, (blk_cell b.out 5).trans rfl⟩ (fun hHeld => ?_)
     generalize nk.drew = zm at Q b d m q HB hHeld ⊢
     refine pure_ (i := 2) (N := some 53) (v := ?_) (a' := ?_) (bv 6 4) rfl rfl (by kernel_rfl) (fun _ _ _ h => h) (Or.inl ⟨by rfl, ?_⟩) ?_ ?_
     rotate_left
     ·intro w'
      go_simp
      with_reducible rfl
     rotate_left
     ·simp only [Act.put, sA, sB, sC, i64_w, i32_w]
      rfl
     refine take_ (i := 0) (N := some 51) (v := ?_) (a' := ?_) (bv 6 5) rfl rfl (by kernel_rfl) (fun _ _ _ h => h) (Or.inl ⟨by rfl, ?_⟩) hHeld ?_ ?_
     rotate_left
     ·rintro w' ⟨s0, s1, s2, s3, s4, s5, s6, s7, s8, s9, b9, ca⟩
      go_simp
      with_reducible rfl
     rotate_left
     ·simp only [Act.put, sA, sB, sC, i64_w, i32_w]
      rfl
     refine take_ (i := 1) (N := some 52) (v := ?_) (a' := ?_) (bv 6 7) rfl rfl (by kernel_rfl) (fun _ _ _ h => h) (Or.inl ⟨by rfl, ?_⟩) hHeld ?_ ?_
     rotate_left
     ·rintro w' ⟨s0, s1, s2, s3, s4, s5, s6, s7, s8, s9, b9, ca⟩
      go_simp
      with_reducible rfl
     rotate_left
     ·simp only [Act.put, sA, sB, sC, i64_w, i32_w]
      rfl
     refine one_ (i := 3) (N := some 54) (bv 6 15) rfl rfl (by kernel_rfl) (by decide) (fun K hK => ?_)
     refine goes_ Tryd.func43 (by kernel_rfl) rfl #[.agg #[.int .i64 T, .int .i64 U, .slice aF E.length aA, .int .i64 V, .bool W, .bool X], .int .i64 a1] (by rfl) rfl rfl ag_ ?_
     with_reducible refine (shutterref10_Next.calls T U _ _ E V W X a1 cg _ ?side1 ?side2 tu.out).mono ?_
     (case side1 => repeat (first | exact (Kd.C_below aQ.out HB.out) | (with_reducible apply pC)))
     (case side2 => exact a7.out)
     rintro e bX ⟨rfl, hb⟩
     refine ⟨_, rfl, ?_⟩
     have y := Z (rb Q.out hb)
     have z := Z (kb b.out hb)
     have A := Z (kb d.out hb)
     have B := Z (kb m.out hb)
     have G := Z (kb q.out hb)
     have P := Z (below_step bl_ hb)
     clear Q
     clear b
     clear d
     clear m
     clear q
     clear HB
     have Q := y
     have b := z
     have d := A
     have m := B
     have q := G
     have HB := P
     clear y z A B G P
     (try clear hb)
     (try clear bU)
     (try clear hk)
     (try clear hi)
     refine hK.out _ _ ⟨(blk_cell q.out 0).trans rfl, (blk_cell q.out 1).trans rfl, (blk_cell q.out 2).trans rfl, (blk_cell q.out 3).trans rfl, (blk_cell q.out 4).trans rfl, (blk_cell q.out 5).trans rfl, (blk_cell b.out 0).trans rfl, (blk_cell b.out 1).trans rfl, (blk_cell b.out 2).trans rfl, (blk_cell b.out 3).trans rfl, (blk_cell b.out 4).trans rfl, (blk_cell b.out 5).trans rfl⟩ (fun hHeld => ?_)
     clear hK K
     refine norm_ (a' := ?_) ?_ ?_
     rotate_left
     ·show Act.put _ (some 54) _ = _
      simp only [Act.put, sA, sB, sC, i64_w, i32_w]
      rfl
     refine one_ (i := 4) (N := none) (bv 6 31) rfl rfl (by kernel_rfl) (by decide) (fun K hK => ?_)
     have ys : bX.cell? ⟨a, 0, none⟩ = some (.int .i64 0) := (blk_cell m.out 0).trans rfl
     have wB := blk_frozen m.out 0
     have ta := u.out
     have tb := l.out
     have tc := c.out
     have sH := ad.out
     have sI := ae.out
     have sJ := Y.out
     have yt : bX.cell? ⟨a, 1, none⟩ = some (.int .i64 0) := (blk_cell m.out 1).trans rfl
     have wC := blk_frozen m.out 1
     have td := u.out
     have te := l.out
     have tf := c.out
     have sK := ad.out
     have sL := ae.out
     have sN := Y.out
     have yu : bX.cell? ⟨a, 2, none⟩ = some (.slice none 0 0) := (blk_cell m.out 2).trans rfl
     have wD := blk_frozen m.out 2
     have tg := u.out
     have th := l.out
     have ti := c.out
     have sO := ad.out
     have sP := ae.out
     have sQ := Y.out
     have yv : bX.cell? ⟨a, 3, none⟩ = some (.int .i64 0) := (blk_cell m.out 3).trans rfl
     have wE := blk_frozen m.out 3
     have tj := u.out
     have tk := l.out
     have tl := c.out
     have sR := ad.out
     have sS := ae.out
     have sT := Y.out
     have yw : bX.cell? ⟨a, 4, none⟩ = some (.bool false) := (blk_cell m.out 4).trans rfl
     have wF := blk_frozen m.out 4
     have tm := u.out
     have tn := l.out
     have tp := c.out
     have sU := ad.out
     have sV := ae.out
     have sW := Y.out
     have yx : bX.cell? ⟨a, 5, none⟩ = some (.bool false) := (blk_cell m.out 5).trans rfl
     have wG := blk_frozen m.out 5
     have tq := u.out
     have tr := l.out
     have ts := c.out
     have sX := ad.out
     have sY := ae.out
     have sZ := Y.out
     refine skip_ (w1 := ?_) (by rfl) rfl ?_ ?_
     rotate_left
     ·go_simp
      rfl
     refine hK.out _ _ ⟨((cell_far (p := ⟨a, _, none⟩) c.out _).trans (((cell_far (p := ⟨a, _, none⟩) c.out _).trans (((cell_far (p := ⟨a, _, none⟩) c.out _).trans (((cell_far (p := ⟨a, _, none⟩) c.out _).trans (((cell_far (p := ⟨a, _, none⟩) c.out _).trans (((cell_far (p := ⟨a, _, none⟩) c.out _).trans (hHeld.1)))))))))))), ((cell_far (p := ⟨a, _, none⟩) c.out _).trans (((cell_far (p := ⟨a, _, none⟩) c.out _).trans (((cell_far (p := ⟨a, _, none⟩) c.out _).trans (((cell_far (p := ⟨a, _, none⟩) c.out _).trans (((cell_far (p := ⟨a, _, none⟩) c.out _).trans (((cell_far (p := ⟨a, _, none⟩) c.out _).trans (hHeld.2.1)))))))))))), ((cell_far (p := ⟨a, _, none⟩) c.out _).trans (((cell_far (p := ⟨a, _, none⟩) c.out _).trans (((cell_far (p := ⟨a, _, none⟩) c.out _).trans (((cell_far (p := ⟨a, _, none⟩) c.out _).trans (((cell_far (p := ⟨a, _, none⟩) c.out _).trans (((cell_far (p := ⟨a, _, none⟩) c.out _).trans (hHeld.2.2.1)))))))))))), ((cell_far (p := ⟨a, _, none⟩) c.out _).trans (((cell_far (p := ⟨a, _, none⟩) c.out _).trans (((cell_far (p := ⟨a, _, none⟩) c.out _).trans (((cell_far (p := ⟨a, _, none⟩) c.out _).trans (((cell_far (p := ⟨a, _, none⟩) c.out _).trans (((cell_far (p := ⟨a, _, none⟩) c.out _).trans (hHeld.2.2.2.1)))))))))))), ((cell_far (p := ⟨a, _, none⟩) c.out _).trans (((cell_far (p := ⟨a, _, none⟩) c.out _).trans (((cell_far (p := ⟨a, _, none⟩) c.out _).trans (((cell_far (p := ⟨a, _, none⟩) c.out _).trans (((cell_far (p := ⟨a, _, none⟩) c.out _).trans (((cell_far (p := ⟨a, _, none⟩) c.out _).trans (hHeld.2.2.2.2.1)))))))))))), ((cell_far (p := ⟨a, _, none⟩) c.out _).trans (((cell_far (p := ⟨a, _, none⟩) c.out _).trans (((cell_far (p := ⟨a, _, none⟩) c.out _).trans (((cell_far (p := ⟨a, _, none⟩) c.out _).trans (((cell_far (p := ⟨a, _, none⟩) c.out _).trans (((cell_far (p := ⟨a, _, none⟩) c.out _).trans (hHeld.2.2.2.2.2.1)))))))))))), ((cell_far (p := ⟨a, _, none⟩) u.out _).trans (((cell_far (p := ⟨a, _, none⟩) u.out _).trans (((cell_far (p := ⟨a, _, none⟩) u.out _).trans (((cell_far (p := ⟨a, _, none⟩) u.out _).trans (((cell_far (p := ⟨a, _, none⟩) u.out _).trans (((cell_far (p := ⟨a, _, none⟩) u.out _).trans (hHeld.2.2.2.2.2.2.1)))))))))))), ((cell_far (p := ⟨a, _, none⟩) u.out _).trans (((cell_far (p := ⟨a, _, none⟩) u.out _).trans (((cell_far (p := ⟨a, _, none⟩) u.out _).trans (((cell_far (p := ⟨a, _, none⟩) u.out _).trans (((cell_far (p := ⟨a, _, none⟩) u.out _).trans (((cell_far (p := ⟨a, _, none⟩) u.out _).trans (hHeld.2.2.2.2.2.2.2.1)))))))))))), ((cell_far (p := ⟨a, _, none⟩) u.out _).trans (((cell_far (p := ⟨a, _, none⟩) u.out _).trans (((cell_far (p := ⟨a, _, none⟩) u.out _).trans (((cell_far (p := ⟨a, _, none⟩) u.out _).trans (((cell_far (p := ⟨a, _, none⟩) u.out _).trans (((cell_far (p := ⟨a, _, none⟩) u.out _).trans (hHeld.2.2.2.2.2.2.2.2.1)))))))))))), ((cell_far (p := ⟨a, _, none⟩) u.out _).trans (((cell_far (p := ⟨a, _, none⟩) u.out _).trans (((cell_far (p := ⟨a, _, none⟩) u.out _).trans (((cell_far (p := ⟨a, _, none⟩) u.out _).trans (((cell_far (p := ⟨a, _, none⟩) u.out _).trans (((cell_far (p := ⟨a, _, none⟩) u.out _).trans (hHeld.2.2.2.2.2.2.2.2.2.1)))))))))))), ((cell_far (p := ⟨a, _, none⟩) u.out _).trans (((cell_far (p := ⟨a, _, none⟩) u.out _).trans (((cell_far (p := ⟨a, _, none⟩) u.out _).trans (((cell_far (p := ⟨a, _, none⟩) u.out _).trans (((cell_far (p := ⟨a, _, none⟩) u.out _).trans (((cell_far (p := ⟨a, _, none⟩) u.out _).trans (hHeld.2.2.2.2.2.2.2.2.2.2.1)))))))))))), ((cell_far (p := ⟨a, _, none⟩) u.out _).trans (((cell_far (p := ⟨a, _, none⟩) u.out _).trans (((cell_far (p := ⟨a, _, none⟩) u.out _).trans (((cell_far (p := ⟨a, _, none⟩) u.out _).trans (((cell_far (p := ⟨a, _, none⟩) u.out _).trans (((cell_far (p := ⟨a, _, none⟩) u.out _).trans (hHeld.2.2.2.2.2.2.2.2.2.2.2))))))))))))⟩ (fun hHeld => ?_)
     clear hK K
     refine pure_ (i := 5) (N := some 7) (v := ?_) (a' := ?_) (bv 6 63) rfl rfl (by kernel_rfl) (fun _ _ _ h => h) (Or.inl ⟨by rfl, ?_⟩) ?_ ?_
     rotate_left
     ·intro w'
      go_simp
      with_reducible rfl
     rotate_left
     ·simp only [Act.put, sA, sB, sC, i64_w, i32_w]
      rfl
     refine done_ (by kernel_rfl) ?_
     have y : Aside0 (Kd.R k44 44 ((((((bX.setCell ⟨a, 0, none⟩ (.int .i64 I)).setCell ⟨a, 1, none⟩ (.int .i64 J)).setCell ⟨a, 2, none⟩ (.slice (some ⟨aO, 0, none⟩) F.length ba)).setCell ⟨a, 3, none⟩ (.int .i64 O)).setCell ⟨a, 4, none⟩ (.bool L)).setCell ⟨a, 5, none⟩ (.bool M)) w.heap.size (fun _ => True) (.slice (some ⟨aO, 0, none⟩) F.length ba) iu) := ⟨by (with_reducible repeat apply pR); exact Kd.R_mono (f6R a (Kd.R_types Q.out m.out (by decide)) (fun _ hk => hk.2)) (fun _ hk => trivial)⟩
     have z : Aside0 (((((((bX.setCell ⟨a, 0, none⟩ (.int .i64 I)).setCell ⟨a, 1, none⟩ (.int .i64 J)).setCell ⟨a, 2, none⟩ (.slice (some ⟨aO, 0, none⟩) F.length ba)).setCell ⟨a, 3, none⟩ (.int .i64 O)).setCell ⟨a, 4, none⟩ (.bool L)).setCell ⟨a, 5, none⟩ (.bool M)).heap[ah]? = some (.cells #[.int .i64 T, .int .i64 U, .slice aF E.length aA, .int .i64 V, .bool W, .bool X] 24 (0, 0))) := ⟨blk_off b.out u.out off2_⟩
     have A : Aside0 (((((((bX.setCell ⟨a, 0, none⟩ (.int .i64 I)).setCell ⟨a, 1, none⟩ (.int .i64 J)).setCell ⟨a, 2, none⟩ (.slice (some ⟨aO, 0, none⟩) F.length ba)).setCell ⟨a, 3, none⟩ (.int .i64 O)).setCell ⟨a, 4, none⟩ (.bool L)).setCell ⟨a, 5, none⟩ (.bool M)).heap[ac]? = some (.cells #[.int .i64 ab, .slice aR ai.length aP, .bool ap, .bool aq, .int .i64 ar, .bool au, .int .i64 av, .int .u8 ak] 30 (0, 0))) := ⟨blk_off d.out l.out off2_⟩
     have B : Aside0 (((((((bX.setCell ⟨a, 0, none⟩ (.int .i64 I)).setCell ⟨a, 1, none⟩ (.int .i64 J)).setCell ⟨a, 2, none⟩ (.slice (some ⟨aO, 0, none⟩) F.length ba)).setCell ⟨a, 3, none⟩ (.int .i64 O)).setCell ⟨a, 4, none⟩ (.bool L)).setCell ⟨a, 5, none⟩ (.bool M)).heap[a]? = some (.cells #[.int .i64 I, .int .i64 J, .slice (some ⟨aO, 0, none⟩) F.length ba, .int .i64 O, .bool L, .bool M] 24 (0, 0))) := ⟨put6 m.out⟩
     have G : Aside0 (((((((bX.setCell ⟨a, 0, none⟩ (.int .i64 I)).setCell ⟨a, 1, none⟩ (.int .i64 J)).setCell ⟨a, 2, none⟩ (.slice (some ⟨aO, 0, none⟩) F.length ba)).setCell ⟨a, 3, none⟩ (.int .i64 O)).setCell ⟨a, 4, none⟩ (.bool L)).setCell ⟨a, 5, none⟩ (.bool M)).heap[D]? = some (.cells #[.int .i64 I, .int .i64 J, .slice (some ⟨aO, 0, none⟩) F.length ba, .int .i64 O, .bool L, .bool M] 24 (0, 0))) := ⟨blk_off q.out c.out off2_⟩
     have P : Aside0 (Below w.heap.size w ((((((bX.setCell ⟨a, 0, none⟩ (.int .i64 I)).setCell ⟨a, 1, none⟩ (.int .i64 J)).setCell ⟨a, 2, none⟩ (.slice (some ⟨aO, 0, none⟩) F.length ba)).setCell ⟨a, 3, none⟩ (.int .i64 O)).setCell ⟨a, 4, none⟩ (.bool L)).setCell ⟨a, 5, none⟩ (.bool M))) := ⟨bl_⟩
     (try clear Q)
     (try clear b)
     (try clear d)
     (try clear m)
     (try clear q)
     (try clear HB)
     generalize ((((((bX.setCell ⟨a, 0, none⟩ (.int .i64 I)).setCell ⟨a, 1, none⟩ (.int .i64 J)).setCell ⟨a, 2, none⟩ (.slice (some ⟨aO, 0, none⟩) F.length ba)).setCell ⟨a, 3, none⟩ (.int .i64 O)).setCell ⟨a, 4, none⟩ (.bool L)).setCell ⟨a, 5, none⟩ (.bool M)) = zn at y z A B G P ⊢
     have Q := y
     have b := z
     have d := A
     have m := B
     have q := G
     have HB := P
     clear y z A B G P
     try go_wp2
     refine bodyPost_ret (results_ct rfl _ _ a 24 #[.int .i64 I, .int .i64 J, .slice (some ⟨aO, 0, none⟩) F.length ba, .int .i64 O, .bool L, .bool M] (0, 0) _ rfl (vK m.out) Tryd.underlying24 rfl (by kernel_rfl)) rfl ?_
     exact ⟨_, er_, by (with_reducible repeat apply pR); exact Q.out, bl_⟩
    ·rw [if_neg fl] at H
     exact absurd H (by simp)
   ·rw [if_neg fk] at H
    exact absurd H (by simp)
  ·rw [if_neg cw] at H
   have il : (ab == 2) = false := beq_eq_false_iff_ne.mpr cw
   have im : (ab != 2) = true := bne_iff_ne.mpr cw
   by_cases cx : ab = 3
   ·rw [if_pos cx] at H
    have io : (ab == 3) = true := beq_iff_eq.mpr cx
    have ip : (ab != 3) = false := bne_eq_false_iff_eq.mpr cx
    clear cx
    simp only [Option.some.injEq, Prod.mk.injEq] at H
    obtain ⟨rfl, rfl, rfl, rfl, rfl, rfl, rfl⟩ := H
    go_enter Tryd.func20, Tryd.ntmps20
    try go_wp2_with (first | ((with_reducible refine gate_dst (N := 3) rfl ?_); refine bx_ 3 24 #[.int .i64 T, .int .i64 U, .slice aF E.length aA, .int .i64 V, .bool W, .bool X] ?_; intro ah hg zo hbox hb; have b := Z (hbox); have cp := Z (ln_ hg : w.heap.size ≤ ah); have bQ := Z (ln_ hg : w.heap.size ≤ ah); replace HB := Z (below_step bl_ hb); clear hb hbox hg) | ((with_reducible refine gate_dst (N := 5) rfl ?_); refine bx_ 5 30 #[.int .i64 ab, .slice aR ai.length aP, .bool ap, .bool aq, .int .i64 ar, .bool au, .int .i64 av, .int .u8 ak] ?_; intro ac hg zp hbox hb; have d := Z (hbox); have cq := Z (ln_ hg : w.heap.size ≤ ac); have bR := Z (ln_ hg : w.heap.size ≤ ac); replace HB := Z (below_step bl_ hb); have ax := Z (nl b.out hg); have ay := Z (ng b.out hg); replace b := Z (kb b.out hb); clear hb hbox hg) | ((with_reducible refine gate_dst (N := 6) rfl ?_); refine bx_ 6 24 #[.int .i64 0, .int .i64 0, .slice none 0 0, .int .i64 0, .bool false, .bool false] ?_; intro a hg zq hbox hb; have m := Z (hbox); have cr := Z (ln_ hg : w.heap.size ≤ a); have bS := Z (ln_ hg : w.heap.size ≤ a); replace HB := Z (below_step bl_ hb); have u := Z (nl b.out hg); have ad := Z (ng b.out hg); replace b := Z (kb b.out hb); have l := Z (nl d.out hg); have ae := Z (ng d.out hg); replace d := Z (kb d.out hb); clear hb hbox hg; have w4 := ax.out; have xz := ay.out; have w5 := u.out; have xA := ad.out; obtain ⟨gn, go, gp, gq, gr, gs, hG, hH, hI, hJ, hL, hM⟩ := cells6 b.out) | ((with_reducible refine gate_callee (f := 25) rfl ?_); refine goesL_ (some 15) rfl rfl Tryd.func25 (by kernel_rfl) rfl #[.agg #[.int .i64 T, .int .i64 U, .slice aF E.length aA, .int .i64 V, .bool W, .bool X]] rfl ag_ ?_; (with_reducible refine (shutterref10_Copy.calls T U _ _ E V W X I J F O L M _ ?side1 ?side2 A4.out).mono ?_); (case side1 => repeat (first | exact (Kd.C_below aQ.out HB.out) | (with_reducible apply pC))); (case side2 => exact a7.out); rintro e zr ⟨ff, rfl, bn, hb⟩; refine ⟨_, rfl, ?_⟩; have Q := Z (Kd.R_lower bn (below_size bl_)); replace b := Z (kb b.out hb); replace d := Z (kb d.out hb); replace m := Z (kb m.out hb); replace HB := Z (below_step bl_ hb); (try clear hb); (try clear bU); (try clear hk); (try clear hi); (try clear bn)) | ((with_reducible refine gate_dst (N := 8) rfl ?_); refine bx_ 8 24 #[.int .i64 0, .int .i64 0, .slice none 0 0, .int .i64 0, .bool false, .bool false] ?_; intro D hg wk hbox hb; replace Q := Z (rb Q.out hb); have q := Z (hbox); have ct := Z (ln_ hg : w.heap.size ≤ D); have bT := Z (ln_ hg : w.heap.size ≤ D); replace HB := Z (below_step bl_ hb); have am := Z (nl b.out hg); have aG := Z (ng b.out hg); replace b := Z (kb b.out hb); have an := Z (nl d.out hg); have aH := Z (ng d.out hg); replace d := Z (kb d.out hb); have Y := Z (nl m.out hg); have c := Z (ng m.out hg); replace m := Z (kb m.out hb); clear hb hbox hg; have w9 := aG.out; have xB := am.out; have xa := aH.out; have xC := an.out; have xb := c.out; have xD := Y.out; obtain ⟨gt, gu, gv, gw, gx, gy, hN, hO, hP, hQ, hR, hS⟩ := cells6 q.out; obtain ⟨bi, bj, pT⟩ := Kd.R_slice Q.out; subst pT) | ((with_reducible refine gate_store (t := 24) (p := 8) rfl ?_); refine sx_ 24 8 ((((((wk.setCell ⟨D, 0, none⟩ (.int .i64 I)).setCell ⟨D, 1, none⟩ (.int .i64 J)).setCell ⟨D, 2, none⟩ (.slice bi F.length bj)).setCell ⟨D, 3, none⟩ (.int .i64 O)).setCell ⟨D, 4, none⟩ (.bool L)).setCell ⟨D, 5, none⟩ (.bool M)) ?_; intro fh hw; replace Q : Aside0 (Kd.R k44 44 fh w.heap.size (fun _ => True) (.slice bi F.length bj) F) := ⟨(by rw [hw]; exact (by (with_reducible repeat apply pR); exact R_off Q.out q.out (by decide) off2_))⟩; replace b := Z (sM hw (blk_off b.out am.out off2_)); replace d := Z (sM hw (blk_off d.out an.out off2_)); replace m := Z (sM hw (blk_off m.out Y.out off2_)); replace q : Aside0 (fh.heap[D]? = some (.cells #[.int .i64 I, .int .i64 J, .slice bi F.length bj, .int .i64 O, .bool L, .bool M] 24 (0, 0))) := ⟨by rw [hw]; exact (put6 q.out)⟩; replace HB : Aside0 (Below w.heap.size w fh) := ⟨by rw [hw]; exact bl_⟩; clear hw; have xc := l.out; have xE := ae.out; obtain ⟨gz, gA, gB, gC, gD, gE, gF, gG, hT, hU, hV, hW, hX, hY, hZ, h0⟩ := cells8 d.out))
    have y := Z (Kd.R_drew Q.out)
    have z := Z (blk_drew b.out)
    have A := Z (blk_drew d.out)
    have B := Z (blk_drew m.out)
    have G := Z (blk_drew q.out)
    have P := Z (below_drew1 HB.out)
    clear Q
    clear b
    clear d
    clear m
    clear q
    clear HB
    have Q := y
    have b := z
    have d := A
    have m := B
    have q := G
    have HB := P
    clear y z A B G P
    refine start_ (n := 5) (S := fun w' => w'.cell? ⟨D, 0, none⟩ = some (.int .i64 I) ∧ w'.cell? ⟨D, 1, none⟩ = some (.int .i64 J) ∧ w'.cell? ⟨D, 2, none⟩ = some (.slice bi F.length bj) ∧ w'.cell? ⟨D, 3, none⟩ = some (.int .i64 O) ∧ w'.cell? ⟨D, 4, none⟩ = some (.bool L) ∧ w'.cell? ⟨D, 5, none⟩ = some (.bool M) ∧ w'.cell? ⟨ac, 0, none⟩ = some (.int .i64 ab) ∧ w'.cell? ⟨ac, 1, none⟩ = some (.slice aR ai.length aP) ∧ w'.cell? ⟨ac, 2, none⟩ = some (.bool ap) ∧ w'.cell? ⟨ac, 3, none⟩ = some (.bool aq) ∧ w'.cell? ⟨ac, 4, none⟩ = some (.int .i64 ar) ∧ w'.cell? ⟨ac, 5, none⟩ = some (.bool au) ∧ w'.cell? ⟨ac, 6, none⟩ = some (.int .i64 av) ∧ w'.cell? ⟨ac, 7, none⟩ = some (.int .u8 ak)) (ds := []) (bv 5 0) (by kernel_rfl) rfl rfl ⟨(blk_cell q.out 0).trans rfl, (blk_cell q.out 1).trans rfl, (blk_cell q.out 2).trans rfl, (blk_cell q.out 3).trans rfl, (blk_cell q.out 4).trans rfl, (blk_cell q.out 5).trans rfl, (blk_cell d.out 0).trans rfl, (blk_cell d.out 1).trans rfl, (blk_cell d.out 2).trans rfl, (blk_cell d.out 3).trans rfl, (blk_cell d.out 4).trans rfl, (blk_cell d.out 5).trans rfl, (blk_cell d.out 6).trans rfl, (blk_cell d.out 7).trans rfl⟩ (fun hHeld => ?_)
    generalize fh.drew = bB at Q b d m q HB hHeld ⊢
    refine pure_ (i := 1) (N := some 59) (v := ?_) (a' := ?_) (bv 5 2) rfl rfl (by kernel_rfl) (fun _ _ _ h => h) (Or.inl ⟨by rfl, ?_⟩) ?_ ?_
    rotate_left
    ·intro w'
     go_simp
     with_reducible rfl
    rotate_left
    ·simp only [Act.put, sA, sB, sC, i64_w, i32_w]
     rfl
    refine take_ (i := 0) (N := some 58) (v := ?_) (a' := ?_) (bv 5 3) rfl rfl (by kernel_rfl) (fun _ _ _ h => h) (Or.inl ⟨by rfl, ?_⟩) hHeld ?_ ?_
    rotate_left
    ·rintro w' ⟨s0, s1, s2, s3, s4, s5, s6, s7, s8, s9, b9, ca, cC, cD⟩
     go_simp
     with_reducible rfl
    rotate_left
    ·simp only [Act.put, sA, sB, sC, i64_w, i32_w]
     rfl
    refine take_ (i := 2) (N := some 60) (v := ?_) (a' := ?_) (bv 5 7) rfl rfl (by kernel_rfl) (fun _ _ _ h => h) (Or.inl ⟨by rfl, ?_⟩) hHeld ?_ ?_
    rotate_left
    ·rintro w' ⟨s0, s1, s2, s3, s4, s5, s6, s7, s8, s9, b9, ca, cC, cD⟩
     go_simp
     with_reducible rfl
    rotate_left
    ·simp only [Act.put, sA, sB, sC, i64_w, i32_w]
     rfl
    refine one_ (i := 3) (N := none) (bv 5 15) rfl rfl (by kernel_rfl) (by decide) (fun K hK => ?_)
    have xF : bB.cell? ⟨a, 0, none⟩ = some (.int .i64 0) := (blk_cell m.out 0).trans rfl
    have uf := blk_frozen m.out 0
    have rx := u.out
    have ry := l.out
    have rz := c.out
    have qQ := ad.out
    have qR := ae.out
    have qS := Y.out
    have xG : bB.cell? ⟨a, 1, none⟩ = some (.int .i64 0) := (blk_cell m.out 1).trans rfl
    have ug := blk_frozen m.out 1
    have rA := u.out
    have rB := l.out
    have rC := c.out
    have qT := ad.out
    have qU := ae.out
    have qW := Y.out
    have xH : bB.cell? ⟨a, 2, none⟩ = some (.slice none 0 0) := (blk_cell m.out 2).trans rfl
    have uh := blk_frozen m.out 2
    have rD := u.out
    have rE := l.out
    have rF := c.out
    have qX := ad.out
    have qY := ae.out
    have qZ := Y.out
    have xI : bB.cell? ⟨a, 3, none⟩ = some (.int .i64 0) := (blk_cell m.out 3).trans rfl
    have ui := blk_frozen m.out 3
    have rG := u.out
    have rH := l.out
    have rI := c.out
    have q0 := ad.out
    have q3 := ae.out
    have q4 := Y.out
    have xJ : bB.cell? ⟨a, 4, none⟩ = some (.bool false) := (blk_cell m.out 4).trans rfl
    have uj := blk_frozen m.out 4
    have rJ := u.out
    have rK := l.out
    have rL := c.out
    have q6 := ad.out
    have q7 := ae.out
    have q8 := Y.out
    have xK : bB.cell? ⟨a, 5, none⟩ = some (.bool false) := (blk_cell m.out 5).trans rfl
    have uk := blk_frozen m.out 5
    have rM := u.out
    have rN := l.out
    have rO := c.out
    have q9 := ad.out
    have ra := ae.out
    have rc := Y.out
    refine skip_ (w1 := ?_) (by rfl) rfl ?_ ?_
    rotate_left
    ·go_simp
     rfl
    refine hK.out _ _ ⟨((cell_far (p := ⟨a, _, none⟩) c.out _).trans (((cell_far (p := ⟨a, _, none⟩) c.out _).trans (((cell_far (p := ⟨a, _, none⟩) c.out _).trans (((cell_far (p := ⟨a, _, none⟩) c.out _).trans (((cell_far (p := ⟨a, _, none⟩) c.out _).trans (((cell_far (p := ⟨a, _, none⟩) c.out _).trans (hHeld.1)))))))))))), ((cell_far (p := ⟨a, _, none⟩) c.out _).trans (((cell_far (p := ⟨a, _, none⟩) c.out _).trans (((cell_far (p := ⟨a, _, none⟩) c.out _).trans (((cell_far (p := ⟨a, _, none⟩) c.out _).trans (((cell_far (p := ⟨a, _, none⟩) c.out _).trans (((cell_far (p := ⟨a, _, none⟩) c.out _).trans (hHeld.2.1)))))))))))), ((cell_far (p := ⟨a, _, none⟩) c.out _).trans (((cell_far (p := ⟨a, _, none⟩) c.out _).trans (((cell_far (p := ⟨a, _, none⟩) c.out _).trans (((cell_far (p := ⟨a, _, none⟩) c.out _).trans (((cell_far (p := ⟨a, _, none⟩) c.out _).trans (((cell_far (p := ⟨a, _, none⟩) c.out _).trans (hHeld.2.2.1)))))))))))), ((cell_far (p := ⟨a, _, none⟩) c.out _).trans (((cell_far (p := ⟨a, _, none⟩) c.out _).trans (((cell_far (p := ⟨a, _, none⟩) c.out _).trans (((cell_far (p := ⟨a, _, none⟩) c.out _).trans (((cell_far (p := ⟨a, _, none⟩) c.out _).trans (((cell_far (p := ⟨a, _, none⟩) c.out _).trans (hHeld.2.2.2.1)))))))))))), ((cell_far (p := ⟨a, _, none⟩) c.out _).trans (((cell_far (p := ⟨a, _, none⟩) c.out _).trans (((cell_far (p := ⟨a, _, none⟩) c.out _).trans (((cell_far (p := ⟨a, _, none⟩) c.out _).trans (((cell_far (p := ⟨a, _, none⟩) c.out _).trans (((cell_far (p := ⟨a, _, none⟩) c.out _).trans (hHeld.2.2.2.2.1)))))))))))), ((cell_far (p := ⟨a, _, none⟩) c.out _).trans (((cell_far (p := ⟨a, _, none⟩) c.out _).trans (((cell_far (p := ⟨a, _, none⟩) c.out _).trans (((cell_far (p := ⟨a, _, none⟩) c.out _).trans (((cell_far (p := ⟨a, _, none⟩) c.out _).trans (((cell_far (p := ⟨a, _, none⟩) c.out _).trans (hHeld.2.2.2.2.2.1)))))))))))), ((cell_far (p := ⟨a, _, none⟩) l.out _).trans (((cell_far (p := ⟨a, _, none⟩) l.out _).trans (((cell_far (p := ⟨a, _, none⟩) l.out _).trans (((cell_far (p := ⟨a, _, none⟩) l.out _).trans (((cell_far (p := ⟨a, _, none⟩) l.out _).trans (((cell_far (p := ⟨a, _, none⟩) l.out _).trans (hHeld.2.2.2.2.2.2.1)))))))))))), ((cell_far (p := ⟨a, _, none⟩) l.out _).trans (((cell_far (p := ⟨a, _, none⟩) l.out _).trans (((cell_far (p := ⟨a, _, none⟩) l.out _).trans (((cell_far (p := ⟨a, _, none⟩) l.out _).trans (((cell_far (p := ⟨a, _, none⟩) l.out _).trans (((cell_far (p := ⟨a, _, none⟩) l.out _).trans (hHeld.2.2.2.2.2.2.2.1)))))))))))), ((cell_far (p := ⟨a, _, none⟩) l.out _).trans (((cell_far (p := ⟨a, _, none⟩) l.out _).trans (((cell_far (p := ⟨a, _, none⟩) l.out _).trans (((cell_far (p := ⟨a, _, none⟩) l.out _).trans (((cell_far (p := ⟨a, _, none⟩) l.out _).trans (((cell_far (p := ⟨a, _, none⟩) l.out _).trans (hHeld.2.2.2.2.2.2.2.2.1)))))))))))), ((cell_far (p := ⟨a, _, none⟩) l.out _).trans (((cell_far (p := ⟨a, _, none⟩) l.out _).trans (((cell_far (p := ⟨a, _, none⟩) l.out _).trans (((cell_far (p := ⟨a, _, none⟩) l.out _).trans (((cell_far (p := ⟨a, _, none⟩) l.out _).trans (((cell_far (p := ⟨a, _, none⟩) l.out _).trans (hHeld.2.2.2.2.2.2.2.2.2.1)))))))))))), ((cell_far (p := ⟨a, _, none⟩) l.out _).trans (((cell_far (p := ⟨a, _, none⟩) l.out _).trans (((cell_far (p := ⟨a, _, none⟩) l.out _).trans (((cell_far (p := ⟨a, _, none⟩) l.out _).trans (((cell_far (p := ⟨a, _, none⟩) l.out _).trans (((cell_far (p := ⟨a, _, none⟩) l.out _).trans (hHeld.2.2.2.2.2.2.2.2.2.2.1)))))))))))), ((cell_far (p := ⟨a, _, none⟩) l.out _).trans (((cell_far (p := ⟨a, _, none⟩) l.out _).trans (((cell_far (p := ⟨a, _, none⟩) l.out _).trans (((cell_far (p := ⟨a, _, none⟩) l.out _).trans (((cell_far (p := ⟨a, _, none⟩) l.out _).trans (((cell_far (p := ⟨a, _, none⟩) l.out _).trans (hHeld.2.2.2.2.2.2.2.2.2.2.2.1)))))))))))), ((cell_far (p := ⟨a, _, none⟩) l.out _).trans (((cell_far (p := ⟨a, _, none⟩) l.out _).trans (((cell_far (p := ⟨a, _, none⟩) l.out _).trans (((cell_far (p := ⟨a, _, none⟩) l.out _).trans (((cell_far (p := ⟨a, _, none⟩) l.out _).trans (((cell_far (p := ⟨a, _, none⟩) l.out _).trans (hHeld.2.2.2.2.2.2.2.2.2.2.2.2.1)))))))))))), ((cell_far (p := ⟨a, _, none⟩) l.out _).trans (((cell_far (p := ⟨a, _, none⟩) l.out _).trans (((cell_far (p := ⟨a, _, none⟩) l.out _).trans (((cell_far (p := ⟨a, _, none⟩) l.out _).trans (((cell_far (p := ⟨a, _, none⟩) l.out _).trans (((cell_far (p := ⟨a, _, none⟩) l.out _).trans (hHeld.2.2.2.2.2.2.2.2.2.2.2.2.2))))))))))))⟩ (fun hHeld => ?_)
    clear hK K
    refine pure_ (i := 4) (N := some 7) (v := ?_) (a' := ?_) (bv 5 31) rfl rfl (by kernel_rfl) (fun _ _ _ h => h) (Or.inl ⟨by rfl, ?_⟩) ?_ ?_
    rotate_left
    ·intro w'
     go_simp
     with_reducible rfl
    rotate_left
    ·simp only [Act.put, sA, sB, sC, i64_w, i32_w]
     rfl
    refine done_ (by kernel_rfl) ?_
    have y : Aside0 (Kd.R k44 44 ((((((bB.setCell ⟨a, 0, none⟩ (.int .i64 I)).setCell ⟨a, 1, none⟩ (.int .i64 J)).setCell ⟨a, 2, none⟩ (.slice bi F.length bj)).setCell ⟨a, 3, none⟩ (.int .i64 O)).setCell ⟨a, 4, none⟩ (.bool L)).setCell ⟨a, 5, none⟩ (.bool M)) w.heap.size (fun _ => True) (.slice bi F.length bj) F) := ⟨by (with_reducible repeat apply pR); exact Kd.R_mono (f6R a (Kd.R_types Q.out m.out (by decide)) (fun _ hk => hk.2)) (fun _ hk => trivial)⟩
    have z : Aside0 (((((((bB.setCell ⟨a, 0, none⟩ (.int .i64 I)).setCell ⟨a, 1, none⟩ (.int .i64 J)).setCell ⟨a, 2, none⟩ (.slice bi F.length bj)).setCell ⟨a, 3, none⟩ (.int .i64 O)).setCell ⟨a, 4, none⟩ (.bool L)).setCell ⟨a, 5, none⟩ (.bool M)).heap[ah]? = some (.cells #[.int .i64 T, .int .i64 U, .slice aF E.length aA, .int .i64 V, .bool W, .bool X] 24 (0, 0))) := ⟨blk_off b.out u.out off2_⟩
    have A : Aside0 (((((((bB.setCell ⟨a, 0, none⟩ (.int .i64 I)).setCell ⟨a, 1, none⟩ (.int .i64 J)).setCell ⟨a, 2, none⟩ (.slice bi F.length bj)).setCell ⟨a, 3, none⟩ (.int .i64 O)).setCell ⟨a, 4, none⟩ (.bool L)).setCell ⟨a, 5, none⟩ (.bool M)).heap[ac]? = some (.cells #[.int .i64 ab, .slice aR ai.length aP, .bool ap, .bool aq, .int .i64 ar, .bool au, .int .i64 av, .int .u8 ak] 30 (0, 0))) := ⟨blk_off d.out l.out off2_⟩
    have B : Aside0 (((((((bB.setCell ⟨a, 0, none⟩ (.int .i64 I)).setCell ⟨a, 1, none⟩ (.int .i64 J)).setCell ⟨a, 2, none⟩ (.slice bi F.length bj)).setCell ⟨a, 3, none⟩ (.int .i64 O)).setCell ⟨a, 4, none⟩ (.bool L)).setCell ⟨a, 5, none⟩ (.bool M)).heap[a]? = some (.cells #[.int .i64 I, .int .i64 J, .slice bi F.length bj, .int .i64 O, .bool L, .bool M] 24 (0, 0))) := ⟨put6 m.out⟩
    have G : Aside0 (((((((bB.setCell ⟨a, 0, none⟩ (.int .i64 I)).setCell ⟨a, 1, none⟩ (.int .i64 J)).setCell ⟨a, 2, none⟩ (.slice bi F.length bj)).setCell ⟨a, 3, none⟩ (.int .i64 O)).setCell ⟨a, 4, none⟩ (.bool L)).setCell ⟨a, 5, none⟩ (.bool M)).heap[D]? = some (.cells #[.int .i64 I, .int .i64 J, .slice bi F.length bj, .int .i64 O, .bool L, .bool M] 24 (0, 0))) := ⟨blk_off q.out c.out off2_⟩
    have P : Aside0 (Below w.heap.size w ((((((bB.setCell ⟨a, 0, none⟩ (.int .i64 I)).setCell ⟨a, 1, none⟩ (.int .i64 J)).setCell ⟨a, 2, none⟩ (.slice bi F.length bj)).setCell ⟨a, 3, none⟩ (.int .i64 O)).setCell ⟨a, 4, none⟩ (.bool L)).setCell ⟨a, 5, none⟩ (.bool M))) := ⟨bl_⟩
    (try clear Q)
    (try clear b)
    (try clear d)
    (try clear m)
    (try clear q)
    (try clear HB)
    generalize ((((((bB.setCell ⟨a, 0, none⟩ (.int .i64 I)).setCell ⟨a, 1, none⟩ (.int .i64 J)).setCell ⟨a, 2, none⟩ (.slice bi F.length bj)).setCell ⟨a, 3, none⟩ (.int .i64 O)).setCell ⟨a, 4, none⟩ (.bool L)).setCell ⟨a, 5, none⟩ (.bool M)) = yK at y z A B G P ⊢
    have Q := y
    have b := z
    have d := A
    have m := B
    have q := G
    have HB := P
    clear y z A B G P
    try go_wp2
    refine bodyPost_ret (results_ct rfl _ _ a 24 #[.int .i64 I, .int .i64 J, .slice bi F.length bj, .int .i64 O, .bool L, .bool M] (0, 0) _ rfl (vK m.out) Tryd.underlying24 rfl (by kernel_rfl)) rfl ?_
    exact ⟨_, er_, by (with_reducible repeat apply pR); exact Q.out, bl_⟩
   ·rw [if_neg cx] at H
    have io : (ab == 3) = false := beq_eq_false_iff_ne.mpr cx
    have ip : (ab != 3) = true := bne_iff_ne.mpr cx
    by_cases bY : ab = 4
    ·rw [if_pos bY] at H
     have cR : (ab == 4) = true := beq_iff_eq.mpr bY
     have cS : (ab != 4) = false := bne_eq_false_iff_eq.mpr bY
     clear bY
     simp only [Option.some.injEq, Prod.mk.injEq] at H
     obtain ⟨rfl, rfl, rfl, rfl, rfl, rfl, rfl⟩ := H
     go_enter Tryd.func20, Tryd.ntmps20
     go_wp2_with (first | ((with_reducible refine gate_dst (N := 3) rfl ?_); refine bx_ 3 24 #[.int .i64 T, .int .i64 U, .slice aF E.length aA, .int .i64 V, .bool W, .bool X] ?_; intro ah hg yL hbox hb; have b := Z (hbox); have cp := Z (ln_ hg : w.heap.size ≤ ah); have bQ := Z (ln_ hg : w.heap.size ≤ ah); replace HB := Z (below_step bl_ hb); clear hb hbox hg) | ((with_reducible refine gate_dst (N := 5) rfl ?_); refine bx_ 5 30 #[.int .i64 ab, .slice aR ai.length aP, .bool ap, .bool aq, .int .i64 ar, .bool au, .int .i64 av, .int .u8 ak] ?_; intro ac hg yM hbox hb; have d := Z (hbox); have cq := Z (ln_ hg : w.heap.size ≤ ac); have bR := Z (ln_ hg : w.heap.size ≤ ac); replace HB := Z (below_step bl_ hb); have ax := Z (nl b.out hg); have ay := Z (ng b.out hg); replace b := Z (kb b.out hb); clear hb hbox hg) | ((with_reducible refine gate_dst (N := 6) rfl ?_); refine bx_ 6 24 #[.int .i64 0, .int .i64 0, .slice none 0 0, .int .i64 0, .bool false, .bool false] ?_; intro a hg yN hbox hb; have m := Z (hbox); have cr := Z (ln_ hg : w.heap.size ≤ a); have bS := Z (ln_ hg : w.heap.size ≤ a); replace HB := Z (below_step bl_ hb); have u := Z (nl b.out hg); have ad := Z (ng b.out hg); replace b := Z (kb b.out hb); have l := Z (nl d.out hg); have ae := Z (ng d.out hg); replace d := Z (kb d.out hb); clear hb hbox hg; have ur := ax.out; have vn := ay.out; have us := u.out; have vo := ad.out; obtain ⟨df, dg, dh, di, dj, dk, d7, d8, d9, ea, eb, ec⟩ := cells6 b.out) | ((with_reducible refine gate_callee (f := 25) rfl ?_); refine goesL_ (some 15) rfl rfl Tryd.func25 (by kernel_rfl) rfl #[.agg #[.int .i64 T, .int .i64 U, .slice aF E.length aA, .int .i64 V, .bool W, .bool X]] rfl ag_ ?_; (with_reducible refine (shutterref10_Copy.calls T U _ _ E V W X I J F O L M _ ?side1 ?side2 A4.out).mono ?_); (case side1 => repeat (first | exact (Kd.C_below aQ.out HB.out) | (with_reducible apply pC))); (case side2 => exact a7.out); rintro e yO ⟨ff, rfl, bn, hb⟩; refine ⟨_, rfl, ?_⟩; have Q := Z (Kd.R_lower bn (below_size bl_)); replace b := Z (kb b.out hb); replace d := Z (kb d.out hb); replace m := Z (kb m.out hb); replace HB := Z (below_step bl_ hb); (try clear hb); (try clear bU); (try clear hk); (try clear hi); (try clear bn)) | ((with_reducible refine gate_dst (N := 8) rfl ?_); refine bx_ 8 24 #[.int .i64 0, .int .i64 0, .slice none 0 0, .int .i64 0, .bool false, .bool false] ?_; intro D hg si hbox hb; replace Q := Z (rb Q.out hb); have q := Z (hbox); have ct := Z (ln_ hg : w.heap.size ≤ D); have bT := Z (ln_ hg : w.heap.size ≤ D); replace HB := Z (below_step bl_ hb); have am := Z (nl b.out hg); have aG := Z (ng b.out hg); replace b := Z (kb b.out hb); have an := Z (nl d.out hg); have aH := Z (ng d.out hg); replace d := Z (kb d.out hb); have Y := Z (nl m.out hg); have c := Z (ng m.out hg); replace m := Z (kb m.out hb); clear hb hbox hg; have ut := aG.out; have vp := am.out; have uu := aH.out; have vq := an.out; have uv := c.out; have vr := Y.out; obtain ⟨dl, dm, dn, dp, dq, dr, ed, ee, ef, eg, eh, ei⟩ := cells6 q.out; obtain ⟨bg, bh, pe⟩ := Kd.R_slice Q.out; subst pe) | ((with_reducible refine gate_store (t := 24) (p := 8) rfl ?_); refine sx_ 24 8 ((((((si.setCell ⟨D, 0, none⟩ (.int .i64 I)).setCell ⟨D, 1, none⟩ (.int .i64 J)).setCell ⟨D, 2, none⟩ (.slice bg F.length bh)).setCell ⟨D, 3, none⟩ (.int .i64 O)).setCell ⟨D, 4, none⟩ (.bool L)).setCell ⟨D, 5, none⟩ (.bool M)) ?_; intro co hw; replace Q : Aside0 (Kd.R k44 44 co w.heap.size (fun _ => True) (.slice bg F.length bh) F) := ⟨(by rw [hw]; exact (by (with_reducible repeat apply pR); exact R_off Q.out q.out (by decide) off2_))⟩; replace b := Z (sM hw (blk_off b.out am.out off2_)); replace d := Z (sM hw (blk_off d.out an.out off2_)); replace m := Z (sM hw (blk_off m.out Y.out off2_)); replace q : Aside0 (co.heap[D]? = some (.cells #[.int .i64 I, .int .i64 J, .slice bg F.length bh, .int .i64 O, .bool L, .bool M] 24 (0, 0))) := ⟨by rw [hw]; exact (put6 q.out)⟩; replace HB : Aside0 (Below w.heap.size w co) := ⟨by rw [hw]; exact bl_⟩; clear hw; have uw := l.out; have vs := ae.out; obtain ⟨dt, du, dv, dw, dx, dy, dz, dA, ej, ek, el, em, en, eo, ep, eq⟩ := cells8 d.out; obtain ⟨dB, dC, dD, dE, dF, dG, er, es, et, eu, ev, ew⟩ := cells6 q.out; obtain ⟨dH, dI, dJ, dK, dL, dM, ex, ey, ez, eA, eB, eC⟩ := cells6 m.out) | ((with_reducible refine gate_store (t := 24) (p := 6) rfl ?_); refine sx_ 24 6 (((((((co.setCell ⟨D, 3, none⟩ (.int .i64 a1)).setCell ⟨a, 0, none⟩ (.int .i64 I)).setCell ⟨a, 1, none⟩ (.int .i64 J)).setCell ⟨a, 2, none⟩ (.slice bg F.length bh)).setCell ⟨a, 3, none⟩ (.int .i64 a1)).setCell ⟨a, 4, none⟩ (.bool L)).setCell ⟨a, 5, none⟩ (.bool M)) ?_; intro cH hw; replace Q : Aside0 (Kd.R k44 44 cH w.heap.size (fun _ => True) (.slice bg F.length bh) F) := ⟨(by rw [hw]; exact (by (with_reducible repeat apply pR); exact Kd.R_mono (f6R a (Kd.R_far (p := ⟨D, 3, none⟩) (Kd.R_types (Kd.R_types Q.out q.out (by decide)) m.out (by decide)) (fun _ hk => hk.1.2) (.int .i64 a1)) (fun _ hk => hk.2)) (fun _ hk => trivial)))⟩; replace b : Aside0 (cH.heap[ah]? = some (.cells #[.int .i64 T, .int .i64 U, .slice aF E.length aA, .int .i64 V, .bool W, .bool X] 24 (0, 0))) := ⟨(by rw [hw]; exact (by (with_reducible repeat apply pK); refine blk_far ?_ u.out _; (with_reducible repeat apply pK); refine blk_far ?_ u.out _; (with_reducible repeat apply pK); refine blk_far ?_ u.out _; (with_reducible repeat apply pK); refine blk_far ?_ u.out _; (with_reducible repeat apply pK); refine blk_far ?_ u.out _; (with_reducible repeat apply pK); refine blk_far ?_ u.out _; (with_reducible repeat apply pK); refine blk_far ?_ am.out _; (with_reducible repeat apply pK); exact b.out))⟩; replace d : Aside0 (cH.heap[ac]? = some (.cells #[.int .i64 ab, .slice aR ai.length aP, .bool ap, .bool aq, .int .i64 ar, .bool au, .int .i64 av, .int .u8 ak] 30 (0, 0))) := ⟨(by rw [hw]; exact (by (with_reducible repeat apply pK); refine blk_far ?_ l.out _; (with_reducible repeat apply pK); refine blk_far ?_ l.out _; (with_reducible repeat apply pK); refine blk_far ?_ l.out _; (with_reducible repeat apply pK); refine blk_far ?_ l.out _; (with_reducible repeat apply pK); refine blk_far ?_ l.out _; (with_reducible repeat apply pK); refine blk_far ?_ l.out _; (with_reducible repeat apply pK); refine blk_far ?_ an.out _; (with_reducible repeat apply pK); exact d.out))⟩; replace m : Aside0 (cH.heap[a]? = some (.cells #[.int .i64 I, .int .i64 J, .slice bg F.length bh, .int .i64 a1, .bool L, .bool M] 24 (0, 0))) := ⟨(by rw [hw]; exact (by (with_reducible repeat apply pK); refine blk_put (cs := #[.int .i64 I, .int .i64 J, .slice bg F.length bh, .int .i64 a1, .bool L, .bool false]) ?_ 5 _ rfl; (with_reducible repeat apply pK); refine blk_put (cs := #[.int .i64 I, .int .i64 J, .slice bg F.length bh, .int .i64 a1, .bool false, .bool false]) ?_ 4 _ rfl; (with_reducible repeat apply pK); refine blk_put (cs := #[.int .i64 I, .int .i64 J, .slice bg F.length bh, .int .i64 0, .bool false, .bool false]) ?_ 3 _ rfl; (with_reducible repeat apply pK); refine blk_put (cs := #[.int .i64 I, .int .i64 J, .slice none 0 0, .int .i64 0, .bool false, .bool false]) ?_ 2 _ rfl; (with_reducible repeat apply pK); refine blk_put (cs := #[.int .i64 I, .int .i64 0, .slice none 0 0, .int .i64 0, .bool false, .bool false]) ?_ 1 _ rfl; (with_reducible repeat apply pK); refine blk_put (cs := #[.int .i64 0, .int .i64 0, .slice none 0 0, .int .i64 0, .bool false, .bool false]) ?_ 0 _ rfl; (with_reducible repeat apply pK); refine blk_far ?_ Y.out _; (with_reducible repeat apply pK); exact m.out))⟩; replace q : Aside0 (cH.heap[D]? = some (.cells #[.int .i64 I, .int .i64 J, .slice bg F.length bh, .int .i64 a1, .bool L, .bool M] 24 (0, 0))) := ⟨(by rw [hw]; exact (by (with_reducible repeat apply pK); refine blk_far ?_ c.out _; (with_reducible repeat apply pK); refine blk_far ?_ c.out _; (with_reducible repeat apply pK); refine blk_far ?_ c.out _; (with_reducible repeat apply pK); refine blk_far ?_ c.out _; (with_reducible repeat apply pK); refine blk_far ?_ c.out _; (with_reducible repeat apply pK); refine blk_far ?_ c.out _; (with_reducible repeat apply pK); refine blk_put (cs := #[.int .i64 I, .int .i64 J, .slice bg F.length bh, .int .i64 O, .bool L, .bool M]) ?_ 3 _ rfl; (with_reducible repeat apply pK); exact q.out))⟩; replace HB : Aside0 (Below w.heap.size w cH) := ⟨by rw [hw]; exact bl_⟩; clear hw))
     refine bodyPost_ret (results_ct rfl _ _ a 24 #[.int .i64 I, .int .i64 J, .slice bg F.length bh, .int .i64 a1, .bool L, .bool M] (0, 0) _ rfl (vK m.out) Tryd.underlying24 rfl (by kernel_rfl)) rfl ?_
     exact ⟨_, er_, by (with_reducible repeat apply pR); exact Q.out, bl_⟩
    ·rw [if_neg bY] at H
     have cR : (ab == 4) = false := beq_eq_false_iff_ne.mpr bY
     have cS : (ab != 4) = true := bne_iff_ne.mpr bY
     by_cases bZ : ab = 5
     ·rw [if_pos bZ] at H
      have cT : (ab == 5) = true := beq_iff_eq.mpr bZ
      have cU : (ab != 5) = false := bne_eq_false_iff_eq.mpr bZ
      clear bZ
      have H' := Z H
      clear H
      go_enter Tryd.func20, Tryd.ntmps20
      go_wp2_with (first | ((with_reducible refine gate_dst (N := 3) rfl ?_); refine bx_ 3 24 #[.int .i64 T, .int .i64 U, .slice aF E.length aA, .int .i64 V, .bool W, .bool X] ?_; intro ah hg yP hbox hb; have b := Z (hbox); have cp := Z (ln_ hg : w.heap.size ≤ ah); have bQ := Z (ln_ hg : w.heap.size ≤ ah); replace HB := Z (below_step bl_ hb); clear hb hbox hg) | ((with_reducible refine gate_dst (N := 5) rfl ?_); refine bx_ 5 30 #[.int .i64 ab, .slice aR ai.length aP, .bool ap, .bool aq, .int .i64 ar, .bool au, .int .i64 av, .int .u8 ak] ?_; intro ac hg yQ hbox hb; have d := Z (hbox); have cq := Z (ln_ hg : w.heap.size ≤ ac); have bR := Z (ln_ hg : w.heap.size ≤ ac); replace HB := Z (below_step bl_ hb); have ax := Z (nl b.out hg); have ay := Z (ng b.out hg); replace b := Z (kb b.out hb); clear hb hbox hg) | ((with_reducible refine gate_dst (N := 6) rfl ?_); refine bx_ 6 24 #[.int .i64 0, .int .i64 0, .slice none 0 0, .int .i64 0, .bool false, .bool false] ?_; intro a hg yR hbox hb; have m := Z (hbox); have cr := Z (ln_ hg : w.heap.size ≤ a); have bS := Z (ln_ hg : w.heap.size ≤ a); replace HB := Z (below_step bl_ hb); have u := Z (nl b.out hg); have ad := Z (ng b.out hg); replace b := Z (kb b.out hb); have l := Z (nl d.out hg); have ae := Z (ng d.out hg); replace d := Z (kb d.out hb); clear hb hbox hg; have ux := ax.out; have vt := ay.out; have uy := u.out; have vu := ad.out; obtain ⟨dN, dO, dP, dQ, dR, dS, eD, eE, eF, eG, eH, eI⟩ := cells6 b.out) | ((with_reducible refine gate_callee (f := 25) rfl ?_); refine goesL_ (some 15) rfl rfl Tryd.func25 (by kernel_rfl) rfl #[.agg #[.int .i64 T, .int .i64 U, .slice aF E.length aA, .int .i64 V, .bool W, .bool X]] rfl ag_ ?_; (with_reducible refine (shutterref10_Copy.calls T U _ _ E V W X I J F O L M _ ?side1 ?side2 A4.out).mono ?_); (case side1 => repeat (first | exact (Kd.C_below aQ.out HB.out) | (with_reducible apply pC))); (case side2 => exact a7.out); rintro e yS ⟨ff, rfl, bn, hb⟩; refine ⟨_, rfl, ?_⟩; have Q := Z (Kd.R_lower bn (below_size bl_)); replace b := Z (kb b.out hb); replace d := Z (kb d.out hb); replace m := Z (kb m.out hb); replace HB := Z (below_step bl_ hb); (try clear hb); (try clear bU); (try clear hk); (try clear hi); (try clear bn)) | ((with_reducible refine gate_dst (N := 8) rfl ?_); refine bx_ 8 24 #[.int .i64 0, .int .i64 0, .slice none 0 0, .int .i64 0, .bool false, .bool false] ?_; intro D hg sj hbox hb; replace Q := Z (rb Q.out hb); have q := Z (hbox); have ct := Z (ln_ hg : w.heap.size ≤ D); have bT := Z (ln_ hg : w.heap.size ≤ D); replace HB := Z (below_step bl_ hb); have am := Z (nl b.out hg); have aG := Z (ng b.out hg); replace b := Z (kb b.out hb); have an := Z (nl d.out hg); have aH := Z (ng d.out hg); replace d := Z (kb d.out hb); have Y := Z (nl m.out hg); have c := Z (ng m.out hg); replace m := Z (kb m.out hb); clear hb hbox hg; have uz := aG.out; have vv := am.out; have uA := aH.out; have vw := an.out; have uB := c.out; have vx := Y.out; obtain ⟨dT, dU, dV, dW, dX, dY, eJ, eK, eL, eM, eN, eO⟩ := cells6 q.out; obtain ⟨a5, a8, pf⟩ := Kd.R_slice Q.out; subst pf) | ((with_reducible refine gate_store (t := 24) (p := 8) rfl ?_); refine sx_ 24 8 ((((((sj.setCell ⟨D, 0, none⟩ (.int .i64 I)).setCell ⟨D, 1, none⟩ (.int .i64 J)).setCell ⟨D, 2, none⟩ (.slice a5 F.length a8)).setCell ⟨D, 3, none⟩ (.int .i64 O)).setCell ⟨D, 4, none⟩ (.bool L)).setCell ⟨D, 5, none⟩ (.bool M)) ?_; intro cI hw; replace Q : Aside0 (Kd.R k44 44 cI w.heap.size (fun _ => True) (.slice a5 F.length a8) F) := ⟨(by rw [hw]; exact (by (with_reducible repeat apply pR); exact R_off Q.out q.out (by decide) off2_))⟩; replace b := Z (sM hw (blk_off b.out am.out off2_)); replace d := Z (sM hw (blk_off d.out an.out off2_)); replace m := Z (sM hw (blk_off m.out Y.out off2_)); replace q : Aside0 (cI.heap[D]? = some (.cells #[.int .i64 I, .int .i64 J, .slice a5 F.length a8, .int .i64 O, .bool L, .bool M] 24 (0, 0))) := ⟨by rw [hw]; exact (put6 q.out)⟩; replace HB : Aside0 (Below w.heap.size w cI) := ⟨by rw [hw]; exact bl_⟩; clear hw; have uC := l.out; have vy := ae.out; obtain ⟨dZ, d0, d1, d2, d3, d4, d5, d6, eP, eQ, eR, eS, eT, eU, eV, eW⟩ := cells8 d.out))
      go_loopg [10] k (fun kq wg w' => ∃ (ag : Int) (bC : Int) (bD : Int) (bE : Int) (bF : Bool) (bG : Bool), wg = .int .i64 ag ∧ Aside0 (shutterref12_One.l1 kq ag T U E V W X I J F O L M = some (r1, r2, r3, r4, r5, r6, r7)) ∧ Aside0 (kq ≤ k) ∧ Aside0 (Kd.R k44 44 w' w.heap.size (fun _ => True) (.slice a5 F.length a8) F) ∧ Aside0 (w'.heap[ah]? = some (.cells #[.int .i64 T, .int .i64 U, (.slice aF E.length aA), .int .i64 V, .bool W, .bool X] 24 (0, 0))) ∧ Aside0 (w'.heap[ac]? = some (.cells #[.int .i64 ab, (.slice aR ai.length aP), .bool ap, .bool aq, .int .i64 ar, .bool au, .int .i64 av, .int .u8 ak] 30 (0, 0))) ∧ Aside0 (w'.heap[a]? = some (.cells #[.int .i64 bC, .int .i64 bD, (.slice none 0 0), .int .i64 bE, .bool bF, .bool bG] 24 (0, 0))) ∧ Aside0 (w'.heap[D]? = some (.cells #[.int .i64 I, .int .i64 J, (.slice a5 F.length a8), .int .i64 O, .bool L, .bool M] 24 (0, 0))) ∧ Aside0 (Below w.heap.size w w'))
      case atStart => exact ⟨(a1), (0), (0), (0), (false), (false), (dn_), H', ⟨Nat.le_refl _⟩, ⟨by (with_reducible repeat apply pR); exact Q.out⟩, ⟨vK b.out⟩, ⟨vK d.out⟩, ⟨vK m.out⟩, ⟨vK q.out⟩, ⟨bl_⟩⟩
      case round =>
       clear H'
       try clear c1
       try clear c2
       try clear p2
       try clear q2
       try clear wd
       try clear c3
       try clear c4
       try clear c5
       try clear iL
       try clear iM
       try clear p5
       try clear q5
       try clear we
       try clear t7
       try clear c6
       try clear p6
       try clear c7
       try clear wf
       try clear ue
       try clear c8
       try clear c9
       try clear c10
       try clear tv
       try clear tw
       try clear tx
       try clear pr
       try clear ps
       try clear cM
       try clear ih
       try clear fi
       try clear c24
       try clear fj
       try clear tG
       try clear p26
       try clear e9
       try clear se
       try clear qn
       try clear tH
       try clear tI
       try clear tJ
       try clear tK
       try clear tL
       try clear tM
       try clear tN
       try clear tO
       try clear tP
       try clear cw
       try clear il
       try clear im
       try clear fk
       try clear m0
       try clear fl
       try clear m1
       try clear tQ
       try clear p53
       try clear fa
       try clear sf
       try clear qo
       try clear tR
       try clear tS
       try clear tT
       try clear tU
       try clear p64
       try clear tV
       try clear tW
       try clear tX
       try clear sg
       try clear qp
       try clear cx
       try clear io
       try clear ip
       try clear tY
       try clear tZ
       try clear t0
       try clear t1
       try clear t2
       try clear t3
       try clear bY
       try clear cR
       try clear cS
       try clear py
       try clear pz
       try clear pA
       try clear pB
       try clear pD
       try clear pE
       try clear bZ
       try clear cT
       try clear cU
       try clear pF
       try clear pG
       try clear pH
       try clear pI
       try clear pJ
       try clear pL
       try clear df
       try clear dg
       try clear dh
       try clear di
       try clear dj
       try clear dk
       try clear dl
       try clear dm
       try clear dn
       try clear dp
       try clear dq
       try clear dr
       try clear dt
       try clear du
       try clear dv
       try clear dw
       try clear dx
       try clear dy
       try clear dz
       try clear dA
       try clear dB
       try clear dC
       try clear dD
       try clear dE
       try clear dF
       try clear dG
       try clear dH
       try clear dI
       try clear dJ
       try clear dK
       try clear dL
       try clear dM
       try clear dN
       try clear dO
       try clear dP
       try clear dQ
       try clear dR
       try clear dS
       try clear dT
       try clear dU
       try clear dV
       try clear dW
       try clear dX
       try clear dY
       try clear dZ
       try clear d0
       try clear d1
       try clear d2
       try clear d3
       try clear d4
       try clear d5
       try clear d6
       try clear fm
       try clear fn
       try clear fo
       try clear fp
       try clear fq
       try clear fr
       try clear fs
       try clear ft
       try clear fu
       try clear fv
       try clear fw
       try clear fx
       try clear fy
       try clear fz
       try clear fA
       try clear fB
       try clear fC
       try clear fD
       try clear fE
       try clear fF
       try clear fG
       try clear fH
       try clear fI
       try clear fJ
       try clear fK
       try clear fL
       try clear fM
       try clear fN
       try clear fO
       try clear fP
       try clear fQ
       try clear fR
       try clear fS
       try clear fT
       try clear fU
       try clear fV
       try clear fW
       try clear fX
       try clear fY
       try clear fZ
       try clear ga
       try clear gb
       try clear gc
       try clear gd
       try clear ge
       try clear gf
       try clear gg
       try clear gh
       try clear gi
       try clear gj
       try clear gl
       try clear gm
       try clear gn
       try clear go
       try clear gp
       try clear gq
       try clear gr
       try clear gs
       try clear gt
       try clear gu
       try clear gv
       try clear gw
       try clear gx
       try clear gy
       try clear gz
       try clear gA
       try clear gB
       try clear gC
       try clear gD
       try clear gE
       try clear gF
       try clear gG
       try clear d7
       try clear d8
       try clear d9
       try clear ea
       try clear eb
       try clear ec
       try clear ed
       try clear ee
       try clear ef
       try clear eg
       try clear eh
       try clear ei
       try clear ej
       try clear ek
       try clear el
       try clear em
       try clear en
       try clear eo
       try clear ep
       try clear eq
       try clear er
       try clear es
       try clear et
       try clear eu
       try clear ev
       try clear ew
       try clear ex
       try clear ey
       try clear ez
       try clear eA
       try clear eB
       try clear eC
       try clear eD
       try clear eE
       try clear eF
       try clear eG
       try clear eH
       try clear eI
       try clear eJ
       try clear eK
       try clear eL
       try clear eM
       try clear eN
       try clear eO
       try clear eP
       try clear eQ
       try clear eR
       try clear eS
       try clear eT
       try clear eU
       try clear eV
       try clear eW
       try clear gH
       try clear gI
       try clear gJ
       try clear gK
       try clear gL
       try clear gM
       try clear gN
       try clear gO
       try clear gP
       try clear gQ
       try clear gR
       try clear gS
       try clear gT
       try clear gU
       try clear gV
       try clear gW
       try clear gX
       try clear gY
       try clear gZ
       try clear g0
       try clear g1
       try clear g2
       try clear g3
       try clear g4
       try clear g5
       try clear g6
       try clear g7
       try clear g8
       try clear g9
       try clear ha
       try clear hc
       try clear he
       try clear hf
       try clear hh
       try clear hj
       try clear hl
       try clear hm
       try clear hp
       try clear hq
       try clear hs
       try clear ht
       try clear hu
       try clear hv
       try clear hx
       try clear hy
       try clear hz
       try clear hA
       try clear hB
       try clear hC
       try clear hD
       try clear hE
       try clear hF
       try clear hG
       try clear hH
       try clear hI
       try clear hJ
       try clear hL
       try clear hM
       try clear hN
       try clear hO
       try clear hP
       try clear hQ
       try clear hR
       try clear hS
       try clear hT
       try clear hU
       try clear hV
       try clear hW
       try clear hX
       try clear hY
       try clear hZ
       try clear h0
       try clear br
       try clear eX
       try clear eY
       try clear eZ
       try clear e0
       try clear e1
       try clear e2
       try clear iA
       try clear iB
       try clear iC
       try clear iD
       try clear iE
       try clear iF
       try clear e3
       try clear e4
       try clear e5
       try clear e6
       try clear e7
       try clear e8
       try clear p26
       try clear p53
       try clear e9
       try clear fa
       obtain ⟨ag, bC, bD, bE, bF, bG, rfl, HA, bJ, HO_265002, b, d, m, q, HB⟩ := hrel
       cases gk with
       | zero => exact absurd HA.out (by simp [shutterref12_One.l1])
       | succ k1 =>
        have H := HA.out
        clear HA
        simp only [shutterref12_One.l1] at H
        by_cases cj : ag < (E.length : Int)
        ·rw [if_pos cj] at H
         have iv : decide (ag < (E.length : Int)) = true := decide_eq_true cj
         clear cj
         replace H := Option.bind_eq_some_iff.mp H
         obtain ⟨aJ, mN, H⟩ := H
         replace H : (if 0 ≤ ag then (if (rd_T44 E ag).f0 = true then (if ((rd_T44 E ag).f1.f0 = true) then (shutterref12_One.l1 k1 (wrap64 (ag + 1)) T U E V W X I J F O L M) else (if 0 ≤ aJ then (if aJ < (E.length : Int) then (if ((rd_T44 E aJ).f0 = true) then (shutterref12_One.l1 k1 (wrap64 (ag + 1)) T U E V W X I J F O L M) else (some (I, J, F, O, L, M, aJ))) else (none)) else (none))) else (shutterref12_One.l1 k1 (wrap64 (ag + 1)) T U E V W X I J F O L M)) else (none)) = some (r1, r2, r3, r4, r5, r6, r7) := H
         have h6 := Z mN
         clear mN
         by_cases cV : 0 ≤ ag
         ·rw [if_pos cV] at H
          have ox : decide (0 ≤ ag) = true := decide_eq_true cV
          clear cV
          obtain ⟨mX, dc⟩ : ∃ b_ : Bool, b_ = ((rd_T44 E ag).f0) := ⟨_, rfl⟩
          replace H : (if mX = true then (if ((rd_T44 E ag).f1.f0 = true) then (shutterref12_One.l1 k1 (wrap64 (ag + 1)) T U E V W X I J F O L M) else (if 0 ≤ aJ then (if aJ < (E.length : Int) then (if ((rd_T44 E aJ).f0 = true) then (shutterref12_One.l1 k1 (wrap64 (ag + 1)) T U E V W X I J F O L M) else (some (I, J, F, O, L, M, aJ))) else (none)) else (none))) else (shutterref12_One.l1 k1 (wrap64 (ag + 1)) T U E V W X I J F O L M)) = some (r1, r2, r3, r4, r5, r6, r7) := by rw [← dc] at H; exact H
          have ao := Z dc
          clear dc
          by_cases cW : mX = true
          ·subst cW
           have H1 : (if ((rd_T44 E ag).f1.f0 = true) then (shutterref12_One.l1 k1 (wrap64 (ag + 1)) T U E V W X I J F O L M) else (if 0 ≤ aJ then (if aJ < (E.length : Int) then (if ((rd_T44 E aJ).f0 = true) then (shutterref12_One.l1 k1 (wrap64 (ag + 1)) T U E V W X I J F O L M) else (some (I, J, F, O, L, M, aJ))) else (none)) else (none))) = some (r1, r2, r3, r4, r5, r6, r7) := by rw [if_pos rfl] at H; exact H
           clear H
           have H := H1
           clear H1
           obtain ⟨mY, dd⟩ : ∃ b_ : Bool, b_ = ((rd_T44 E ag).f1.f0) := ⟨_, rfl⟩
           replace H : (if (mY = true) then (shutterref12_One.l1 k1 (wrap64 (ag + 1)) T U E V W X I J F O L M) else (if 0 ≤ aJ then (if aJ < (E.length : Int) then (if ((rd_T44 E aJ).f0 = true) then (shutterref12_One.l1 k1 (wrap64 (ag + 1)) T U E V W X I J F O L M) else (some (I, J, F, O, L, M, aJ))) else (none)) else (none))) = some (r1, r2, r3, r4, r5, r6, r7) := by rw [← dd] at H; exact H
           have aw := Z dd
           clear dd
           by_cases cX : (mY = true)
           ·subst cX
            have H1 : (shutterref12_One.l1 k1 (wrap64 (ag + 1)) T U E V W X I J F O L M) = some (r1, r2, r3, r4, r5, r6, r7) := by rw [if_pos rfl] at H; exact H
            clear H
            have H := H1
            clear H1
            have H' := Z H
            clear H
            have uD := ax.out
            have vz := ay.out
            have uE := u.out
            have vA := ad.out
            have uF := am.out
            have vB := aG.out
            obtain ⟨iP, iQ, iR, iS, iT, iU, kH, kI, kJ, kK, kL, kM⟩ := cells6 b.out
            go_wp2_with (first | ((with_reducible refine gate_callee (f := 43) rfl ?_); refine goesL_ (some 81) rfl rfl Tryd.func43 (by kernel_rfl) rfl #[.agg #[.int .i64 T, .int .i64 U, .slice aF E.length aA, .int .i64 V, .bool W, .bool X], .int .i64 ag] rfl ag_ ?_; (with_reducible refine (shutterref10_Next.calls T U _ _ E V W X ag aJ _ ?side1 ?side2 h6.out).mono ?_); (case side1 => repeat (first | exact (Kd.C_below aQ.out HB.out) | (with_reducible apply pC))); (case side2 => exact a7.out); rintro e yT ⟨rfl, hb⟩; refine ⟨_, rfl, ?_⟩; replace HO_265002 := Z (rb HO_265002.out hb); replace b := Z (kb b.out hb); replace d := Z (kb d.out hb); replace m := Z (kb m.out hb); replace q := Z (kb q.out hb); replace HB := Z (below_step bl_ hb); (try clear hb); (try clear bU); (try clear hk); (try clear hi); obtain ⟨iV, iW, iX, iY, iZ, ja, kN, kO, kP, kQ, kR, kS⟩ := cells6 b.out; have bk : 0 ≤ (ag : Int) := od_; have bl : ag < (E.length : Int) := od_; obtain ⟨bK, cl, aB, aC, aD, aS, aE, aT⟩ := at_T44 aQ.out ag bk bl; (try rw [← ao.out] at aB); (try rw [← aw.out] at aB); (try rw [← ao.out] at aC); (try rw [← aw.out] at aC); (try rw [← ao.out] at aD); (try rw [← aw.out] at aD); (try rw [← ao.out] at aE); (try rw [← aw.out] at aE); cases cl; replace aB := (HB.out.cell (bk_ w _ aB)).trans aB; replace aC := (HB.out.cell (bk_ w _ aC)).trans aC; replace aD := (HB.out.cell (bk_ w _ aD)).trans aD; replace aS := (HB.out.cell (bk_ w _ aS)).trans aS; replace aE := (HB.out.cell (bk_ w _ aE)).trans aE; replace aT := (HB.out.cell (bk_ w _ aT)).trans aT; replace bk := eq_true bk; replace bl := eq_true bl; have bH : 0 ≤ (ag : Int) := od_; have bI : ag < (E.length : Int) := od_; obtain ⟨cu, db, aK, aL, aM, a3, aN, a4⟩ := at_T44 aQ.out ag bH bI; (try rw [← ao.out] at aK); (try rw [← aw.out] at aK); (try rw [← ao.out] at aL); (try rw [← aw.out] at aL); (try rw [← ao.out] at aM); (try rw [← aw.out] at aM); (try rw [← ao.out] at aN); (try rw [← aw.out] at aN); obtain rfl : bK = cu := (by injection db); replace aK := (HB.out.cell (bk_ w _ aK)).trans aK; replace aL := (HB.out.cell (bk_ w _ aL)).trans aL; replace aM := (HB.out.cell (bk_ w _ aM)).trans aM; replace a3 := (HB.out.cell (bk_ w _ a3)).trans a3; replace aN := (HB.out.cell (bk_ w _ aN)).trans aN; replace a4 := (HB.out.cell (bk_ w _ a4)).trans a4; replace bH := eq_true bH; replace bI := eq_true bI))
            go_roundg k1
            case measure => have := bJ.out; omega
            case rel => exact ⟨(wrap64 (ag + 1)), (bC), (bD), (bE), (bF), (bG), (dn_), H', ⟨by have := bJ.out; omega⟩, ⟨by (with_reducible repeat apply pR); exact HO_265002.out⟩, ⟨vK b.out⟩, ⟨vK d.out⟩, ⟨vK m.out⟩, ⟨vK q.out⟩, ⟨bl_⟩⟩
           ·replace cX := Bool.eq_false_iff.mpr cX
            subst cX
            have H1 : (if 0 ≤ aJ then (if aJ < (E.length : Int) then (if ((rd_T44 E aJ).f0 = true) then (shutterref12_One.l1 k1 (wrap64 (ag + 1)) T U E V W X I J F O L M) else (some (I, J, F, O, L, M, aJ))) else (none)) else (none)) = some (r1, r2, r3, r4, r5, r6, r7) := by rw [if_neg (show ¬ (false = true) by decide)] at H; exact H
            clear H
            have H := H1
            clear H1
            by_cases cY : 0 ≤ aJ
            ·rw [if_pos cY] at H
             have oy : decide (0 ≤ aJ) = true := decide_eq_true cY
             clear cY
             by_cases cZ : aJ < (E.length : Int)
             ·rw [if_pos cZ] at H
              have oz : decide (aJ < (E.length : Int)) = true := decide_eq_true cZ
              clear cZ
              obtain ⟨mZ, de⟩ : ∃ b_ : Bool, b_ = ((rd_T44 E aJ).f0) := ⟨_, rfl⟩
              replace H : (if (mZ = true) then (shutterref12_One.l1 k1 (wrap64 (ag + 1)) T U E V W X I J F O L M) else (some (I, J, F, O, L, M, aJ))) = some (r1, r2, r3, r4, r5, r6, r7) := by rw [← de] at H; exact H
              have aI := Z de
              clear de
              by_cases c0 : (mZ = true)
              ·subst c0
               have H1 : (shutterref12_One.l1 k1 (wrap64 (ag + 1)) T U E V W X I J F O L M) = some (r1, r2, r3, r4, r5, r6, r7) := by rw [if_pos rfl] at H; exact H
               clear H
               have H := H1
               clear H1
               have H' := Z H
               clear H
               have uG := ax.out
               have vC := ay.out
               have uH := u.out
               have vD := ad.out
               have uI := am.out
               have vE := aG.out
               obtain ⟨jb, jc, jd, je, jf, jg, kT, kU, kV, kW, kX, kY⟩ := cells6 b.out
               go_wp2_with (first | ((with_reducible refine gate_callee (f := 43) rfl ?_); refine goesL_ (some 81) rfl rfl Tryd.func43 (by kernel_rfl) rfl #[.agg #[.int .i64 T, .int .i64 U, .slice aF E.length aA, .int .i64 V, .bool W, .bool X], .int .i64 ag] rfl ag_ ?_; (with_reducible refine (shutterref10_Next.calls T U _ _ E V W X ag aJ _ ?side1 ?side2 h6.out).mono ?_); (case side1 => repeat (first | exact (Kd.C_below aQ.out HB.out) | (with_reducible apply pC))); (case side2 => exact a7.out); rintro e yU ⟨rfl, hb⟩; refine ⟨_, rfl, ?_⟩; replace HO_265002 := Z (rb HO_265002.out hb); replace b := Z (kb b.out hb); replace d := Z (kb d.out hb); replace m := Z (kb m.out hb); replace q := Z (kb q.out hb); replace HB := Z (below_step bl_ hb); (try clear hb); (try clear bU); (try clear hk); (try clear hi); obtain ⟨jh, ji, jj, jk, jl, jm, kZ, la, lb, lc, ld, le⟩ := cells6 b.out; have bk : 0 ≤ (ag : Int) := od_; have bl : ag < (E.length : Int) := od_; obtain ⟨bK, cl, aB, aC, aD, aS, aE, aT⟩ := at_T44 aQ.out ag bk bl; (try rw [← ao.out] at aB); (try rw [← aw.out] at aB); (try rw [← aI.out] at aB); (try rw [← ao.out] at aC); (try rw [← aw.out] at aC); (try rw [← aI.out] at aC); (try rw [← ao.out] at aD); (try rw [← aw.out] at aD); (try rw [← aI.out] at aD); (try rw [← ao.out] at aE); (try rw [← aw.out] at aE); (try rw [← aI.out] at aE); cases cl; replace aB := (HB.out.cell (bk_ w _ aB)).trans aB; replace aC := (HB.out.cell (bk_ w _ aC)).trans aC; replace aD := (HB.out.cell (bk_ w _ aD)).trans aD; replace aS := (HB.out.cell (bk_ w _ aS)).trans aS; replace aE := (HB.out.cell (bk_ w _ aE)).trans aE; replace aT := (HB.out.cell (bk_ w _ aT)).trans aT; replace bk := eq_true bk; replace bl := eq_true bl; have bH : 0 ≤ (ag : Int) := od_; have bI : ag < (E.length : Int) := od_; obtain ⟨cu, db, aK, aL, aM, a3, aN, a4⟩ := at_T44 aQ.out ag bH bI; (try rw [← ao.out] at aK); (try rw [← aw.out] at aK); (try rw [← aI.out] at aK); (try rw [← ao.out] at aL); (try rw [← aw.out] at aL); (try rw [← aI.out] at aL); (try rw [← ao.out] at aM); (try rw [← aw.out] at aM); (try rw [← aI.out] at aM); (try rw [← ao.out] at aN); (try rw [← aw.out] at aN); (try rw [← aI.out] at aN); obtain rfl : bK = cu := (by injection db); replace aK := (HB.out.cell (bk_ w _ aK)).trans aK; replace aL := (HB.out.cell (bk_ w _ aL)).trans aL; replace aM := (HB.out.cell (bk_ w _ aM)).trans aM; replace a3 := (HB.out.cell (bk_ w _ a3)).trans a3; replace aN := (HB.out.cell (bk_ w _ aN)).trans aN; replace a4 := (HB.out.cell (bk_ w _ a4)).trans a4; replace bH := eq_true bH; replace bI := eq_true bI; have b5 : 0 ≤ (aJ : Int) := od_; have b6 : aJ < (E.length : Int) := od_; obtain ⟨ib, iN, aY, aZ, a0, bo, a2, bp⟩ := at_T44 aQ.out aJ b5 b6; (try rw [← ao.out] at aY); (try rw [← aw.out] at aY); (try rw [← aI.out] at aY); (try rw [← ao.out] at aZ); (try rw [← aw.out] at aZ); (try rw [← aI.out] at aZ); (try rw [← ao.out] at a0); (try rw [← aw.out] at a0); (try rw [← aI.out] at a0); (try rw [← ao.out] at a2); (try rw [← aw.out] at a2); (try rw [← aI.out] at a2); obtain rfl : bK = ib := (by injection iN); replace aY := (HB.out.cell (bk_ w _ aY)).trans aY; replace aZ := (HB.out.cell (bk_ w _ aZ)).trans aZ; replace a0 := (HB.out.cell (bk_ w _ a0)).trans a0; replace bo := (HB.out.cell (bk_ w _ bo)).trans bo; replace a2 := (HB.out.cell (bk_ w _ a2)).trans a2; replace bp := (HB.out.cell (bk_ w _ bp)).trans bp; replace b5 := eq_true b5; replace b6 := eq_true b6))
               go_roundg k1
               case measure => have := bJ.out; omega
               case rel => exact ⟨(wrap64 (ag + 1)), (bC), (bD), (bE), (bF), (bG), (dn_), H', ⟨by have := bJ.out; omega⟩, ⟨by (with_reducible repeat apply pR); exact HO_265002.out⟩, ⟨vK b.out⟩, ⟨vK d.out⟩, ⟨vK m.out⟩, ⟨vK q.out⟩, ⟨bl_⟩⟩
              ·replace c0 := Bool.eq_false_iff.mpr c0
               subst c0
               have H1 : (some (I, J, F, O, L, M, aJ)) = some (r1, r2, r3, r4, r5, r6, r7) := by rw [if_neg (show ¬ (false = true) by decide)] at H; exact H
               clear H
               have H := H1
               clear H1
               simp only [Option.some.injEq, Prod.mk.injEq] at H
               obtain ⟨rfl, rfl, rfl, rfl, rfl, rfl, rfl⟩ := H
               have uJ := ax.out
               have vF := ay.out
               have uK := u.out
               have vG := ad.out
               have uL := am.out
               have vH := aG.out
               obtain ⟨jn, jo, jp, jq, jr, js, lf, lg, lh, li, lj, lk⟩ := cells6 b.out
               go_wp2_with (first | ((with_reducible refine gate_callee (f := 43) rfl ?_); refine goesL_ (some 81) rfl rfl Tryd.func43 (by kernel_rfl) rfl #[.agg #[.int .i64 T, .int .i64 U, .slice aF E.length aA, .int .i64 V, .bool W, .bool X], .int .i64 ag] rfl ag_ ?_; (with_reducible refine (shutterref10_Next.calls T U _ _ E V W X ag aJ _ ?side1 ?side2 h6.out).mono ?_); (case side1 => repeat (first | exact (Kd.C_below aQ.out HB.out) | (with_reducible apply pC))); (case side2 => exact a7.out); rintro e sk ⟨rfl, hb⟩; refine ⟨_, rfl, ?_⟩; replace HO_265002 := Z (rb HO_265002.out hb); replace b := Z (kb b.out hb); replace d := Z (kb d.out hb); replace m := Z (kb m.out hb); replace q := Z (kb q.out hb); replace HB := Z (below_step bl_ hb); (try clear hb); (try clear bU); (try clear hk); (try clear hi); obtain ⟨jt, ju, jv, jw, jx, jy, ll, lm, ln, lo, lp, lq⟩ := cells6 b.out; have bk : 0 ≤ (ag : Int) := od_; have bl : ag < (E.length : Int) := od_; obtain ⟨bK, cl, aB, aC, aD, aS, aE, aT⟩ := at_T44 aQ.out ag bk bl; (try rw [← ao.out] at aB); (try rw [← aw.out] at aB); (try rw [← aI.out] at aB); (try rw [← ao.out] at aC); (try rw [← aw.out] at aC); (try rw [← aI.out] at aC); (try rw [← ao.out] at aD); (try rw [← aw.out] at aD); (try rw [← aI.out] at aD); (try rw [← ao.out] at aE); (try rw [← aw.out] at aE); (try rw [← aI.out] at aE); cases cl; replace aB := (HB.out.cell (bk_ w _ aB)).trans aB; replace aC := (HB.out.cell (bk_ w _ aC)).trans aC; replace aD := (HB.out.cell (bk_ w _ aD)).trans aD; replace aS := (HB.out.cell (bk_ w _ aS)).trans aS; replace aE := (HB.out.cell (bk_ w _ aE)).trans aE; replace aT := (HB.out.cell (bk_ w _ aT)).trans aT; replace bk := eq_true bk; replace bl := eq_true bl; have bH : 0 ≤ (ag : Int) := od_; have bI : ag < (E.length : Int) := od_; obtain ⟨cu, db, aK, aL, aM, a3, aN, a4⟩ := at_T44 aQ.out ag bH bI; (try rw [← ao.out] at aK); (try rw [← aw.out] at aK); (try rw [← aI.out] at aK); (try rw [← ao.out] at aL); (try rw [← aw.out] at aL); (try rw [← aI.out] at aL); (try rw [← ao.out] at aM); (try rw [← aw.out] at aM); (try rw [← aI.out] at aM); (try rw [← ao.out] at aN); (try rw [← aw.out] at aN); (try rw [← aI.out] at aN); obtain rfl : bK = cu := (by injection db); replace aK := (HB.out.cell (bk_ w _ aK)).trans aK; replace aL := (HB.out.cell (bk_ w _ aL)).trans aL; replace aM := (HB.out.cell (bk_ w _ aM)).trans aM; replace a3 := (HB.out.cell (bk_ w _ a3)).trans a3; replace aN := (HB.out.cell (bk_ w _ aN)).trans aN; replace a4 := (HB.out.cell (bk_ w _ a4)).trans a4; replace bH := eq_true bH; replace bI := eq_true bI; have b5 : 0 ≤ (aJ : Int) := od_; have b6 : aJ < (E.length : Int) := od_; obtain ⟨ib, iN, aY, aZ, a0, bo, a2, bp⟩ := at_T44 aQ.out aJ b5 b6; (try rw [← ao.out] at aY); (try rw [← aw.out] at aY); (try rw [← aI.out] at aY); (try rw [← ao.out] at aZ); (try rw [← aw.out] at aZ); (try rw [← aI.out] at aZ); (try rw [← ao.out] at a0); (try rw [← aw.out] at a0); (try rw [← aI.out] at a0); (try rw [← ao.out] at a2); (try rw [← aw.out] at a2); (try rw [← aI.out] at a2); obtain rfl : bK = ib := (by injection iN); replace aY := (HB.out.cell (bk_ w _ aY)).trans aY; replace aZ := (HB.out.cell (bk_ w _ aZ)).trans aZ; replace a0 := (HB.out.cell (bk_ w _ a0)).trans a0; replace bo := (HB.out.cell (bk_ w _ bo)).trans bo; replace a2 := (HB.out.cell (bk_ w _ a2)).trans a2; replace bp := (HB.out.cell (bk_ w _ bp)).trans bp; replace b5 := eq_true b5; replace b6 := eq_true b6; have uM := aH.out; have vI := an.out; have uN := c.out; have vJ := Y.out; obtain ⟨jz, jA, jB, jC, jD, jE, lr, ls, lt, lu, lv, lw⟩ := cells6 q.out; have uO := ae.out; have vL := l.out; obtain ⟨jF, jG, jH, jI, jJ, jK, lx, ly, lz, lA, lB, lC⟩ := cells6 m.out) | ((with_reducible refine gate_store (t := 24) (p := 6) rfl ?_); refine sx_ 24 6 ((((((sk.setCell ⟨a, 0, none⟩ (.int .i64 I)).setCell ⟨a, 1, none⟩ (.int .i64 J)).setCell ⟨a, 2, none⟩ (.slice a5 F.length a8)).setCell ⟨a, 3, none⟩ (.int .i64 O)).setCell ⟨a, 4, none⟩ (.bool L)).setCell ⟨a, 5, none⟩ (.bool M)) ?_; intro cJ hw; replace HO_265002 : Aside0 (Kd.R k44 44 cJ w.heap.size (fun _ => True) (.slice a5 F.length a8) F) := ⟨(by rw [hw]; exact (by (with_reducible repeat apply pR); exact R_off HO_265002.out m.out (by decide) off2_))⟩; replace b := Z (sM hw (blk_off b.out u.out off2_)); replace d := Z (sM hw (blk_off d.out l.out off2_)); replace m : Aside0 (cJ.heap[a]? = some (.cells #[.int .i64 I, .int .i64 J, .slice a5 F.length a8, .int .i64 O, .bool L, .bool M] 24 (0, 0))) := ⟨(by rw [hw]; exact (by first | exact put6 m.out | (simp only [← ao.out, ← aw.out, ← aI.out]; exact put6 m.out)))⟩; replace q := Z (sM hw (blk_off q.out c.out off2_)); replace HB : Aside0 (Below w.heap.size w cJ) := ⟨by rw [hw]; exact bl_⟩; clear hw))
               refine bodyPost_ret (results_ct rfl _ _ a 24 #[.int .i64 I, .int .i64 J, .slice a5 F.length a8, .int .i64 O, .bool L, .bool M] (0, 0) _ rfl (vK m.out) Tryd.underlying24 rfl (by kernel_rfl)) rfl ?_
               exact ⟨_, er_, by (with_reducible repeat apply pR); exact HO_265002.out, bl_⟩
             ·rw [if_neg cZ] at H
              exact absurd H (by simp)
            ·rw [if_neg cY] at H
             exact absurd H (by simp)
          ·replace cW := Bool.eq_false_iff.mpr cW
           subst cW
           have H1 : (shutterref12_One.l1 k1 (wrap64 (ag + 1)) T U E V W X I J F O L M) = some (r1, r2, r3, r4, r5, r6, r7) := by rw [if_neg (show ¬ (false = true) by decide)] at H; exact H
           clear H
           have H := H1
           clear H1
           have H' := Z H
           clear H
           have uP := ax.out
           have vM := ay.out
           have uQ := u.out
           have vN := ad.out
           have uR := am.out
           have vO := aG.out
           obtain ⟨jL, jM, jN, jO, jP, jQ, lD, lE, lF, lG, lH, lI⟩ := cells6 b.out
           go_wp2_with (first | ((with_reducible refine gate_callee (f := 43) rfl ?_); refine goesL_ (some 81) rfl rfl Tryd.func43 (by kernel_rfl) rfl #[.agg #[.int .i64 T, .int .i64 U, .slice aF E.length aA, .int .i64 V, .bool W, .bool X], .int .i64 ag] rfl ag_ ?_; (with_reducible refine (shutterref10_Next.calls T U _ _ E V W X ag aJ _ ?side1 ?side2 h6.out).mono ?_); (case side1 => repeat (first | exact (Kd.C_below aQ.out HB.out) | (with_reducible apply pC))); (case side2 => exact a7.out); rintro e yV ⟨rfl, hb⟩; refine ⟨_, rfl, ?_⟩; replace HO_265002 := Z (rb HO_265002.out hb); replace b := Z (kb b.out hb); replace d := Z (kb d.out hb); replace m := Z (kb m.out hb); replace q := Z (kb q.out hb); replace HB := Z (below_step bl_ hb); (try clear hb); (try clear bU); (try clear hk); (try clear hi); obtain ⟨jR, jS, jT, jU, jV, jW, lJ, lK, lL, lM, lN, lO⟩ := cells6 b.out; have bk : 0 ≤ (ag : Int) := od_; have bl : ag < (E.length : Int) := od_; obtain ⟨bK, cl, aB, aC, aD, aS, aE, aT⟩ := at_T44 aQ.out ag bk bl; (try rw [← ao.out] at aB); (try rw [← ao.out] at aC); (try rw [← ao.out] at aD); (try rw [← ao.out] at aE); cases cl; replace aB := (HB.out.cell (bk_ w _ aB)).trans aB; replace aC := (HB.out.cell (bk_ w _ aC)).trans aC; replace aD := (HB.out.cell (bk_ w _ aD)).trans aD; replace aS := (HB.out.cell (bk_ w _ aS)).trans aS; replace aE := (HB.out.cell (bk_ w _ aE)).trans aE; replace aT := (HB.out.cell (bk_ w _ aT)).trans aT; replace bk := eq_true bk; replace bl := eq_true bl))
           go_roundg k1
           case measure => have := bJ.out; omega
           case rel => exact ⟨(wrap64 (ag + 1)), (bC), (bD), (bE), (bF), (bG), (dn_), H', ⟨by have := bJ.out; omega⟩, ⟨by (with_reducible repeat apply pR); exact HO_265002.out⟩, ⟨vK b.out⟩, ⟨vK d.out⟩, ⟨vK m.out⟩, ⟨vK q.out⟩, ⟨bl_⟩⟩
         ·rw [if_neg cV] at H
          exact absurd H (by simp)
        ·rw [if_neg cj] at H
         have iv : decide (ag < (E.length : Int)) = false := decide_eq_false cj
         clear cj
         simp only [Option.some.injEq, Prod.mk.injEq] at H
         obtain ⟨rfl, rfl, rfl, rfl, rfl, rfl, rfl⟩ := H
         have uS := ax.out
         have vP := ay.out
         have uT := u.out
         have vQ := ad.out
         have uU := am.out
         have vR := aG.out
         obtain ⟨jX, jY, jZ, j0, j1, j2, lP, lQ, lR, lS, lT, lU⟩ := cells6 b.out
         have uV := aH.out
         have vS := an.out
         have uW := c.out
         have vT := Y.out
         obtain ⟨j3, j4, j5, j6, j7, j8, lV, lW, lX, lY, lZ, l3⟩ := cells6 q.out
         have uX := ae.out
         have vU := l.out
         obtain ⟨j9, ka, kc, kd, ke, kf, l4, l5, l6, l7, l8, l9⟩ := cells6 m.out
         go_wp2_with (first | ((with_reducible refine gate_store (t := 24) (p := 6) rfl ?_); refine sx_ 24 6 ((((((wr.setCell ⟨a, 0, none⟩ (.int .i64 I)).setCell ⟨a, 1, none⟩ (.int .i64 J)).setCell ⟨a, 2, none⟩ (.slice a5 F.length a8)).setCell ⟨a, 3, none⟩ (.int .i64 O)).setCell ⟨a, 4, none⟩ (.bool L)).setCell ⟨a, 5, none⟩ (.bool M)) ?_; intro cK hw; replace HO_265002 : Aside0 (Kd.R k44 44 cK w.heap.size (fun _ => True) (.slice a5 F.length a8) F) := ⟨(by rw [hw]; exact (by (with_reducible repeat apply pR); exact R_off HO_265002.out m.out (by decide) off2_))⟩; replace b := Z (sM hw (blk_off b.out u.out off2_)); replace d := Z (sM hw (blk_off d.out l.out off2_)); replace m : Aside0 (cK.heap[a]? = some (.cells #[.int .i64 I, .int .i64 J, .slice a5 F.length a8, .int .i64 O, .bool L, .bool M] 24 (0, 0))) := ⟨by rw [hw]; exact (put6 m.out)⟩; replace q := Z (sM hw (blk_off q.out c.out off2_)); replace HB : Aside0 (Below w.heap.size w cK) := ⟨by rw [hw]; exact bl_⟩; clear hw))
         refine bodyPost_ret (results_ct rfl _ _ a 24 #[.int .i64 I, .int .i64 J, .slice a5 F.length a8, .int .i64 O, .bool L, .bool M] (0, 0) _ rfl (vK m.out) Tryd.underlying24 rfl (by kernel_rfl)) rfl ?_
         exact ⟨_, er_, by (with_reducible repeat apply pR); exact HO_265002.out, bl_⟩
     ·rw [if_neg bZ] at H
      have cT : (ab == 5) = false := beq_eq_false_iff_ne.mpr bZ
      have cU : (ab != 5) = true := bne_iff_ne.mpr bZ
      replace H := Option.bind_eq_some_iff.mp H
      obtain ⟨x, mO, H⟩ := H
      replace H : (shutterref12_One.l2 k x 0 T U E V W X ab ai ap aq ar au av ak I J F O L M) = some (r1, r2, r3, r4, r5, r6, r7) := H
      have pw := Z mO
      clear mO
      have H' := Z H
      clear H
      go_enter Tryd.func20, Tryd.ntmps20
      go_wp2_with (first | ((with_reducible refine gate_dst (N := 3) rfl ?_); refine bx_ 3 24 #[.int .i64 T, .int .i64 U, .slice aF E.length aA, .int .i64 V, .bool W, .bool X] ?_; intro ah hg yW hbox hb; have b := Z (hbox); have cp := Z (ln_ hg : w.heap.size ≤ ah); have bQ := Z (ln_ hg : w.heap.size ≤ ah); replace HB := Z (below_step bl_ hb); clear hb hbox hg) | ((with_reducible refine gate_dst (N := 5) rfl ?_); refine bx_ 5 30 #[.int .i64 ab, .slice aR ai.length aP, .bool ap, .bool aq, .int .i64 ar, .bool au, .int .i64 av, .int .u8 ak] ?_; intro ac hg yX hbox hb; have d := Z (hbox); have cq := Z (ln_ hg : w.heap.size ≤ ac); have bR := Z (ln_ hg : w.heap.size ≤ ac); replace HB := Z (below_step bl_ hb); have ax := Z (nl b.out hg); have ay := Z (ng b.out hg); replace b := Z (kb b.out hb); clear hb hbox hg) | ((with_reducible refine gate_dst (N := 6) rfl ?_); refine bx_ 6 24 #[.int .i64 0, .int .i64 0, .slice none 0 0, .int .i64 0, .bool false, .bool false] ?_; intro a hg yY hbox hb; have m := Z (hbox); have cr := Z (ln_ hg : w.heap.size ≤ a); have bS := Z (ln_ hg : w.heap.size ≤ a); replace HB := Z (below_step bl_ hb); have u := Z (nl b.out hg); have ad := Z (ng b.out hg); replace b := Z (kb b.out hb); have l := Z (nl d.out hg); have ae := Z (ng d.out hg); replace d := Z (kb d.out hb); clear hb hbox hg; have uY := ax.out; have vW := ay.out; have uZ := u.out; have vX := ad.out; obtain ⟨kg, kh, ki, kj, kk, kl, ma, mb, mc, md, me, mf⟩ := cells6 b.out) | ((with_reducible refine gate_callee (f := 25) rfl ?_); refine goesL_ (some 15) rfl rfl Tryd.func25 (by kernel_rfl) rfl #[.agg #[.int .i64 T, .int .i64 U, .slice aF E.length aA, .int .i64 V, .bool W, .bool X]] rfl ag_ ?_; (with_reducible refine (shutterref10_Copy.calls T U _ _ E V W X I J F O L M _ ?side1 ?side2 A4.out).mono ?_); (case side1 => repeat (first | exact (Kd.C_below aQ.out HB.out) | (with_reducible apply pC))); (case side2 => exact a7.out); rintro e yZ ⟨ff, rfl, bn, hb⟩; refine ⟨_, rfl, ?_⟩; have Q := Z (Kd.R_lower bn (below_size bl_)); replace b := Z (kb b.out hb); replace d := Z (kb d.out hb); replace m := Z (kb m.out hb); replace HB := Z (below_step bl_ hb); (try clear hb); (try clear bU); (try clear hk); (try clear hi); (try clear bn)) | ((with_reducible refine gate_dst (N := 8) rfl ?_); refine bx_ 8 24 #[.int .i64 0, .int .i64 0, .slice none 0 0, .int .i64 0, .bool false, .bool false] ?_; intro D hg sl hbox hb; replace Q := Z (rb Q.out hb); have q := Z (hbox); have ct := Z (ln_ hg : w.heap.size ≤ D); have bT := Z (ln_ hg : w.heap.size ≤ D); replace HB := Z (below_step bl_ hb); have am := Z (nl b.out hg); have aG := Z (ng b.out hg); replace b := Z (kb b.out hb); have an := Z (nl d.out hg); have aH := Z (ng d.out hg); replace d := Z (kb d.out hb); have Y := Z (nl m.out hg); have c := Z (ng m.out hg); replace m := Z (kb m.out hb); clear hb hbox hg; have va := aG.out; have vY := am.out; have vb := aH.out; have vZ := an.out; have vc := c.out; have v0 := Y.out; obtain ⟨km, kn, ko, kp, kr, ks, mg, mh, mi, mj, ml, mm⟩ := cells6 q.out; obtain ⟨cN, cO, pg⟩ := Kd.R_slice Q.out; subst pg) | ((with_reducible refine gate_store (t := 24) (p := 8) rfl ?_); refine sx_ 24 8 ((((((sl.setCell ⟨D, 0, none⟩ (.int .i64 I)).setCell ⟨D, 1, none⟩ (.int .i64 J)).setCell ⟨D, 2, none⟩ (.slice cN F.length cO)).setCell ⟨D, 3, none⟩ (.int .i64 O)).setCell ⟨D, 4, none⟩ (.bool L)).setCell ⟨D, 5, none⟩ (.bool M)) ?_; intro cL hw; replace Q : Aside0 (Kd.R k44 44 cL w.heap.size (fun _ => True) (.slice cN F.length cO) F) := ⟨(by rw [hw]; exact (by (with_reducible repeat apply pR); exact R_off Q.out q.out (by decide) off2_))⟩; replace b := Z (sM hw (blk_off b.out am.out off2_)); replace d := Z (sM hw (blk_off d.out an.out off2_)); replace m := Z (sM hw (blk_off m.out Y.out off2_)); replace q : Aside0 (cL.heap[D]? = some (.cells #[.int .i64 I, .int .i64 J, .slice cN F.length cO, .int .i64 O, .bool L, .bool M] 24 (0, 0))) := ⟨by rw [hw]; exact (put6 q.out)⟩; replace HB : Aside0 (Below w.heap.size w cL) := ⟨by rw [hw]; exact bl_⟩; clear hw; have vd := l.out; have v2 := ae.out; obtain ⟨kt, ku, kv, kw, kx, ky, kz, kA, mn, mo, mq, mr, ms, mt, mu, mv⟩ := cells8 d.out; obtain ⟨kB, kC, kD, kE, kF, kG, mw, mx, my, mz, mA, mB⟩ := cells6 b.out) | ((with_reducible refine gate_callee (f := 44) rfl ?_); refine goesL_ (some 114) rfl rfl Tryd.func44 (by kernel_rfl) rfl #[.agg #[.int .i64 T, .int .i64 U, .slice aF E.length aA, .int .i64 V, .bool W, .bool X], .int .i64 a1, .int .i64 av] rfl ag_ ?_; (with_reducible refine (shutterref10_Span.calls k T U _ _ E V W X a1 av x _ ?side1 ?side2 pw.out).mono ?_); (case side1 => repeat (first | exact (Kd.C_below aQ.out HB.out) | (with_reducible apply pC))); (case side2 => exact a7.out); rintro e y0 ⟨sh, rfl, bn, hb⟩; refine ⟨_, rfl, ?_⟩; replace Q := Z (rb Q.out hb); have o5 := Z (Kd.R_lower bn (below_size bl_)); replace b := Z (kb b.out hb); replace d := Z (kb d.out hb); replace m := Z (kb m.out hb); replace q := Z (kb q.out hb); replace HB := Z (below_step bl_ hb); (try clear hb); (try clear bU); (try clear hk); (try clear hi); (try clear bn)))
      go_loopg [13] k (fun kq wh w' => ∃ (s : Int) (r : List (S44)) (u265002 : Value), wh = .int .i64 s ∧ Aside0 (shutterref12_One.l2 kq x s T U E V W X ab ai ap aq ar au av ak I J r O L M = some (r1, r2, r3, r4, r5, r6, r7)) ∧ Aside0 (kq ≤ k) ∧ Aside0 (Kd.R (Kd.int .i64) 3 w' w.heap.size (fun _ => True) sh x) ∧ Aside0 (Kd.R k44 44 w' w.heap.size (fun _ => True) u265002 r) ∧ Aside0 (w'.heap[ah]? = some (.cells #[.int .i64 T, .int .i64 U, (.slice aF E.length aA), .int .i64 V, .bool W, .bool X] 24 (0, 0))) ∧ Aside0 (w'.heap[ac]? = some (.cells #[.int .i64 ab, (.slice aR ai.length aP), .bool ap, .bool aq, .int .i64 ar, .bool au, .int .i64 av, .int .u8 ak] 30 (0, 0))) ∧ Aside0 (w'.heap[a]? = some (.cells #[.int .i64 0, .int .i64 0, (.slice none 0 0), .int .i64 0, .bool false, .bool false] 24 (0, 0))) ∧ Aside0 (w'.heap[D]? = some (.cells #[.int .i64 I, .int .i64 J, u265002, .int .i64 O, .bool L, .bool M] 24 (0, 0))) ∧ Aside0 (Below w.heap.size w w'))
      case atStart => exact ⟨(0), (F), (.slice cN F.length cO), (dn_), H', ⟨Nat.le_refl _⟩, ⟨by (with_reducible repeat apply pR); exact o5.out⟩, ⟨by (with_reducible repeat apply pR); exact Q.out⟩, ⟨vK b.out⟩, ⟨vK d.out⟩, ⟨vK m.out⟩, ⟨vK q.out⟩, ⟨bl_⟩⟩
      case round =>
       clear H'
       try clear c1
       try clear q1
       try clear c2
       try clear p2
       try clear q2
       try clear wd
       try clear c3
       try clear c4
       try clear c5
       try clear p5
       try clear q5
       try clear we
       try clear t7
       try clear c6
       try clear p6
       try clear c7
       try clear wf
       try clear ue
       try clear c8
       try clear c9
       try clear c10
       try clear tv
       try clear tw
       try clear tx
       try clear pr
       try clear zb
       try clear ty
       try clear zc
       try clear tz
       try clear zd
       try clear y7
       try clear y8
       try clear y9
       try clear ps
       try clear za
       try clear cM
       try clear ih
       try clear fi
       try clear c24
       try clear fj
       try clear tG
       try clear p26
       try clear e9
       try clear se
       try clear qn
       try clear p27
       try clear ze
       try clear yC
       try clear tH
       try clear tI
       try clear tJ
       try clear tK
       try clear tL
       try clear tM
       try clear tN
       try clear tO
       try clear tP
       try clear cw
       try clear il
       try clear im
       try clear fk
       try clear m0
       try clear fl
       try clear m1
       try clear tQ
       try clear p53
       try clear fa
       try clear sf
       try clear qo
       try clear tR
       try clear tS
       try clear tT
       try clear tU
       try clear p64
       try clear tV
       try clear tW
       try clear tX
       try clear sg
       try clear qp
       try clear cx
       try clear io
       try clear ip
       try clear tY
       try clear tZ
       try clear t0
       try clear t1
       try clear t2
       try clear t3
       try clear bY
       try clear cR
       try clear cS
       try clear py
       try clear pz
       try clear pA
       try clear pB
       try clear pD
       try clear pE
       try clear bZ
       try clear cT
       try clear cU
       try clear pF
       try clear pG
       try clear pH
       try clear pI
       try clear pJ
       try clear pL
       try clear cj
       try clear iv
       try clear cV
       try clear ox
       try clear yD
       try clear cW
       try clear yE
       try clear cX
       try clear xS
       try clear xT
       try clear xU
       try clear cY
       try clear oy
       try clear cZ
       try clear oz
       try clear yF
       try clear c0
       try clear xV
       try clear xW
       try clear xX
       try clear xY
       try clear xZ
       try clear x0
       try clear x1
       try clear x2
       try clear x3
       try clear x4
       try clear x5
       try clear x6
       try clear x7
       try clear x8
       try clear x9
       try clear ya
       try clear yb
       try clear yc
       try clear yd
       try clear ye
       try clear yf
       try clear yg
       try clear yh
       try clear yi
       try clear df
       try clear dg
       try clear dh
       try clear di
       try clear dj
       try clear dk
       try clear dl
       try clear dm
       try clear dn
       try clear dp
       try clear dq
       try clear dr
       try clear dt
       try clear du
       try clear dv
       try clear dw
       try clear dx
       try clear dy
       try clear dz
       try clear dA
       try clear dB
       try clear dC
       try clear dD
       try clear dE
       try clear dF
       try clear dG
       try clear dH
       try clear dI
       try clear dJ
       try clear dK
       try clear dL
       try clear dM
       try clear dN
       try clear dO
       try clear dP
       try clear dQ
       try clear dR
       try clear dS
       try clear dT
       try clear dU
       try clear dV
       try clear dW
       try clear dX
       try clear dY
       try clear dZ
       try clear d0
       try clear d1
       try clear d2
       try clear d3
       try clear d4
       try clear d5
       try clear d6
       try clear iP
       try clear iQ
       try clear iR
       try clear iS
       try clear iT
       try clear iU
       try clear iV
       try clear iW
       try clear iX
       try clear iY
       try clear iZ
       try clear ja
       try clear jb
       try clear jc
       try clear jd
       try clear je
       try clear jf
       try clear jg
       try clear jh
       try clear ji
       try clear jj
       try clear jk
       try clear jl
       try clear jm
       try clear jn
       try clear jo
       try clear jp
       try clear jq
       try clear jr
       try clear js
       try clear jt
       try clear ju
       try clear jv
       try clear jw
       try clear jx
       try clear jy
       try clear jz
       try clear jA
       try clear jB
       try clear jC
       try clear jD
       try clear jE
       try clear jF
       try clear jG
       try clear jH
       try clear jI
       try clear jJ
       try clear jK
       try clear jL
       try clear jM
       try clear jN
       try clear jO
       try clear jP
       try clear jQ
       try clear jR
       try clear jS
       try clear jT
       try clear jU
       try clear jV
       try clear jW
       try clear jX
       try clear jY
       try clear jZ
       try clear j0
       try clear j1
       try clear j2
       try clear j3
       try clear j4
       try clear j5
       try clear j6
       try clear j7
       try clear j8
       try clear j9
       try clear ka
       try clear kc
       try clear kd
       try clear ke
       try clear kf
       try clear kg
       try clear kh
       try clear ki
       try clear kj
       try clear kk
       try clear kl
       try clear km
       try clear kn
       try clear ko
       try clear kp
       try clear kr
       try clear ks
       try clear kt
       try clear ku
       try clear kv
       try clear kw
       try clear kx
       try clear ky
       try clear kz
       try clear kA
       try clear kB
       try clear kC
       try clear kD
       try clear kE
       try clear kF
       try clear kG
       try clear fm
       try clear fn
       try clear fo
       try clear fp
       try clear fq
       try clear fr
       try clear fs
       try clear ft
       try clear fu
       try clear fv
       try clear fw
       try clear fx
       try clear fy
       try clear fz
       try clear fA
       try clear fB
       try clear fC
       try clear fD
       try clear fE
       try clear fF
       try clear fG
       try clear fH
       try clear fI
       try clear fJ
       try clear fK
       try clear fL
       try clear fM
       try clear fN
       try clear fO
       try clear fP
       try clear fQ
       try clear fR
       try clear fS
       try clear fT
       try clear fU
       try clear fV
       try clear fW
       try clear fX
       try clear fY
       try clear fZ
       try clear ga
       try clear gb
       try clear gc
       try clear gd
       try clear ge
       try clear gf
       try clear gg
       try clear gh
       try clear gi
       try clear gj
       try clear gl
       try clear gm
       try clear gn
       try clear go
       try clear gp
       try clear gq
       try clear gr
       try clear gs
       try clear gt
       try clear gu
       try clear gv
       try clear gw
       try clear gx
       try clear gy
       try clear gz
       try clear gA
       try clear gB
       try clear gC
       try clear gD
       try clear gE
       try clear gF
       try clear gG
       try clear d7
       try clear d8
       try clear d9
       try clear ea
       try clear eb
       try clear ec
       try clear ed
       try clear ee
       try clear ef
       try clear eg
       try clear eh
       try clear ei
       try clear ej
       try clear ek
       try clear el
       try clear em
       try clear en
       try clear eo
       try clear ep
       try clear eq
       try clear er
       try clear es
       try clear et
       try clear eu
       try clear ev
       try clear ew
       try clear ex
       try clear ey
       try clear ez
       try clear eA
       try clear eB
       try clear eC
       try clear eD
       try clear eE
       try clear eF
       try clear eG
       try clear eH
       try clear eI
       try clear eJ
       try clear eK
       try clear eL
       try clear eM
       try clear eN
       try clear eO
       try clear eP
       try clear eQ
       try clear eR
       try clear eS
       try clear eT
       try clear eU
       try clear eV
       try clear eW
       try clear kH
       try clear kI
       try clear kJ
       try clear kK
       try clear kL
       try clear kM
       try clear kN
       try clear kO
       try clear kP
       try clear kQ
       try clear kR
       try clear kS
       try clear kT
       try clear kU
       try clear kV
       try clear kW
       try clear kX
       try clear kY
       try clear kZ
       try clear la
       try clear lb
       try clear lc
       try clear ld
       try clear le
       try clear lf
       try clear lg
       try clear lh
       try clear li
       try clear lj
       try clear lk
       try clear ll
       try clear lm
       try clear ln
       try clear lo
       try clear lp
       try clear lq
       try clear lr
       try clear ls
       try clear lt
       try clear lu
       try clear lv
       try clear lw
       try clear lx
       try clear ly
       try clear lz
       try clear lA
       try clear lB
       try clear lC
       try clear lD
       try clear lE
       try clear lF
       try clear lG
       try clear lH
       try clear lI
       try clear lJ
       try clear lK
       try clear lL
       try clear lM
       try clear lN
       try clear lO
       try clear lP
       try clear lQ
       try clear lR
       try clear lS
       try clear lT
       try clear lU
       try clear lV
       try clear lW
       try clear lX
       try clear lY
       try clear lZ
       try clear l3
       try clear l4
       try clear l5
       try clear l6
       try clear l7
       try clear l8
       try clear l9
       try clear ma
       try clear mb
       try clear mc
       try clear md
       try clear me
       try clear mf
       try clear mg
       try clear mh
       try clear mi
       try clear mj
       try clear ml
       try clear mm
       try clear mn
       try clear mo
       try clear mq
       try clear mr
       try clear ms
       try clear mt
       try clear mu
       try clear mv
       try clear mw
       try clear mx
       try clear my
       try clear mz
       try clear mA
       try clear mB
       try clear gH
       try clear gI
       try clear gJ
       try clear gK
       try clear gL
       try clear gM
       try clear gN
       try clear gO
       try clear gP
       try clear gQ
       try clear gR
       try clear gS
       try clear gT
       try clear gU
       try clear gV
       try clear gW
       try clear gX
       try clear gY
       try clear gZ
       try clear g0
       try clear g1
       try clear g2
       try clear g3
       try clear g4
       try clear g5
       try clear g6
       try clear g7
       try clear g8
       try clear g9
       try clear ha
       try clear hc
       try clear he
       try clear hf
       try clear hh
       try clear hj
       try clear hl
       try clear hm
       try clear hp
       try clear hq
       try clear hs
       try clear ht
       try clear hu
       try clear hv
       try clear hx
       try clear hy
       try clear hz
       try clear hA
       try clear hB
       try clear hC
       try clear hD
       try clear hE
       try clear hF
       try clear hG
       try clear hH
       try clear hI
       try clear hJ
       try clear hL
       try clear hM
       try clear hN
       try clear hO
       try clear hP
       try clear hQ
       try clear hR
       try clear hS
       try clear hT
       try clear hU
       try clear hV
       try clear hW
       try clear hX
       try clear hY
       try clear hZ
       try clear h0
       try clear br
       try clear eX
       try clear eY
       try clear eZ
       try clear e0
       try clear e1
       try clear e2
       try clear aB
       try clear aC
       try clear aD
       try clear aS
       try clear aE
       try clear aT
       try clear aK
       try clear aL
       try clear aM
       try clear a3
       try clear aN
       try clear a4
       try clear aY
       try clear aZ
       try clear a0
       try clear bo
       try clear a2
       try clear bp
       try clear iA
       try clear iB
       try clear iC
       try clear iD
       try clear iE
       try clear iF
       try clear e3
       try clear e4
       try clear e5
       try clear e6
       try clear e7
       try clear e8
       try clear p26
       try clear bk
       try clear bH
       try clear b5
       try clear p53
       try clear p6
       try clear p64
       try clear e9
       try clear bl
       try clear bI
       try clear b6
       try clear fa
       obtain ⟨s, r, u265002, rfl, HA, bJ, HO_12, HO_265002, b, d, m, q, HB⟩ := hrel
       cases gk with
       | zero => exact absurd HA.out (by simp [shutterref12_One.l2])
       | succ k1 =>
        have H := HA.out
        clear HA
        simp only [shutterref12_One.l2] at H
        by_cases cG : s < (x.length : Int)
        ·rw [if_pos cG] at H
         have oA : decide (s < (x.length : Int)) = true := decide_eq_true cG
         clear cG
         by_cases ck : ab = 6
         ·rw [if_pos ck] at H
          have oB : (ab == 6) = true := beq_iff_eq.mpr ck
          have oC : (ab != 6) = false := bne_eq_false_iff_eq.mpr ck
          clear ck
          by_cases ic : 0 ≤ s
          ·rw [if_pos ic] at H
           have tA : decide (0 ≤ s) = true := decide_eq_true ic
           clear ic
           by_cases id : 0 ≤ (rd x s)
           ·rw [if_pos id] at H
            have tB : decide (0 ≤ (rd x s)) = true := decide_eq_true id
            clear id
            by_cases ie : (rd x s) < (r.length : Int)
            ·rw [if_pos ie] at H
             have tC : decide ((rd x s) < (r.length : Int)) = true := decide_eq_true ie
             clear ie
             obtain ⟨mM, cA⟩ : ∃ y_ : List (S44), y_ = (r.set ((rd x s) : Int).toNat (⟨false, (⟨false, false, 0, false⟩ : S28), ak⟩ : S44)) := ⟨_, rfl⟩
             replace H : (shutterref12_One.l2 k1 x (wrap64 (s + 1)) T U E V W X ab ai ap aq ar au av ak I J mM O L M) = some (r1, r2, r3, r4, r5, r6, r7) := by first | (rw [cA]; with_reducible exact H) | (have bL := (Option.bind_some _ _).symm.trans H; rw [cA]; with_reducible exact bL) | (have bL := (Option.bind_some _ _).symm.trans H; with_reducible exact bL) | with_reducible exact H | (rw [cA]; exact H) | exact H
             have o9 := Z cA
             clear cA
             have H' := Z H
             clear H
             obtain ⟨wl, pc, ph⟩ := Kd.R_slice HO_12.out
             subst ph
             have ve := ay.out
             have v3 := ax.out
             have vf := l.out
             have v4 := ae.out
             have vg := an.out
             have v5 := aH.out
             obtain ⟨pW, pX, pY, pZ, p0, p1, p3, p4, qq, qr, qs, qt, qu, qv, qw, qx⟩ := cells8 d.out
             try go_wp2
             have y := Z (Kd.R_drew HO_12.out)
             have z := Z (Kd.R_drew HO_265002.out)
             have A := Z (blk_drew b.out)
             have B := Z (blk_drew d.out)
             have G := Z (blk_drew m.out)
             have P := Z (blk_drew q.out)
             have aj := Z (below_drew1 HB.out)
             clear HO_12
             clear HO_265002
             clear b
             clear d
             clear m
             clear q
             clear HB
             have HO_12 := y
             have HO_265002 := z
             have b := A
             have d := B
             have m := G
             have q := P
             have HB := aj
             clear y z A B G P aj
             have mF : 0 ≤ (s : Int) := od_
             have mK : s < (x.length : Int) := od_
             obtain ⟨mW, pN, h2⟩ := Kd.at_int (Kd.R_reads' HO_12.out).2.2 s mF mK
             cases pN
             replace mF := eq_true mF
             replace mK := eq_true mK
             have mC : 0 ≤ ((rd x s) : Int) := od_
             have mH : ((rd x s) : Int) < ((r.length : Int) : Int) := od_
             obtain ⟨aa, cP, m3, m6, pl, wx, mS⟩ := Kd.R_form HO_265002.out (by omega)
             (first | cases m3 | (injection m3 with ea_ en_ ec_; (first | subst ea_ | (injection ea_ with ea_; subst ea_)); subst ec_; clear en_))
             have ci := Z m6
             have mQ := Z mS
             clear m6 pl mS
             obtain ⟨wt, oL, m8, bM, bO⟩ := Kd.R_elem HO_265002.out z44 ((rd x s) : Int) mC mH
             obtain rfl := k44_openM m8
             have od : World.cell? _ ⟨aa, ((rd x s) : Int).toNat * 6, none⟩ = some (.bool ((rd_T44 r (rd x s)).f0)) := bM 0 _ rfl
             have oe : World.cell? _ ⟨aa, ((rd x s) : Int).toNat * 6 + 1, none⟩ = some (.bool ((rd_T44 r (rd x s)).f1.f0)) := bM 1 _ rfl
             have of : World.cell? _ ⟨aa, ((rd x s) : Int).toNat * 6 + 2, none⟩ = some (.bool ((rd_T44 r (rd x s)).f1.f1)) := bM 2 _ rfl
             have og : World.cell? _ ⟨aa, ((rd x s) : Int).toNat * 6 + 3, none⟩ = some (.int .i64 ((rd_T44 r (rd x s)).f1.f2)) := bM 3 _ rfl
             have oh : World.cell? _ ⟨aa, ((rd x s) : Int).toNat * 6 + 4, none⟩ = some (.bool ((rd_T44 r (rd x s)).f1.f3)) := bM 4 _ rfl
             have oi : World.cell? _ ⟨aa, ((rd x s) : Int).toNat * 6 + 5, none⟩ = some (.int .u8 ((rd_T44 r (rd x s)).f2)) := bM 5 _ rfl
             have nH : World.frozen? _ ⟨aa, ((rd x s) : Int).toNat * 6, none⟩ = false := bO 0
             have nI : World.frozen? _ ⟨aa, ((rd x s) : Int).toNat * 6 + 1, none⟩ = false := bO 1
             have nJ : World.frozen? _ ⟨aa, ((rd x s) : Int).toNat * 6 + 2, none⟩ = false := bO 2
             have nK : World.frozen? _ ⟨aa, ((rd x s) : Int).toNat * 6 + 3, none⟩ = false := bO 3
             have nL : World.frozen? _ ⟨aa, ((rd x s) : Int).toNat * 6 + 4, none⟩ = false := bO 4
             have nM : World.frozen? _ ⟨aa, ((rd x s) : Int).toNat * 6 + 5, none⟩ = false := bO 5
             clear oL bM bO m8
             replace mC := eq_true mC
             replace mH := eq_true mH
             obtain ⟨wu, iy, m9, iw, oZ⟩ := Kd.R_elem HO_265002.out z44 ((rd x s) : Int) (od_) (by have h_ : ((rd x s) : Int) < ((r.length : Int) : Int) := od_; first | exact h_ | (have e_ := (Kd.R_reads' HO_265002.out).1; omega) | simpa using h_)
             obtain rfl := k44_openM m9
             have h8 := (Kd.R_seg HO_265002.out ((rd x s) : Int) (od_) (by have h_ : ((rd x s) : Int) < ((r.length : Int) : Int) := od_; first | exact h_ | (have e_ := (Kd.R_reads' HO_265002.out).1; omega) | simpa using h_) (seg := [.bool false, .bool false, .bool false, .int .i64 0, .bool false, .int .u8 ak]) (j := 0) iy iw (show 6 ≤ 6 from by decide) (x' := (⟨false, (⟨false, false, 0, false⟩ : S28), ak⟩ : S44)) (k44_mkM _ _ _ (⟨false, (⟨false, false, 0, false⟩ : S28), ak⟩ : S44) ) (fun _ hk => hk)).1
             rw [← o9.out] at h8
             have mU := Z h8
             clear iy iw oZ m9 h8
             refine start_ (n := 11) (S := fun w' => w'.cell? ⟨D, 0, none⟩ = some (.int .i64 I) ∧ w'.cell? ⟨D, 1, none⟩ = some (.int .i64 J) ∧ w'.cell? ⟨D, 2, none⟩ = some (.slice (some ⟨aa, 0, none⟩) r.length cP) ∧ w'.cell? ⟨D, 3, none⟩ = some (.int .i64 O) ∧ w'.cell? ⟨D, 4, none⟩ = some (.bool L) ∧ w'.cell? ⟨D, 5, none⟩ = some (.bool M) ∧ w'.cell? ⟨ac, 0, none⟩ = some (.int .i64 ab) ∧ w'.cell? ⟨ac, 1, none⟩ = some (.slice aR ai.length aP) ∧ w'.cell? ⟨ac, 2, none⟩ = some (.bool ap) ∧ w'.cell? ⟨ac, 3, none⟩ = some (.bool aq) ∧ w'.cell? ⟨ac, 4, none⟩ = some (.int .i64 ar) ∧ w'.cell? ⟨ac, 5, none⟩ = some (.bool au) ∧ w'.cell? ⟨ac, 6, none⟩ = some (.int .i64 av) ∧ w'.cell? ⟨ac, 7, none⟩ = some (.int .u8 ak) ∧ w'.cell? (mW.add (s).toNat) = some (.int .i64 (rd x s))) (ds := [10]) (bv 11 0) (by kernel_rfl) rfl rfl ⟨(blk_cell q.out 0).trans rfl, (blk_cell q.out 1).trans rfl, (blk_cell q.out 2).trans rfl, (blk_cell q.out 3).trans rfl, (blk_cell q.out 4).trans rfl, (blk_cell q.out 5).trans rfl, (blk_cell d.out 0).trans rfl, (blk_cell d.out 1).trans rfl, (blk_cell d.out 2).trans rfl, (blk_cell d.out 3).trans rfl, (blk_cell d.out 4).trans rfl, (blk_cell d.out 5).trans rfl, (blk_cell d.out 6).trans rfl, (blk_cell d.out 7).trans rfl, h2⟩ (fun hHeld => ?_); refine with_tabW shutterref12_One.tab30 shutterref12_One.bits30 (fun HT_ HW_ => ?_)
             generalize wr.drew = ch at HO_12 HO_265002 b d m q HB mQ mU nH nI nJ nK nL nM od oe of og oh oi h2 hHeld ⊢
             refine pure_ (i := 0) (N := some 124) (v := ?_) (a' := ?_) (bv 11 1) rfl rfl (any_of HT_.out (by kernel_rfl)) (fun _ _ _ h => h) (Or.inl ⟨by rfl, ?_⟩) ?_ ?_
             rotate_left
             ·intro w'
              go_simp
              with_reducible rfl
             rotate_left
             ·simp only [Act.put, sA, sB, sC, i64_w, i32_w]
              rfl
             refine pure_ (i := 2) (N := some 126) (v := ?_) (a' := ?_) (bv 11 5) rfl rfl (any_of HT_.out (by kernel_rfl)) (fun _ _ _ h => h) (Or.inl ⟨by rfl, ?_⟩) ?_ ?_
             rotate_left
             ·intro w'
              go_simp
              with_reducible rfl
             rotate_left
             ·simp only [Act.put, sA, sB, sC, i64_w, i32_w]
              rfl
             refine pure_ (i := 3) (N := some 127) (v := ?_) (a' := ?_) (bv 11 13) rfl rfl (any_of HT_.out (by kernel_rfl)) (fun _ _ _ h => h) (Or.inl ⟨by rfl, ?_⟩) ?_ ?_
             rotate_left
             ·intro w'
              go_simp
              with_reducible rfl
             rotate_left
             ·simp only [Act.put, sA, sB, sC, i64_w, i32_w]
              rfl
             refine pure_ (i := 4) (N := some 128) (v := ?_) (a' := ?_) (bv 11 29) rfl rfl (any_of HT_.out (by kernel_rfl)) (fun _ _ _ h => h) (Or.inl ⟨by rfl, ?_⟩) ?_ ?_
             rotate_left
             ·intro w'
              go_simp
              with_reducible rfl
             rotate_left
             ·simp only [Act.put, sA, sB, sC, i64_w, i32_w]
              rfl
             refine pure_ (i := 6) (N := some 130) (v := ?_) (a' := ?_) (bv 11 93) rfl rfl (any_of HT_.out (by kernel_rfl)) (fun _ _ _ h => h) (Or.inl ⟨by rfl, ?_⟩) ?_ ?_
             rotate_left
             ·intro w'
              go_simp
              with_reducible rfl
             rotate_left
             ·simp only [Act.put, sA, sB, sC, i64_w, i32_w]
              rfl
             refine take_ (i := 1) (N := some 125) (v := ?_) (a' := ?_) (bv 11 95) rfl rfl (take_ofW HT_.out HW_.out (by kernel_rfl)) (fun _ _ _ h => h) (Or.inl ⟨by rfl, ?_⟩) hHeld ?_ ?_
             rotate_left
             ·rintro w' ⟨s0, s1, s2, s3, s4, s5, s6, s7, s8, s9, b9, ca, cC, cD, iG⟩
              go_simp
              with_reducible rfl
             rotate_left
             ·simp only [Act.put, sA, sB, sC, i64_w, i32_w]
              rfl
             refine take_ (i := 5) (N := some 129) (v := ?_) (a' := ?_) (bv 11 127) rfl rfl (take_ofW HT_.out HW_.out (by kernel_rfl)) (fun _ _ _ h => h) (Or.inl ⟨by rfl, ?_⟩) hHeld ?_ ?_
             rotate_left
             ·rintro w' ⟨s0, s1, s2, s3, s4, s5, s6, s7, s8, s9, b9, ca, cC, cD, iG⟩
              go_simp
              with_reducible rfl
             rotate_left
             ·simp only [Act.put, sA, sB, sC, i64_w, i32_w]
              rfl
             refine take_ (i := 7) (N := some 131) (v := ?_) (a' := ?_) (bv 11 255) rfl rfl (take_ofW HT_.out HW_.out (by kernel_rfl)) (fun _ _ _ h => h) (Or.inl ⟨by rfl, ?_⟩) hHeld ?_ ?_
             rotate_left
             ·rintro w' ⟨s0, s1, s2, s3, s4, s5, s6, s7, s8, s9, b9, ca, cC, cD, iG⟩
              go_simp
              with_reducible rfl
             rotate_left
             ·simp only [Act.put, sA, sB, sC, i64_w, i32_w]
              rfl
             refine pure_ (i := 8) (N := some 132) (v := ?_) (a' := ?_) (bv 11 511) rfl rfl (any_of HT_.out (by kernel_rfl)) (fun _ _ _ h => h) (Or.inl ⟨by rfl, ?_⟩) ?_ ?_
             rotate_left
             ·intro w'
              go_simp
              with_reducible rfl
             rotate_left
             ·simp only [Act.put, sA, sB, sC, i64_w, i32_w]
              rfl
             refine pure_ (i := 9) (N := some 133) (v := ?_) (a' := ?_) (bv 11 1023) rfl rfl (any_of HT_.out (by kernel_rfl)) (fun _ _ _ h => h) (Or.inl ⟨by rfl, ?_⟩) ?_ ?_
             rotate_left
             ·intro w'
              go_simp
              with_reducible rfl
             rotate_left
             ·simp only [Act.put, sA, sB, sC, i64_w, i32_w]
              rfl
             refine last_ (i := 10) (N := none) (bv 11 2047) rfl rfl (one_of HT_.out (by kernel_rfl)) (by decide) (fun K hK => ?_)
             refine skip_ (w1 := ?_) (by rfl) rfl ?_ ?_
             rotate_left
             ·go_simp
              rfl
             refine hK.out _ _ ?_
             clear hK K
             refine done_ (done_of HT_.out (by kernel_rfl)) ?_
             have y : Aside0 (Kd.R (Kd.int .i64) 3 ((((((ch.setCell ⟨aa, ((rd x s) : Int).toNat * 6, none⟩ (.bool false)).setCell ⟨aa, ((rd x s) : Int).toNat * 6 + 1, none⟩ (.bool false)).setCell ⟨aa, ((rd x s) : Int).toNat * 6 + 2, none⟩ (.bool false)).setCell ⟨aa, ((rd x s) : Int).toNat * 6 + 3, none⟩ (.int .i64 0)).setCell ⟨aa, ((rd x s) : Int).toNat * 6 + 4, none⟩ (.bool false)).setCell ⟨aa, ((rd x s) : Int).toNat * 6 + 5, none⟩ (.int .u8 ak)) w.heap.size (fun _ => True) (.slice (some mW) x.length pc) x) := ⟨by (with_reducible repeat apply pR); exact Kd.R_mono (Kd.R_far (p := ⟨aa, ((rd x s) : Int).toNat * 6 + 5, none⟩) (Kd.R_far (p := ⟨aa, ((rd x s) : Int).toNat * 6 + 4, none⟩) (Kd.R_far (p := ⟨aa, ((rd x s) : Int).toNat * 6 + 3, none⟩) (Kd.R_far (p := ⟨aa, ((rd x s) : Int).toNat * 6 + 2, none⟩) (Kd.R_far (p := ⟨aa, ((rd x s) : Int).toNat * 6 + 1, none⟩) (Kd.R_far (p := ⟨aa, ((rd x s) : Int).toNat * 6, none⟩) (Kd.R_types HO_12.out mQ.out (by decide)) (fun _ hk => hk.2) (.bool false)) (fun _ hk => hk.2) (.bool false)) (fun _ hk => hk.2) (.bool false)) (fun _ hk => hk.2) (.int .i64 0)) (fun _ hk => hk.2) (.bool false)) (fun _ hk => hk.2) (.int .u8 ak)) (fun _ hk => trivial)⟩
             have z : Aside0 (Kd.R k44 44 ((((((ch.setCell ⟨aa, ((rd x s) : Int).toNat * 6, none⟩ (.bool false)).setCell ⟨aa, ((rd x s) : Int).toNat * 6 + 1, none⟩ (.bool false)).setCell ⟨aa, ((rd x s) : Int).toNat * 6 + 2, none⟩ (.bool false)).setCell ⟨aa, ((rd x s) : Int).toNat * 6 + 3, none⟩ (.int .i64 0)).setCell ⟨aa, ((rd x s) : Int).toNat * 6 + 4, none⟩ (.bool false)).setCell ⟨aa, ((rd x s) : Int).toNat * 6 + 5, none⟩ (.int .u8 ak)) w.heap.size (fun _ => True) (.slice (some ⟨aa, 0, none⟩) r.length cP) mM) := ⟨by (with_reducible repeat apply pR); exact mU.out⟩
             have A : Aside0 (((((((ch.setCell ⟨aa, ((rd x s) : Int).toNat * 6, none⟩ (.bool false)).setCell ⟨aa, ((rd x s) : Int).toNat * 6 + 1, none⟩ (.bool false)).setCell ⟨aa, ((rd x s) : Int).toNat * 6 + 2, none⟩ (.bool false)).setCell ⟨aa, ((rd x s) : Int).toNat * 6 + 3, none⟩ (.int .i64 0)).setCell ⟨aa, ((rd x s) : Int).toNat * 6 + 4, none⟩ (.bool false)).setCell ⟨aa, ((rd x s) : Int).toNat * 6 + 5, none⟩ (.int .u8 ak)).heap[ah]? = some (.cells #[.int .i64 T, .int .i64 U, .slice aF E.length aA, .int .i64 V, .bool W, .bool X] 24 (0, 0))) := ⟨by (with_reducible repeat apply pK); refine blk_far ?_ (by have h_ := Kd.R_ne HO_265002.out b.out (by decide); intro e_; exact h_ (by rw [e_]; rfl)) _; (with_reducible repeat apply pK); refine blk_far ?_ (by have h_ := Kd.R_ne HO_265002.out b.out (by decide); intro e_; exact h_ (by rw [e_]; rfl)) _; (with_reducible repeat apply pK); refine blk_far ?_ (by have h_ := Kd.R_ne HO_265002.out b.out (by decide); intro e_; exact h_ (by rw [e_]; rfl)) _; (with_reducible repeat apply pK); refine blk_far ?_ (by have h_ := Kd.R_ne HO_265002.out b.out (by decide); intro e_; exact h_ (by rw [e_]; rfl)) _; (with_reducible repeat apply pK); refine blk_far ?_ (by have h_ := Kd.R_ne HO_265002.out b.out (by decide); intro e_; exact h_ (by rw [e_]; rfl)) _; (with_reducible repeat apply pK); refine blk_far ?_ (by have h_ := Kd.R_ne HO_265002.out b.out (by decide); intro e_; exact h_ (by rw [e_]; rfl)) _; (with_reducible repeat apply pK); exact b.out⟩
             have B : Aside0 (((((((ch.setCell ⟨aa, ((rd x s) : Int).toNat * 6, none⟩ (.bool false)).setCell ⟨aa, ((rd x s) : Int).toNat * 6 + 1, none⟩ (.bool false)).setCell ⟨aa, ((rd x s) : Int).toNat * 6 + 2, none⟩ (.bool false)).setCell ⟨aa, ((rd x s) : Int).toNat * 6 + 3, none⟩ (.int .i64 0)).setCell ⟨aa, ((rd x s) : Int).toNat * 6 + 4, none⟩ (.bool false)).setCell ⟨aa, ((rd x s) : Int).toNat * 6 + 5, none⟩ (.int .u8 ak)).heap[ac]? = some (.cells #[.int .i64 ab, .slice aR ai.length aP, .bool ap, .bool aq, .int .i64 ar, .bool au, .int .i64 av, .int .u8 ak] 30 (0, 0))) := ⟨by (with_reducible repeat apply pK); refine blk_far ?_ (by have h_ := Kd.R_ne HO_265002.out d.out (by decide); intro e_; exact h_ (by rw [e_]; rfl)) _; (with_reducible repeat apply pK); refine blk_far ?_ (by have h_ := Kd.R_ne HO_265002.out d.out (by decide); intro e_; exact h_ (by rw [e_]; rfl)) _; (with_reducible repeat apply pK); refine blk_far ?_ (by have h_ := Kd.R_ne HO_265002.out d.out (by decide); intro e_; exact h_ (by rw [e_]; rfl)) _; (with_reducible repeat apply pK); refine blk_far ?_ (by have h_ := Kd.R_ne HO_265002.out d.out (by decide); intro e_; exact h_ (by rw [e_]; rfl)) _; (with_reducible repeat apply pK); refine blk_far ?_ (by have h_ := Kd.R_ne HO_265002.out d.out (by decide); intro e_; exact h_ (by rw [e_]; rfl)) _; (with_reducible repeat apply pK); refine blk_far ?_ (by have h_ := Kd.R_ne HO_265002.out d.out (by decide); intro e_; exact h_ (by rw [e_]; rfl)) _; (with_reducible repeat apply pK); exact d.out⟩
             have G : Aside0 (((((((ch.setCell ⟨aa, ((rd x s) : Int).toNat * 6, none⟩ (.bool false)).setCell ⟨aa, ((rd x s) : Int).toNat * 6 + 1, none⟩ (.bool false)).setCell ⟨aa, ((rd x s) : Int).toNat * 6 + 2, none⟩ (.bool false)).setCell ⟨aa, ((rd x s) : Int).toNat * 6 + 3, none⟩ (.int .i64 0)).setCell ⟨aa, ((rd x s) : Int).toNat * 6 + 4, none⟩ (.bool false)).setCell ⟨aa, ((rd x s) : Int).toNat * 6 + 5, none⟩ (.int .u8 ak)).heap[a]? = some (.cells #[.int .i64 0, .int .i64 0, .slice none 0 0, .int .i64 0, .bool false, .bool false] 24 (0, 0))) := ⟨by (with_reducible repeat apply pK); refine blk_far ?_ (by have h_ := Kd.R_ne HO_265002.out m.out (by decide); intro e_; exact h_ (by rw [e_]; rfl)) _; (with_reducible repeat apply pK); refine blk_far ?_ (by have h_ := Kd.R_ne HO_265002.out m.out (by decide); intro e_; exact h_ (by rw [e_]; rfl)) _; (with_reducible repeat apply pK); refine blk_far ?_ (by have h_ := Kd.R_ne HO_265002.out m.out (by decide); intro e_; exact h_ (by rw [e_]; rfl)) _; (with_reducible repeat apply pK); refine blk_far ?_ (by have h_ := Kd.R_ne HO_265002.out m.out (by decide); intro e_; exact h_ (by rw [e_]; rfl)) _; (with_reducible repeat apply pK); refine blk_far ?_ (by have h_ := Kd.R_ne HO_265002.out m.out (by decide); intro e_; exact h_ (by rw [e_]; rfl)) _; (with_reducible repeat apply pK); refine blk_far ?_ (by have h_ := Kd.R_ne HO_265002.out m.out (by decide); intro e_; exact h_ (by rw [e_]; rfl)) _; (with_reducible repeat apply pK); exact m.out⟩
             have P : Aside0 (((((((ch.setCell ⟨aa, ((rd x s) : Int).toNat * 6, none⟩ (.bool false)).setCell ⟨aa, ((rd x s) : Int).toNat * 6 + 1, none⟩ (.bool false)).setCell ⟨aa, ((rd x s) : Int).toNat * 6 + 2, none⟩ (.bool false)).setCell ⟨aa, ((rd x s) : Int).toNat * 6 + 3, none⟩ (.int .i64 0)).setCell ⟨aa, ((rd x s) : Int).toNat * 6 + 4, none⟩ (.bool false)).setCell ⟨aa, ((rd x s) : Int).toNat * 6 + 5, none⟩ (.int .u8 ak)).heap[D]? = some (.cells #[.int .i64 I, .int .i64 J, .slice (some ⟨aa, 0, none⟩) r.length cP, .int .i64 O, .bool L, .bool M] 24 (0, 0))) := ⟨by (with_reducible repeat apply pK); refine blk_far ?_ (by have h_ := Kd.R_ne HO_265002.out q.out (by decide); intro e_; exact h_ (by rw [e_]; rfl)) _; (with_reducible repeat apply pK); refine blk_far ?_ (by have h_ := Kd.R_ne HO_265002.out q.out (by decide); intro e_; exact h_ (by rw [e_]; rfl)) _; (with_reducible repeat apply pK); refine blk_far ?_ (by have h_ := Kd.R_ne HO_265002.out q.out (by decide); intro e_; exact h_ (by rw [e_]; rfl)) _; (with_reducible repeat apply pK); refine blk_far ?_ (by have h_ := Kd.R_ne HO_265002.out q.out (by decide); intro e_; exact h_ (by rw [e_]; rfl)) _; (with_reducible repeat apply pK); refine blk_far ?_ (by have h_ := Kd.R_ne HO_265002.out q.out (by decide); intro e_; exact h_ (by rw [e_]; rfl)) _; (with_reducible repeat apply pK); refine blk_far ?_ (by have h_ := Kd.R_ne HO_265002.out q.out (by decide); intro e_; exact h_ (by rw [e_]; rfl)) _; (with_reducible repeat apply pK); exact q.out⟩
             have aj : Aside0 (Below w.heap.size w ((((((ch.setCell ⟨aa, ((rd x s) : Int).toNat * 6, none⟩ (.bool false)).setCell ⟨aa, ((rd x s) : Int).toNat * 6 + 1, none⟩ (.bool false)).setCell ⟨aa, ((rd x s) : Int).toNat * 6 + 2, none⟩ (.bool false)).setCell ⟨aa, ((rd x s) : Int).toNat * 6 + 3, none⟩ (.int .i64 0)).setCell ⟨aa, ((rd x s) : Int).toNat * 6 + 4, none⟩ (.bool false)).setCell ⟨aa, ((rd x s) : Int).toNat * 6 + 5, none⟩ (.int .u8 ak))) := ⟨by repeat (first | (with_reducible first | exact HB.out | apply below_alloc | apply pw_below_drewN | apply below_drew1 | refine below_set ?_ ci.out | refine below_set ?_ ci.out | refine below_set ?_ ci.out | refine below_set ?_ ci.out | refine below_set ?_ ci.out | refine below_set ?_ ci.out | refine below_set ?_ bQ.out | refine below_set ?_ bR.out | refine below_set ?_ bS.out | refine below_set ?_ bT.out) | exact HB.out)⟩
             (try clear HO_12)
             (try clear HO_265002)
             (try clear b)
             (try clear d)
             (try clear m)
             (try clear q)
             (try clear HB)
             generalize ((((((ch.setCell ⟨aa, ((rd x s) : Int).toNat * 6, none⟩ (.bool false)).setCell ⟨aa, ((rd x s) : Int).toNat * 6 + 1, none⟩ (.bool false)).setCell ⟨aa, ((rd x s) : Int).toNat * 6 + 2, none⟩ (.bool false)).setCell ⟨aa, ((rd x s) : Int).toNat * 6 + 3, none⟩ (.int .i64 0)).setCell ⟨aa, ((rd x s) : Int).toNat * 6 + 4, none⟩ (.bool false)).setCell ⟨aa, ((rd x s) : Int).toNat * 6 + 5, none⟩ (.int .u8 ak)) = y1 at y z A B G P aj ⊢
             have HO_12 := y
             have HO_265002 := z
             have b := A
             have d := B
             have m := G
             have q := P
             have HB := aj
             clear y z A B G P aj
             try go_wp2
             go_roundg k1
             case measure => have := bJ.out; omega
             case rel => exact ⟨(wrap64 (s + 1)), (mM), (.slice (some ⟨aa, 0, none⟩) r.length cP), (dn_), H', ⟨by have := bJ.out; omega⟩, ⟨by (with_reducible repeat apply pR); exact HO_12.out⟩, ⟨by (with_reducible repeat apply pR); exact HO_265002.out⟩, ⟨vK b.out⟩, ⟨vK d.out⟩, ⟨vK m.out⟩, ⟨vK q.out⟩, ⟨bl_⟩⟩
            ·rw [if_neg ie] at H
             exact absurd H (by simp)
           ·rw [if_neg id] at H
            exact absurd H (by simp)
          ·rw [if_neg ic] at H
           exact absurd H (by simp)
         ·rw [if_neg ck] at H
          have oB : (ab == 6) = false := beq_eq_false_iff_ne.mpr ck
          have oC : (ab != 6) = true := bne_iff_ne.mpr ck
          by_cases ig : 0 ≤ s
          ·rw [if_pos ig] at H
           have tD : decide (0 ≤ s) = true := decide_eq_true ig
           clear ig
           replace H := Option.bind_eq_some_iff.mp H
           obtain ⟨o1, mP, H⟩ := H
           replace H : (if o1 = true then (if 0 ≤ (rd x s) then (if (rd x s) < (r.length : Int) then (shutterref12_One.l2 k1 x (wrap64 (s + 1)) T U E V W X ab ai ap aq ar au av ak I J (r.set ((rd x s) : Int).toNat (⟨(rd_T44 r (rd x s)).f0, (⟨(rd_T44 r (rd x s)).f1.f0, (rd_T44 r (rd x s)).f1.f1, (rd_T44 r (rd x s)).f1.f2, (rd_T44 r (rd x s)).f1.f3⟩ : S28), 0⟩ : S44)) O L M) else (none)) else (none)) else (shutterref12_One.l2 k1 x (wrap64 (s + 1)) T U E V W X ab ai ap aq ar au av ak I J r O L M)) = some (r1, r2, r3, r4, r5, r6, r7) := H
           have op := Z mP
           clear mP
           by_cases ii : o1 = true
           ·subst ii
            have H1 : (if 0 ≤ (rd x s) then (if (rd x s) < (r.length : Int) then (shutterref12_One.l2 k1 x (wrap64 (s + 1)) T U E V W X ab ai ap aq ar au av ak I J (r.set ((rd x s) : Int).toNat (⟨(rd_T44 r (rd x s)).f0, (⟨(rd_T44 r (rd x s)).f1.f0, (rd_T44 r (rd x s)).f1.f1, (rd_T44 r (rd x s)).f1.f2, (rd_T44 r (rd x s)).f1.f3⟩ : S28), 0⟩ : S44)) O L M) else (none)) else (none)) = some (r1, r2, r3, r4, r5, r6, r7) := by rw [if_pos rfl] at H; exact H
            clear H
            have H := H1
            clear H1
            by_cases ij : 0 ≤ (rd x s)
            ·rw [if_pos ij] at H
             have tE : decide (0 ≤ (rd x s)) = true := decide_eq_true ij
             clear ij
             by_cases ik : (rd x s) < (r.length : Int)
             ·rw [if_pos ik] at H
              have tF : decide ((rd x s) < (r.length : Int)) = true := decide_eq_true ik
              clear ik
              obtain ⟨o2, cB⟩ : ∃ y_ : List (S44), y_ = (r.set ((rd x s) : Int).toNat (⟨(rd_T44 r (rd x s)).f0, (⟨(rd_T44 r (rd x s)).f1.f0, (rd_T44 r (rd x s)).f1.f1, (rd_T44 r (rd x s)).f1.f2, (rd_T44 r (rd x s)).f1.f3⟩ : S28), 0⟩ : S44)) := ⟨_, rfl⟩
              replace H : (shutterref12_One.l2 k1 x (wrap64 (s + 1)) T U E V W X ab ai ap aq ar au av ak I J o2 O L M) = some (r1, r2, r3, r4, r5, r6, r7) := by first | (rw [cB]; with_reducible exact H) | (have bL := (Option.bind_some _ _).symm.trans H; rw [cB]; with_reducible exact bL) | (have bL := (Option.bind_some _ _).symm.trans H; with_reducible exact bL) | with_reducible exact H | (rw [cB]; exact H) | exact H
              have pa := Z cB
              clear cB
              have H' := Z H
              clear H
              obtain ⟨wm, wz, pi⟩ := Kd.R_slice HO_12.out
              subst pi
              have vh := ay.out
              have v6 := ax.out
              have vi := l.out
              have v7 := ae.out
              have vj := an.out
              have v8 := aH.out
              obtain ⟨p7, p8, p9, qa, qb, qc, qd, qe, qy, qz, qA, qC, qD, qE, qF, qG⟩ := cells8 d.out
              try go_wp2
              have y := Z (Kd.R_drew HO_12.out)
              have z := Z (Kd.R_drew HO_265002.out)
              have A := Z (blk_drew b.out)
              have B := Z (blk_drew d.out)
              have G := Z (blk_drew m.out)
              have P := Z (blk_drew q.out)
              have aj := Z (below_drew1 HB.out)
              clear HO_12
              clear HO_265002
              clear b
              clear d
              clear m
              clear q
              clear HB
              have HO_12 := y
              have HO_265002 := z
              have b := A
              have d := B
              have m := G
              have q := P
              have HB := aj
              clear y z A B G P aj
              have cm : 0 ≤ (s : Int) := od_
              have cn : s < (x.length : Int) := od_
              obtain ⟨cv, iO, bW⟩ := Kd.at_int (Kd.R_reads' HO_12.out).2.2 s cm cn
              cases iO
              replace cm := eq_true cm
              replace cn := eq_true cn
              refine start_ (n := 6) (S := fun w' => w'.cell? ⟨ah, 0, none⟩ = some (.int .i64 T) ∧ w'.cell? ⟨ah, 1, none⟩ = some (.int .i64 U) ∧ w'.cell? ⟨ah, 2, none⟩ = some (.slice aF E.length aA) ∧ w'.cell? ⟨ah, 3, none⟩ = some (.int .i64 V) ∧ w'.cell? ⟨ah, 4, none⟩ = some (.bool W) ∧ w'.cell? ⟨ah, 5, none⟩ = some (.bool X) ∧ w'.cell? (cv.add (s).toNat) = some (.int .i64 (rd x s))) (ds := []) (bv 6 0) (by kernel_rfl) rfl rfl ⟨(blk_cell b.out 0).trans rfl, (blk_cell b.out 1).trans rfl, (blk_cell b.out 2).trans rfl, (blk_cell b.out 3).trans rfl, (blk_cell b.out 4).trans rfl, (blk_cell b.out 5).trans rfl, bW⟩ (fun hHeld => ?_)
              generalize wr.drew = y2 at HO_12 HO_265002 b d m q HB bW hHeld ⊢
              refine pure_ (i := 1) (N := some 135) (v := ?_) (a' := ?_) (bv 6 2) rfl rfl (by kernel_rfl) (fun _ _ _ h => h) (Or.inl ⟨by rfl, ?_⟩) ?_ ?_
              rotate_left
              ·intro w'
               go_simp
               with_reducible rfl
              rotate_left
              ·simp only [Act.put, sA, sB, sC, i64_w, i32_w]
               rfl
              refine pure_ (i := 2) (N := some 136) (v := ?_) (a' := ?_) (bv 6 6) rfl rfl (by kernel_rfl) (fun _ _ _ h => h) (Or.inl ⟨by rfl, ?_⟩) ?_ ?_
              rotate_left
              ·intro w'
               go_simp
               with_reducible rfl
              rotate_left
              ·simp only [Act.put, sA, sB, sC, i64_w, i32_w]
               rfl
              refine pure_ (i := 3) (N := some 137) (v := ?_) (a' := ?_) (bv 6 14) rfl rfl (by kernel_rfl) (fun _ _ _ h => h) (Or.inl ⟨by rfl, ?_⟩) ?_ ?_
              rotate_left
              ·intro w'
               go_simp
               with_reducible rfl
              rotate_left
              ·simp only [Act.put, sA, sB, sC, i64_w, i32_w]
               rfl
              refine take_ (i := 0) (N := some 134) (v := ?_) (a' := ?_) (bv 6 15) rfl rfl (by kernel_rfl) (fun _ _ _ h => h) (Or.inl ⟨by rfl, ?_⟩) hHeld ?_ ?_
              rotate_left
              ·rintro w' ⟨s0, s1, s2, s3, s4, s5, s6⟩
               go_simp
               with_reducible rfl
              rotate_left
              ·simp only [Act.put, sA, sB, sC, i64_w, i32_w]
               rfl
              refine take_ (i := 4) (N := some 138) (v := ?_) (a' := ?_) (bv 6 31) rfl rfl (by kernel_rfl) (fun _ _ _ h => h) (Or.inl ⟨by rfl, ?_⟩) hHeld ?_ ?_
              rotate_left
              ·rintro w' ⟨s0, s1, s2, s3, s4, s5, s6⟩
               go_simp
               with_reducible rfl
              rotate_left
              ·simp only [Act.put, sA, sB, sC, i64_w, i32_w]
               rfl
              refine one_ (i := 5) (N := some 139) (bv 6 63) rfl rfl (by kernel_rfl) (by decide) (fun K hK => ?_)
              refine goes_ Tryd.func22 (by kernel_rfl) rfl #[.agg #[.int .i64 T, .int .i64 U, .slice aF E.length aA, .int .i64 V, .bool W, .bool X], .int .i64 (rd x s)] (by rfl) rfl rfl ag_ ?_
              with_reducible refine (shutterref11_Open.calls k1 T U _ _ E V W X (rd x s) true _ ?side1 ?side2 op.out).mono ?_
              (case side1 => repeat (first | exact (Kd.C_below aQ.out HB.out) | (with_reducible apply pC)))
              (case side2 => exact a7.out)
              rintro e sm ⟨rfl, hb⟩
              have iK := (hb.cell (bk_ _ _ (hHeld.2.2.2.2.2.2))).trans (hHeld.2.2.2.2.2.2)
              refine ⟨_, rfl, ?_⟩
              have y := Z (rb HO_12.out hb)
              have z := Z (rb HO_265002.out hb)
              have A := Z (kb b.out hb)
              have B := Z (kb d.out hb)
              have G := Z (kb m.out hb)
              have P := Z (kb q.out hb)
              have aj := Z (below_step bl_ hb)
              clear HO_12
              clear HO_265002
              clear b
              clear d
              clear m
              clear q
              clear HB
              have HO_12 := y
              have HO_265002 := z
              have b := A
              have d := B
              have m := G
              have q := P
              have HB := aj
              clear y z A B G P aj
              (try clear hb)
              (try clear bU)
              (try clear hk)
              (try clear hi)
              refine hK.out _ _ ⟨(blk_cell b.out 0).trans rfl, (blk_cell b.out 1).trans rfl, (blk_cell b.out 2).trans rfl, (blk_cell b.out 3).trans rfl, (blk_cell b.out 4).trans rfl, (blk_cell b.out 5).trans rfl, iK⟩ (fun hHeld => ?_)
              clear hK K
              refine norm_ (a' := ?_) ?_ ?_
              rotate_left
              ·show Act.put _ (some 139) _ = _
               simp only [Act.put, sA, sB, sC, i64_w, i32_w]
               rfl
              refine done_ (by kernel_rfl) ?_
              try go_wp2
              have y := Z (Kd.R_drew HO_12.out)
              have z := Z (Kd.R_drew HO_265002.out)
              have A := Z (blk_drew b.out)
              have B := Z (blk_drew d.out)
              have G := Z (blk_drew m.out)
              have P := Z (blk_drew q.out)
              have aj := Z (below_drew1 HB.out)
              clear HO_12
              clear HO_265002
              clear b
              clear d
              clear m
              clear q
              clear HB
              have HO_12 := y
              have HO_265002 := z
              have b := A
              have d := B
              have m := G
              have q := P
              have HB := aj
              clear y z A B G P aj
              have mG : 0 ≤ (s : Int) := od_
              have mL : s < (x.length : Int) := od_
              obtain ⟨pb, pO, h3⟩ := Kd.at_int (Kd.R_reads' HO_12.out).2.2 s mG mL
              obtain rfl : cv = pb := (by injection pO)
              replace mG := eq_true mG
              replace mL := eq_true mL
              have mD : 0 ≤ ((rd x s) : Int) := od_
              have mI : ((rd x s) : Int) < ((r.length : Int) : Int) := od_
              obtain ⟨bb, m2, m4, m7, pm, wy, mT⟩ := Kd.R_form HO_265002.out (by omega)
              (first | cases m4 | (injection m4 with ea_ en_ ec_; (first | subst ea_ | (injection ea_ with ea_; subst ea_)); subst ec_; clear en_))
              have o4 := Z m7
              have mR := Z mT
              clear m7 pm mT
              obtain ⟨wv, oM, na, bN, bP⟩ := Kd.R_elem HO_265002.out z44 ((rd x s) : Int) mD mI
              obtain rfl := k44_openM na
              have oj : World.cell? _ ⟨bb, ((rd x s) : Int).toNat * 6, none⟩ = some (.bool ((rd_T44 r (rd x s)).f0)) := bN 0 _ rfl
              have ok : World.cell? _ ⟨bb, ((rd x s) : Int).toNat * 6 + 1, none⟩ = some (.bool ((rd_T44 r (rd x s)).f1.f0)) := bN 1 _ rfl
              have ol : World.cell? _ ⟨bb, ((rd x s) : Int).toNat * 6 + 2, none⟩ = some (.bool ((rd_T44 r (rd x s)).f1.f1)) := bN 2 _ rfl
              have om : World.cell? _ ⟨bb, ((rd x s) : Int).toNat * 6 + 3, none⟩ = some (.int .i64 ((rd_T44 r (rd x s)).f1.f2)) := bN 3 _ rfl
              have on : World.cell? _ ⟨bb, ((rd x s) : Int).toNat * 6 + 4, none⟩ = some (.bool ((rd_T44 r (rd x s)).f1.f3)) := bN 4 _ rfl
              have oo : World.cell? _ ⟨bb, ((rd x s) : Int).toNat * 6 + 5, none⟩ = some (.int .u8 ((rd_T44 r (rd x s)).f2)) := bN 5 _ rfl
              have nN : World.frozen? _ ⟨bb, ((rd x s) : Int).toNat * 6, none⟩ = false := bP 0
              have nO : World.frozen? _ ⟨bb, ((rd x s) : Int).toNat * 6 + 1, none⟩ = false := bP 1
              have nP : World.frozen? _ ⟨bb, ((rd x s) : Int).toNat * 6 + 2, none⟩ = false := bP 2
              have nQ : World.frozen? _ ⟨bb, ((rd x s) : Int).toNat * 6 + 3, none⟩ = false := bP 3
              have nR : World.frozen? _ ⟨bb, ((rd x s) : Int).toNat * 6 + 4, none⟩ = false := bP 4
              have nS : World.frozen? _ ⟨bb, ((rd x s) : Int).toNat * 6 + 5, none⟩ = false := bP 5
              clear oM bN bP na
              replace mD := eq_true mD
              replace mI := eq_true mI
              obtain ⟨ww, iz, nb, ix, o0⟩ := Kd.R_elem HO_265002.out z44 ((rd x s) : Int) (od_) (by have h_ : ((rd x s) : Int) < ((r.length : Int) : Int) := od_; first | exact h_ | (have e_ := (Kd.R_reads' HO_265002.out).1; omega) | simpa using h_)
              obtain rfl := k44_openM nb
              have h9 := (Kd.R_seg HO_265002.out ((rd x s) : Int) (od_) (by have h_ : ((rd x s) : Int) < ((r.length : Int) : Int) := od_; first | exact h_ | (have e_ := (Kd.R_reads' HO_265002.out).1; omega) | simpa using h_) (seg := [.int .u8 0]) (j := 5) iz ix (show 6 ≤ 6 from by decide) (x' := (⟨(rd_T44 r (rd x s)).f0, (⟨(rd_T44 r (rd x s)).f1.f0, (rd_T44 r (rd x s)).f1.f1, (rd_T44 r (rd x s)).f1.f2, (rd_T44 r (rd x s)).f1.f3⟩ : S28), 0⟩ : S44)) (k44_mkM _ _ _ (⟨(rd_T44 r (rd x s)).f0, (⟨(rd_T44 r (rd x s)).f1.f0, (rd_T44 r (rd x s)).f1.f1, (rd_T44 r (rd x s)).f1.f2, (rd_T44 r (rd x s)).f1.f3⟩ : S28), 0⟩ : S44) ) (fun _ hk => hk)).1
              rw [← pa.out] at h9
              have mV := Z h9
              clear iz ix o0 nb h9
              refine start_ (n := 9) (S := fun w' => w'.cell? ⟨D, 0, none⟩ = some (.int .i64 I) ∧ w'.cell? ⟨D, 1, none⟩ = some (.int .i64 J) ∧ w'.cell? ⟨D, 2, none⟩ = some (.slice (some ⟨bb, 0, none⟩) r.length m2) ∧ w'.cell? ⟨D, 3, none⟩ = some (.int .i64 O) ∧ w'.cell? ⟨D, 4, none⟩ = some (.bool L) ∧ w'.cell? ⟨D, 5, none⟩ = some (.bool M) ∧ w'.cell? (cv.add (s).toNat) = some (.int .i64 (rd x s))) (ds := [8]) (bv 9 0) (by kernel_rfl) rfl rfl ⟨(blk_cell q.out 0).trans rfl, (blk_cell q.out 1).trans rfl, (blk_cell q.out 2).trans rfl, (blk_cell q.out 3).trans rfl, (blk_cell q.out 4).trans rfl, (blk_cell q.out 5).trans rfl, h3⟩ (fun hHeld => ?_); refine with_tabW shutterref12_One.tab32 shutterref12_One.bits32 (fun HT_ HW_ => ?_)
              generalize sm.drew = y3 at HO_12 HO_265002 b d m q HB mR mV nN nO nP nQ nR nS oj ok ol om on oo h3 hHeld ⊢
              refine pure_ (i := 0) (N := some 140) (v := ?_) (a' := ?_) (bv 9 1) rfl rfl (any_of HT_.out (by kernel_rfl)) (fun _ _ _ h => h) (Or.inl ⟨by rfl, ?_⟩) ?_ ?_
              rotate_left
              ·intro w'
               go_simp
               with_reducible rfl
              rotate_left
              ·simp only [Act.put, sA, sB, sC, i64_w, i32_w]
               rfl
              refine pure_ (i := 2) (N := some 142) (v := ?_) (a' := ?_) (bv 9 5) rfl rfl (any_of HT_.out (by kernel_rfl)) (fun _ _ _ h => h) (Or.inl ⟨by rfl, ?_⟩) ?_ ?_
              rotate_left
              ·intro w'
               go_simp
               with_reducible rfl
              rotate_left
              ·simp only [Act.put, sA, sB, sC, i64_w, i32_w]
               rfl
              refine pure_ (i := 3) (N := some 143) (v := ?_) (a' := ?_) (bv 9 13) rfl rfl (any_of HT_.out (by kernel_rfl)) (fun _ _ _ h => h) (Or.inl ⟨by rfl, ?_⟩) ?_ ?_
              rotate_left
              ·intro w'
               go_simp
               with_reducible rfl
              rotate_left
              ·simp only [Act.put, sA, sB, sC, i64_w, i32_w]
               rfl
              refine pure_ (i := 4) (N := some 144) (v := ?_) (a' := ?_) (bv 9 29) rfl rfl (any_of HT_.out (by kernel_rfl)) (fun _ _ _ h => h) (Or.inl ⟨by rfl, ?_⟩) ?_ ?_
              rotate_left
              ·intro w'
               go_simp
               with_reducible rfl
              rotate_left
              ·simp only [Act.put, sA, sB, sC, i64_w, i32_w]
               rfl
              refine take_ (i := 1) (N := some 141) (v := ?_) (a' := ?_) (bv 9 31) rfl rfl (take_ofW HT_.out HW_.out (by kernel_rfl)) (fun _ _ _ h => h) (Or.inl ⟨by rfl, ?_⟩) hHeld ?_ ?_
              rotate_left
              ·rintro w' ⟨s0, s1, s2, s3, s4, s5, s6⟩
               go_simp
               with_reducible rfl
              rotate_left
              ·simp only [Act.put, sA, sB, sC, i64_w, i32_w]
               rfl
              refine take_ (i := 5) (N := some 145) (v := ?_) (a' := ?_) (bv 9 63) rfl rfl (take_ofW HT_.out HW_.out (by kernel_rfl)) (fun _ _ _ h => h) (Or.inl ⟨by rfl, ?_⟩) hHeld ?_ ?_
              rotate_left
              ·rintro w' ⟨s0, s1, s2, s3, s4, s5, s6⟩
               go_simp
               with_reducible rfl
              rotate_left
              ·simp only [Act.put, sA, sB, sC, i64_w, i32_w]
               rfl
              refine pure_ (i := 6) (N := some 146) (v := ?_) (a' := ?_) (bv 9 127) rfl rfl (any_of HT_.out (by kernel_rfl)) (fun _ _ _ h => h) (Or.inl ⟨by rfl, ?_⟩) ?_ ?_
              rotate_left
              ·intro w'
               go_simp
               with_reducible rfl
              rotate_left
              ·simp only [Act.put, sA, sB, sC, i64_w, i32_w]
               rfl
              refine pure_ (i := 7) (N := some 147) (v := ?_) (a' := ?_) (bv 9 255) rfl rfl (any_of HT_.out (by kernel_rfl)) (fun _ _ _ h => h) (Or.inl ⟨by rfl, ?_⟩) ?_ ?_
              rotate_left
              ·intro w'
               go_simp
               with_reducible rfl
              rotate_left
              ·simp only [Act.put, sA, sB, sC, i64_w, i32_w]
               rfl
              refine last_ (i := 8) (N := none) (bv 9 511) rfl rfl (one_of HT_.out (by kernel_rfl)) (by decide) (fun K hK => ?_)
              refine skip_ (w1 := ?_) (by rfl) rfl ?_ ?_
              rotate_left
              ·go_simp
               rfl
              refine hK.out _ _ ?_
              clear hK K
              refine done_ (done_of HT_.out (by kernel_rfl)) ?_
              try go_wp2
              go_roundg k1
              case measure => have := bJ.out; omega
              case rel => exact ⟨(wrap64 (s + 1)), (o2), (.slice (some ⟨bb, 0, none⟩) r.length m2), (dn_), H', ⟨by have := bJ.out; omega⟩, ⟨by (with_reducible repeat apply pR); exact Kd.R_mono (Kd.R_far (p := ⟨bb, ((rd x s) : Int).toNat * 6 + 5, none⟩) (Kd.R_types HO_12.out mR.out (by decide)) (fun _ hk => hk.2) (.int .u8 0)) (fun _ hk => trivial)⟩, ⟨by (with_reducible repeat apply pR); exact mV.out⟩, ⟨by (with_reducible repeat apply pK); refine blk_far ?_ (by have h_ := Kd.R_ne HO_265002.out b.out (by decide); intro e_; exact h_ (by rw [e_]; rfl)) _; (with_reducible repeat apply pK); exact b.out⟩, ⟨by (with_reducible repeat apply pK); refine blk_far ?_ (by have h_ := Kd.R_ne HO_265002.out d.out (by decide); intro e_; exact h_ (by rw [e_]; rfl)) _; (with_reducible repeat apply pK); exact d.out⟩, ⟨by (with_reducible repeat apply pK); refine blk_far ?_ (by have h_ := Kd.R_ne HO_265002.out m.out (by decide); intro e_; exact h_ (by rw [e_]; rfl)) _; (with_reducible repeat apply pK); exact m.out⟩, ⟨by (with_reducible repeat apply pK); refine blk_far ?_ (by have h_ := Kd.R_ne HO_265002.out q.out (by decide); intro e_; exact h_ (by rw [e_]; rfl)) _; (with_reducible repeat apply pK); exact q.out⟩, ⟨by repeat (first | (with_reducible first | exact HB.out | apply below_alloc | apply pw_below_drewN | apply below_drew1 | refine below_set ?_ o4.out | refine below_set ?_ bQ.out | refine below_set ?_ bR.out | refine below_set ?_ bS.out | refine below_set ?_ bT.out) | exact HB.out)⟩⟩
             ·rw [if_neg ik] at H
              exact absurd H (by simp)
            ·rw [if_neg ij] at H
             exact absurd H (by simp)
           ·replace ii := Bool.eq_false_iff.mpr ii
            subst ii
            have H1 : (shutterref12_One.l2 k1 x (wrap64 (s + 1)) T U E V W X ab ai ap aq ar au av ak I J r O L M) = some (r1, r2, r3, r4, r5, r6, r7) := by rw [if_neg (show ¬ (false = true) by decide)] at H; exact H
            clear H
            have H := H1
            clear H1
            have H' := Z H
            clear H
            obtain ⟨wn, wA, pj⟩ := Kd.R_slice HO_12.out
            subst pj
            have vk := ay.out
            have wa := ax.out
            have vl := l.out
            have wb := ae.out
            have vm := an.out
            have wc := aH.out
            obtain ⟨qf, qg, qh, qi, qj, qk, ql, qm, qH, qI, qJ, qK, qL, qN, qO, qP⟩ := cells8 d.out
            try go_wp2
            have y := Z (Kd.R_drew HO_12.out)
            have z := Z (Kd.R_drew HO_265002.out)
            have A := Z (blk_drew b.out)
            have B := Z (blk_drew d.out)
            have G := Z (blk_drew m.out)
            have P := Z (blk_drew q.out)
            have aj := Z (below_drew1 HB.out)
            clear HO_12
            clear HO_265002
            clear b
            clear d
            clear m
            clear q
            clear HB
            have HO_12 := y
            have HO_265002 := z
            have b := A
            have d := B
            have m := G
            have q := P
            have HB := aj
            clear y z A B G P aj
            have cm : 0 ≤ (s : Int) := od_
            have cn : s < (x.length : Int) := od_
            obtain ⟨cv, iO, bW⟩ := Kd.at_int (Kd.R_reads' HO_12.out).2.2 s cm cn
            cases iO
            replace cm := eq_true cm
            replace cn := eq_true cn
            refine start_ (n := 6) (S := fun w' => w'.cell? ⟨ah, 0, none⟩ = some (.int .i64 T) ∧ w'.cell? ⟨ah, 1, none⟩ = some (.int .i64 U) ∧ w'.cell? ⟨ah, 2, none⟩ = some (.slice aF E.length aA) ∧ w'.cell? ⟨ah, 3, none⟩ = some (.int .i64 V) ∧ w'.cell? ⟨ah, 4, none⟩ = some (.bool W) ∧ w'.cell? ⟨ah, 5, none⟩ = some (.bool X) ∧ w'.cell? (cv.add (s).toNat) = some (.int .i64 (rd x s))) (ds := []) (bv 6 0) (by kernel_rfl) rfl rfl ⟨(blk_cell b.out 0).trans rfl, (blk_cell b.out 1).trans rfl, (blk_cell b.out 2).trans rfl, (blk_cell b.out 3).trans rfl, (blk_cell b.out 4).trans rfl, (blk_cell b.out 5).trans rfl, bW⟩ (fun hHeld => ?_)
            generalize wr.drew = y4 at HO_12 HO_265002 b d m q HB bW hHeld ⊢
            refine pure_ (i := 1) (N := some 135) (v := ?_) (a' := ?_) (bv 6 2) rfl rfl (by kernel_rfl) (fun _ _ _ h => h) (Or.inl ⟨by rfl, ?_⟩) ?_ ?_
            rotate_left
            ·intro w'
             go_simp
             with_reducible rfl
            rotate_left
            ·simp only [Act.put, sA, sB, sC, i64_w, i32_w]
             rfl
            refine pure_ (i := 2) (N := some 136) (v := ?_) (a' := ?_) (bv 6 6) rfl rfl (by kernel_rfl) (fun _ _ _ h => h) (Or.inl ⟨by rfl, ?_⟩) ?_ ?_
            rotate_left
            ·intro w'
             go_simp
             with_reducible rfl
            rotate_left
            ·simp only [Act.put, sA, sB, sC, i64_w, i32_w]
             rfl
            refine pure_ (i := 3) (N := some 137) (v := ?_) (a' := ?_) (bv 6 14) rfl rfl (by kernel_rfl) (fun _ _ _ h => h) (Or.inl ⟨by rfl, ?_⟩) ?_ ?_
            rotate_left
            ·intro w'
             go_simp
             with_reducible rfl
            rotate_left
            ·simp only [Act.put, sA, sB, sC, i64_w, i32_w]
             rfl
            refine take_ (i := 0) (N := some 134) (v := ?_) (a' := ?_) (bv 6 15) rfl rfl (by kernel_rfl) (fun _ _ _ h => h) (Or.inl ⟨by rfl, ?_⟩) hHeld ?_ ?_
            rotate_left
            ·rintro w' ⟨s0, s1, s2, s3, s4, s5, s6⟩
             go_simp
             with_reducible rfl
            rotate_left
            ·simp only [Act.put, sA, sB, sC, i64_w, i32_w]
             rfl
            refine take_ (i := 4) (N := some 138) (v := ?_) (a' := ?_) (bv 6 31) rfl rfl (by kernel_rfl) (fun _ _ _ h => h) (Or.inl ⟨by rfl, ?_⟩) hHeld ?_ ?_
            rotate_left
            ·rintro w' ⟨s0, s1, s2, s3, s4, s5, s6⟩
             go_simp
             with_reducible rfl
            rotate_left
            ·simp only [Act.put, sA, sB, sC, i64_w, i32_w]
             rfl
            refine one_ (i := 5) (N := some 139) (bv 6 63) rfl rfl (by kernel_rfl) (by decide) (fun K hK => ?_)
            refine goes_ Tryd.func22 (by kernel_rfl) rfl #[.agg #[.int .i64 T, .int .i64 U, .slice aF E.length aA, .int .i64 V, .bool W, .bool X], .int .i64 (rd x s)] (by rfl) rfl rfl ag_ ?_
            with_reducible refine (shutterref11_Open.calls k1 T U _ _ E V W X (rd x s) false _ ?side1 ?side2 op.out).mono ?_
            (case side1 => repeat (first | exact (Kd.C_below aQ.out HB.out) | (with_reducible apply pC)))
            (case side2 => exact a7.out)
            rintro e y5 ⟨rfl, hb⟩
            have iK := (hb.cell (bk_ _ _ (hHeld.2.2.2.2.2.2))).trans (hHeld.2.2.2.2.2.2)
            refine ⟨_, rfl, ?_⟩
            have y := Z (rb HO_12.out hb)
            have z := Z (rb HO_265002.out hb)
            have A := Z (kb b.out hb)
            have B := Z (kb d.out hb)
            have G := Z (kb m.out hb)
            have P := Z (kb q.out hb)
            have aj := Z (below_step bl_ hb)
            clear HO_12
            clear HO_265002
            clear b
            clear d
            clear m
            clear q
            clear HB
            have HO_12 := y
            have HO_265002 := z
            have b := A
            have d := B
            have m := G
            have q := P
            have HB := aj
            clear y z A B G P aj
            (try clear hb)
            (try clear bU)
            (try clear hk)
            (try clear hi)
            refine hK.out _ _ ⟨(blk_cell b.out 0).trans rfl, (blk_cell b.out 1).trans rfl, (blk_cell b.out 2).trans rfl, (blk_cell b.out 3).trans rfl, (blk_cell b.out 4).trans rfl, (blk_cell b.out 5).trans rfl, iK⟩ (fun hHeld => ?_)
            clear hK K
            refine norm_ (a' := ?_) ?_ ?_
            rotate_left
            ·show Act.put _ (some 139) _ = _
             simp only [Act.put, sA, sB, sC, i64_w, i32_w]
             rfl
            refine done_ (by kernel_rfl) ?_
            try go_wp2
            go_roundg k1
            case measure => have := bJ.out; omega
            case rel => exact ⟨(wrap64 (s + 1)), (r), (u265002), (dn_), H', ⟨by have := bJ.out; omega⟩, ⟨by (with_reducible repeat apply pR); exact HO_12.out⟩, ⟨by (with_reducible repeat apply pR); exact HO_265002.out⟩, ⟨vK b.out⟩, ⟨vK d.out⟩, ⟨vK m.out⟩, ⟨vK q.out⟩, ⟨bl_⟩⟩
          ·rw [if_neg ig] at H
           exact absurd H (by simp)
        ·rw [if_neg cG] at H
         have oA : decide (s < (x.length : Int)) = false := decide_eq_false cG
         clear cG
         simp only [Option.some.injEq, Prod.mk.injEq] at H
         obtain ⟨rfl, rfl, rfl, rfl, rfl, rfl, rfl⟩ := H
         obtain ⟨o3, pd, pk⟩ := Kd.R_slice HO_12.out
         subst pk
         try go_wp2
         have y := Z (Kd.R_drew HO_12.out)
         have z := Z (Kd.R_drew HO_265002.out)
         have A := Z (blk_drew b.out)
         have B := Z (blk_drew d.out)
         have G := Z (blk_drew m.out)
         have P := Z (blk_drew q.out)
         have aj := Z (below_drew1 HB.out)
         clear HO_12
         clear HO_265002
         clear b
         clear d
         clear m
         clear q
         clear HB
         have HO_12 := y
         have HO_265002 := z
         have b := A
         have d := B
         have m := G
         have q := P
         have HB := aj
         clear y z A B G P aj
         obtain ⟨a6, a9, m5⟩ := Kd.R_slice HO_265002.out
         (first | subst m5 | (injection m5 with pt t4 pu; have t5 := pt.symm; have t6 := pu.symm; clear pt t4 pu; subst t5; subst t6))
         refine start_ (n := 5) (S := fun w' => w'.cell? ⟨D, 0, none⟩ = some (.int .i64 I) ∧ w'.cell? ⟨D, 1, none⟩ = some (.int .i64 J) ∧ w'.cell? ⟨D, 2, none⟩ = some (.slice a6 r.length a9) ∧ w'.cell? ⟨D, 3, none⟩ = some (.int .i64 O) ∧ w'.cell? ⟨D, 4, none⟩ = some (.bool L) ∧ w'.cell? ⟨D, 5, none⟩ = some (.bool M) ∧ w'.cell? ⟨ac, 0, none⟩ = some (.int .i64 ab) ∧ w'.cell? ⟨ac, 1, none⟩ = some (.slice aR ai.length aP) ∧ w'.cell? ⟨ac, 2, none⟩ = some (.bool ap) ∧ w'.cell? ⟨ac, 3, none⟩ = some (.bool aq) ∧ w'.cell? ⟨ac, 4, none⟩ = some (.int .i64 ar) ∧ w'.cell? ⟨ac, 5, none⟩ = some (.bool au) ∧ w'.cell? ⟨ac, 6, none⟩ = some (.int .i64 av) ∧ w'.cell? ⟨ac, 7, none⟩ = some (.int .u8 ak)) (ds := []) (bv 5 0) (by kernel_rfl) rfl rfl ⟨(blk_cell q.out 0).trans rfl, (blk_cell q.out 1).trans rfl, (blk_cell q.out 2).trans rfl, (blk_cell q.out 3).trans rfl, (blk_cell q.out 4).trans rfl, (blk_cell q.out 5).trans rfl, (blk_cell d.out 0).trans rfl, (blk_cell d.out 1).trans rfl, (blk_cell d.out 2).trans rfl, (blk_cell d.out 3).trans rfl, (blk_cell d.out 4).trans rfl, (blk_cell d.out 5).trans rfl, (blk_cell d.out 6).trans rfl, (blk_cell d.out 7).trans rfl⟩ (fun hHeld => ?_)
         generalize wr.drew = bq at HO_12 HO_265002 b d m q HB hHeld ⊢
         refine pure_ (i := 1) (N := some 149) (v := ?_) (a' := ?_) (bv 5 2) rfl rfl (by kernel_rfl) (fun _ _ _ h => h) (Or.inl ⟨by rfl, ?_⟩) ?_ ?_
         rotate_left
         ·intro w'
          go_simp
          with_reducible rfl
         rotate_left
         ·simp only [Act.put, sA, sB, sC, i64_w, i32_w]
          rfl
         refine take_ (i := 0) (N := some 148) (v := ?_) (a' := ?_) (bv 5 3) rfl rfl (by kernel_rfl) (fun _ _ _ h => h) (Or.inl ⟨by rfl, ?_⟩) hHeld ?_ ?_
         rotate_left
         ·rintro w' ⟨s0, s1, s2, s3, s4, s5, s6, s7, s8, s9, b9, ca, cC, cD⟩
          go_simp
          with_reducible rfl
         rotate_left
         ·simp only [Act.put, sA, sB, sC, i64_w, i32_w]
          rfl
         refine take_ (i := 2) (N := some 150) (v := ?_) (a' := ?_) (bv 5 7) rfl rfl (by kernel_rfl) (fun _ _ _ h => h) (Or.inl ⟨by rfl, ?_⟩) hHeld ?_ ?_
         rotate_left
         ·rintro w' ⟨s0, s1, s2, s3, s4, s5, s6, s7, s8, s9, b9, ca, cC, cD⟩
          go_simp
          with_reducible rfl
         rotate_left
         ·simp only [Act.put, sA, sB, sC, i64_w, i32_w]
          rfl
         refine one_ (i := 3) (N := none) (bv 5 15) rfl rfl (by kernel_rfl) (by decide) (fun K hK => ?_)
         have xL : bq.cell? ⟨a, 0, none⟩ = some (.int .i64 0) := (blk_cell m.out 0).trans rfl
         have ul := blk_frozen m.out 0
         have rP := u.out
         have rQ := l.out
         have rR := c.out
         have re := ad.out
         have rf := ae.out
         have rg := Y.out
         have xM : bq.cell? ⟨a, 1, none⟩ = some (.int .i64 0) := (blk_cell m.out 1).trans rfl
         have um := blk_frozen m.out 1
         have rS := u.out
         have rT := l.out
         have rU := c.out
         have rh := ad.out
         have ri := ae.out
         have rj := Y.out
         have xN : bq.cell? ⟨a, 2, none⟩ = some (.slice none 0 0) := (blk_cell m.out 2).trans rfl
         have un := blk_frozen m.out 2
         have rV := u.out
         have rW := l.out
         have rX := c.out
         have rk := ad.out
         have rl := ae.out
         have rm := Y.out
         have xO : bq.cell? ⟨a, 3, none⟩ = some (.int .i64 0) := (blk_cell m.out 3).trans rfl
         have uo := blk_frozen m.out 3
         have rY := u.out
         have rZ := l.out
         have r0 := c.out
         have rn := ad.out
         have ro := ae.out
         have rp := Y.out
         have xP : bq.cell? ⟨a, 4, none⟩ = some (.bool false) := (blk_cell m.out 4).trans rfl
         have up := blk_frozen m.out 4
         have r8 := u.out
         have r9 := l.out
         have sa := c.out
         have rq := ad.out
         have rr := ae.out
         have rs := Y.out
         have xQ : bq.cell? ⟨a, 5, none⟩ = some (.bool false) := (blk_cell m.out 5).trans rfl
         have uq := blk_frozen m.out 5
         have sb := u.out
         have sc := l.out
         have sd := c.out
         have rt := ad.out
         have ru := ae.out
         have rv := Y.out
         refine skip_ (w1 := ?_) (by rfl) rfl ?_ ?_
         rotate_left
         ·go_simp
          rfl
         refine hK.out _ _ ⟨((cell_far (p := ⟨a, _, none⟩) c.out _).trans (((cell_far (p := ⟨a, _, none⟩) c.out _).trans (((cell_far (p := ⟨a, _, none⟩) c.out _).trans (((cell_far (p := ⟨a, _, none⟩) c.out _).trans (((cell_far (p := ⟨a, _, none⟩) c.out _).trans (((cell_far (p := ⟨a, _, none⟩) c.out _).trans (hHeld.1)))))))))))), ((cell_far (p := ⟨a, _, none⟩) c.out _).trans (((cell_far (p := ⟨a, _, none⟩) c.out _).trans (((cell_far (p := ⟨a, _, none⟩) c.out _).trans (((cell_far (p := ⟨a, _, none⟩) c.out _).trans (((cell_far (p := ⟨a, _, none⟩) c.out _).trans (((cell_far (p := ⟨a, _, none⟩) c.out _).trans (hHeld.2.1)))))))))))), ((cell_far (p := ⟨a, _, none⟩) c.out _).trans (((cell_far (p := ⟨a, _, none⟩) c.out _).trans (((cell_far (p := ⟨a, _, none⟩) c.out _).trans (((cell_far (p := ⟨a, _, none⟩) c.out _).trans (((cell_far (p := ⟨a, _, none⟩) c.out _).trans (((cell_far (p := ⟨a, _, none⟩) c.out _).trans (hHeld.2.2.1)))))))))))), ((cell_far (p := ⟨a, _, none⟩) c.out _).trans (((cell_far (p := ⟨a, _, none⟩) c.out _).trans (((cell_far (p := ⟨a, _, none⟩) c.out _).trans (((cell_far (p := ⟨a, _, none⟩) c.out _).trans (((cell_far (p := ⟨a, _, none⟩) c.out _).trans (((cell_far (p := ⟨a, _, none⟩) c.out _).trans (hHeld.2.2.2.1)))))))))))), ((cell_far (p := ⟨a, _, none⟩) c.out _).trans (((cell_far (p := ⟨a, _, none⟩) c.out _).trans (((cell_far (p := ⟨a, _, none⟩) c.out _).trans (((cell_far (p := ⟨a, _, none⟩) c.out _).trans (((cell_far (p := ⟨a, _, none⟩) c.out _).trans (((cell_far (p := ⟨a, _, none⟩) c.out _).trans (hHeld.2.2.2.2.1)))))))))))), ((cell_far (p := ⟨a, _, none⟩) c.out _).trans (((cell_far (p := ⟨a, _, none⟩) c.out _).trans (((cell_far (p := ⟨a, _, none⟩) c.out _).trans (((cell_far (p := ⟨a, _, none⟩) c.out _).trans (((cell_far (p := ⟨a, _, none⟩) c.out _).trans (((cell_far (p := ⟨a, _, none⟩) c.out _).trans (hHeld.2.2.2.2.2.1)))))))))))), ((cell_far (p := ⟨a, _, none⟩) l.out _).trans (((cell_far (p := ⟨a, _, none⟩) l.out _).trans (((cell_far (p := ⟨a, _, none⟩) l.out _).trans (((cell_far (p := ⟨a, _, none⟩) l.out _).trans (((cell_far (p := ⟨a, _, none⟩) l.out _).trans (((cell_far (p := ⟨a, _, none⟩) l.out _).trans (hHeld.2.2.2.2.2.2.1)))))))))))), ((cell_far (p := ⟨a, _, none⟩) l.out _).trans (((cell_far (p := ⟨a, _, none⟩) l.out _).trans (((cell_far (p := ⟨a, _, none⟩) l.out _).trans (((cell_far (p := ⟨a, _, none⟩) l.out _).trans (((cell_far (p := ⟨a, _, none⟩) l.out _).trans (((cell_far (p := ⟨a, _, none⟩) l.out _).trans (hHeld.2.2.2.2.2.2.2.1)))))))))))), ((cell_far (p := ⟨a, _, none⟩) l.out _).trans (((cell_far (p := ⟨a, _, none⟩) l.out _).trans (((cell_far (p := ⟨a, _, none⟩) l.out _).trans (((cell_far (p := ⟨a, _, none⟩) l.out _).trans (((cell_far (p := ⟨a, _, none⟩) l.out _).trans (((cell_far (p := ⟨a, _, none⟩) l.out _).trans (hHeld.2.2.2.2.2.2.2.2.1)))))))))))), ((cell_far (p := ⟨a, _, none⟩) l.out _).trans (((cell_far (p := ⟨a, _, none⟩) l.out _).trans (((cell_far (p := ⟨a, _, none⟩) l.out _).trans (((cell_far (p := ⟨a, _, none⟩) l.out _).trans (((cell_far (p := ⟨a, _, none⟩) l.out _).trans (((cell_far (p := ⟨a, _, none⟩) l.out _).trans (hHeld.2.2.2.2.2.2.2.2.2.1)))))))))))), ((cell_far (p := ⟨a, _, none⟩) l.out _).trans (((cell_far (p := ⟨a, _, none⟩) l.out _).trans (((cell_far (p := ⟨a, _, none⟩) l.out _).trans (((cell_far (p := ⟨a, _, none⟩) l.out _).trans (((cell_far (p := ⟨a, _, none⟩) l.out _).trans (((cell_far (p := ⟨a, _, none⟩) l.out _).trans (hHeld.2.2.2.2.2.2.2.2.2.2.1)))))))))))), ((cell_far (p := ⟨a, _, none⟩) l.out _).trans (((cell_far (p := ⟨a, _, none⟩) l.out _).trans (((cell_far (p := ⟨a, _, none⟩) l.out _).trans (((cell_far (p := ⟨a, _, none⟩) l.out _).trans (((cell_far (p := ⟨a, _, none⟩) l.out _).trans (((cell_far (p := ⟨a, _, none⟩) l.out _).trans (hHeld.2.2.2.2.2.2.2.2.2.2.2.1)))))))))))), ((cell_far (p := ⟨a, _, none⟩) l.out _).trans (((cell_far (p := ⟨a, _, none⟩) l.out _).trans (((cell_far (p := ⟨a, _, none⟩) l.out _).trans (((cell_far (p := ⟨a, _, none⟩) l.out _).trans (((cell_far (p := ⟨a, _, none⟩) l.out _).trans (((cell_far (p := ⟨a, _, none⟩) l.out _).trans (hHeld.2.2.2.2.2.2.2.2.2.2.2.2.1)))))))))))), ((cell_far (p := ⟨a, _, none⟩) l.out _).trans (((cell_far (p := ⟨a, _, none⟩) l.out _).trans (((cell_far (p := ⟨a, _, none⟩) l.out _).trans (((cell_far (p := ⟨a, _, none⟩) l.out _).trans (((cell_far (p := ⟨a, _, none⟩) l.out _).trans (((cell_far (p := ⟨a, _, none⟩) l.out _).trans (hHeld.2.2.2.2.2.2.2.2.2.2.2.2.2))))))))))))⟩ (fun hHeld => ?_)
         clear hK K
         refine pure_ (i := 4) (N := some 7) (v := ?_) (a' := ?_) (bv 5 31) rfl rfl (by kernel_rfl) (fun _ _ _ h => h) (Or.inl ⟨by rfl, ?_⟩) ?_ ?_
         rotate_left
         ·intro w'
          go_simp
          with_reducible rfl
         rotate_left
         ·simp only [Act.put, sA, sB, sC, i64_w, i32_w]
          rfl
         refine done_ (by kernel_rfl) ?_
         have y : Aside0 (Kd.R (Kd.int .i64) 3 ((((((bq.setCell ⟨a, 0, none⟩ (.int .i64 I)).setCell ⟨a, 1, none⟩ (.int .i64 J)).setCell ⟨a, 2, none⟩ (.slice a6 r.length a9)).setCell ⟨a, 3, none⟩ (.int .i64 O)).setCell ⟨a, 4, none⟩ (.bool L)).setCell ⟨a, 5, none⟩ (.bool M)) w.heap.size (fun _ => True) (.slice o3 x.length pd) x) := ⟨by (with_reducible repeat apply pR); exact Kd.R_mono (f6R a (Kd.R_types HO_12.out m.out (by decide)) (fun _ hk => hk.2)) (fun _ hk => trivial)⟩
         have z : Aside0 (Kd.R k44 44 ((((((bq.setCell ⟨a, 0, none⟩ (.int .i64 I)).setCell ⟨a, 1, none⟩ (.int .i64 J)).setCell ⟨a, 2, none⟩ (.slice a6 r.length a9)).setCell ⟨a, 3, none⟩ (.int .i64 O)).setCell ⟨a, 4, none⟩ (.bool L)).setCell ⟨a, 5, none⟩ (.bool M)) w.heap.size (fun _ => True) (.slice a6 r.length a9) r) := ⟨by (with_reducible repeat apply pR); exact Kd.R_mono (f6R a (Kd.R_types HO_265002.out m.out (by decide)) (fun _ hk => hk.2)) (fun _ hk => trivial)⟩
         have A : Aside0 (((((((bq.setCell ⟨a, 0, none⟩ (.int .i64 I)).setCell ⟨a, 1, none⟩ (.int .i64 J)).setCell ⟨a, 2, none⟩ (.slice a6 r.length a9)).setCell ⟨a, 3, none⟩ (.int .i64 O)).setCell ⟨a, 4, none⟩ (.bool L)).setCell ⟨a, 5, none⟩ (.bool M)).heap[ah]? = some (.cells #[.int .i64 T, .int .i64 U, .slice aF E.length aA, .int .i64 V, .bool W, .bool X] 24 (0, 0))) := ⟨blk_off b.out u.out off2_⟩
         have B : Aside0 (((((((bq.setCell ⟨a, 0, none⟩ (.int .i64 I)).setCell ⟨a, 1, none⟩ (.int .i64 J)).setCell ⟨a, 2, none⟩ (.slice a6 r.length a9)).setCell ⟨a, 3, none⟩ (.int .i64 O)).setCell ⟨a, 4, none⟩ (.bool L)).setCell ⟨a, 5, none⟩ (.bool M)).heap[ac]? = some (.cells #[.int .i64 ab, .slice aR ai.length aP, .bool ap, .bool aq, .int .i64 ar, .bool au, .int .i64 av, .int .u8 ak] 30 (0, 0))) := ⟨blk_off d.out l.out off2_⟩
         have G : Aside0 (((((((bq.setCell ⟨a, 0, none⟩ (.int .i64 I)).setCell ⟨a, 1, none⟩ (.int .i64 J)).setCell ⟨a, 2, none⟩ (.slice a6 r.length a9)).setCell ⟨a, 3, none⟩ (.int .i64 O)).setCell ⟨a, 4, none⟩ (.bool L)).setCell ⟨a, 5, none⟩ (.bool M)).heap[a]? = some (.cells #[.int .i64 I, .int .i64 J, .slice a6 r.length a9, .int .i64 O, .bool L, .bool M] 24 (0, 0))) := ⟨put6 m.out⟩
         have P : Aside0 (((((((bq.setCell ⟨a, 0, none⟩ (.int .i64 I)).setCell ⟨a, 1, none⟩ (.int .i64 J)).setCell ⟨a, 2, none⟩ (.slice a6 r.length a9)).setCell ⟨a, 3, none⟩ (.int .i64 O)).setCell ⟨a, 4, none⟩ (.bool L)).setCell ⟨a, 5, none⟩ (.bool M)).heap[D]? = some (.cells #[.int .i64 I, .int .i64 J, .slice a6 r.length a9, .int .i64 O, .bool L, .bool M] 24 (0, 0))) := ⟨blk_off q.out c.out off2_⟩
         have aj : Aside0 (Below w.heap.size w ((((((bq.setCell ⟨a, 0, none⟩ (.int .i64 I)).setCell ⟨a, 1, none⟩ (.int .i64 J)).setCell ⟨a, 2, none⟩ (.slice a6 r.length a9)).setCell ⟨a, 3, none⟩ (.int .i64 O)).setCell ⟨a, 4, none⟩ (.bool L)).setCell ⟨a, 5, none⟩ (.bool M))) := ⟨bl_⟩
         (try clear HO_12)
         (try clear HO_265002)
         (try clear b)
         (try clear d)
         (try clear m)
         (try clear q)
         (try clear HB)
         generalize ((((((bq.setCell ⟨a, 0, none⟩ (.int .i64 I)).setCell ⟨a, 1, none⟩ (.int .i64 J)).setCell ⟨a, 2, none⟩ (.slice a6 r.length a9)).setCell ⟨a, 3, none⟩ (.int .i64 O)).setCell ⟨a, 4, none⟩ (.bool L)).setCell ⟨a, 5, none⟩ (.bool M)) = y6 at y z A B G P aj ⊢
         have HO_12 := y
         have HO_265002 := z
         have b := A
         have d := B
         have m := G
         have q := P
         have HB := aj
         clear y z A B G P aj
         try go_wp2
         refine bodyPost_ret (results_ct rfl _ _ a 24 #[.int .i64 I, .int .i64 J, .slice a6 r.length a9, .int .i64 O, .bool L, .bool M] (0, 0) _ rfl (vK m.out) Tryd.underlying24 rfl (by kernel_rfl)) rfl ?_
         exact ⟨_, er_, by (with_reducible repeat apply pR); exact HO_265002.out, bl_⟩

end Go.Proofs.YtgboplhcjhlabaaDoor.P
