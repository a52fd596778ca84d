/- pp.py and press2.py (wip/tools) wrote this text. -/
import Derived.Test.YtphboakgkmjpbaaGreatDoorJHostDoes1
import Derived.Test.YtphboakgkmjpbaaGreatDoorPx4
import Derived.Test.YtphboakgkmjpbaaGreatDoorPx23
import Derived.Test.YtphboakgkmjpbaaGreatDoorPx24
namespace Go.Proofs.YtphboakgkmjpbaaGreatDoor.P
open Go.RowKit Go.Proofs.YtphboakgkmjpbaaGreatDoorW.PrintWords Go.Proofs.YtphboakgkmjpbaaGreatDoorW.PrintLast Go.Proofs.YtphboakgkmjpbaaGreatDoorW.PrintMore
attribute [local go_sem] max2_int min2_int max_two min_two max_three min_three max_four min_four
attribute [local go_sem] Instr.field asAgg
set_option linter.unusedVariables false
set_option linter.unusedSimpArgs false
set_option maxHeartbeats 8000000
set_option maxRecDepth 100000

/-! ### shutterref12_One: function 55 -/
mutual
def shutterref12_One.l0 : Nat → Int → Int → Int → Int → List (S47) → Int → Bool → Bool → Int → List Int → Bool → Bool → Int → Bool → Int → Int → Int → Int → List (S47) → Int → Bool → Bool → Option (Int × Int × (List (S47)) × Int × Bool × Bool × Int)
 | 0, _, _, _, _, _, _, _, _, _, _, _, _, _, _, _, _, _, _, _, _, _, _ => none
 | k + 1, w, x, c, d, e, g, h, i, p, a, q, r, s, t, u, v, j, l, b, m, n, o => if x < (a.length : Int) then (if 0 ≤ x then (if 0 ≤ w then (if w < (b.length : Int) then ((shutterref10_Next.f c d e g h i w).bind fun y => (shutterref12_One.l0 k y (wrap64 (x + 1)) c d e g h i p a q r s t u v j l (b.set (w : Int).toNat (⟨false, (⟨false, false, 0, false⟩ : S45), rd a x⟩ : S47)) m n o)) else (none)) else (none)) else (none)) else (some (j, l, b, m, n, o, w))
def shutterref12_One.l1 : Nat → Int → Int → Int → List (S47) → Int → Bool → Bool → Int → Int → List (S47) → Int → Bool → Bool → Option (Int × Int × (List (S47)) × Int × Bool × Bool × Int)
 | 0, _, _, _, _, _, _, _, _, _, _, _, _, _ => none
 | k + 1, x10, i, j, a, l, m, n, b, c, d, e, g, h => if x10 < (a.length : Int) then ((shutterref10_Next.f i j a l m n x10).bind fun o => (if 0 ≤ x10 then (if (rd_T47 a x10).f0 = true then (if ((rd_T47 a x10).f1.f0 = true) then (shutterref12_One.l1 k (wrap64 (x10 + 1)) i j a l m n b c d e g h) else (if 0 ≤ o then (if o < (a.length : Int) then (if ((rd_T47 a o).f0 = true) then (shutterref12_One.l1 k (wrap64 (x10 + 1)) i j a l m n b c d e g h) else (some (b, c, d, e, g, h, o))) else (none)) else (none))) else (shutterref12_One.l1 k (wrap64 (x10 + 1)) i j a l m n b c d e g h)) else (none))) else (some (b, c, d, e, g, h, 0))
def shutterref12_One.l2 : Nat → List Int → Int → Int → Int → List (S47) → Int → Bool → Bool → Int → List Int → Bool → Bool → Int → Bool → Int → Int → Int → Int → List (S47) → Int → Bool → Bool → Option (Int × Int × (List (S47)) × Int × Bool × Bool × Int)
 | 0, _, _, _, _, _, _, _, _, _, _, _, _, _, _, _, _, _, _, _, _, _, _ => none
 | k + 1, x12, b, c, d, e, g, h, i, j, s, t, u, v, w, l, m, n, o, a, p, q, r => if b < (x12.length : Int) then (if j = 6 then (if 0 ≤ b then (if 0 ≤ (rd x12 b) then (if (rd x12 b) < (a.length : Int) then (shutterref12_One.l2 k x12 (wrap64 (b + 1)) c d e g h i j s t u v w l m n o (a.set ((rd x12 b) : Int).toNat (⟨false, (⟨false, false, 0, false⟩ : S45), m⟩ : S47)) p q r) else (none)) else (none)) else (none)) else (if 0 ≤ b then ((shutterref11_Open.f k c d e g h i (rd x12 b)).bind fun x => (if x = true then (if 0 ≤ (rd x12 b) then (if (rd x12 b) < (a.length : Int) then (shutterref12_One.l2 k x12 (wrap64 (b + 1)) c d e g h i j s t u v w l m n o (a.set ((rd x12 b) : Int).toNat (⟨(rd_T47 a (rd x12 b)).f0, (⟨(rd_T47 a (rd x12 b)).f1.f0, (rd_T47 a (rd x12 b)).f1.f1, (rd_T47 a (rd x12 b)).f1.f2, (rd_T47 a (rd x12 b)).f1.f3⟩ : S45), 0⟩ : S47)) p q r) else (none)) else (none)) else (shutterref12_One.l2 k x12 (wrap64 (b + 1)) c d e g h i j s t u v w l m n o a p q r))) else (none))) else (some (n, o, a, p, q, r, l))
end
def shutterref12_One.f (k : Nat) (c d : Int) (i : List (S47)) (e : Int) (g h : Bool) (a1 b : Int) (q : List Int) (l m : Bool) (n : Int) (o : Bool) (j p : Int) : Option (Int × Int × (List (S47)) × Int × Bool × Bool × Int) := (shutterref10_Copy.f c d i e g h).bind fun a => (if b = 1 then (shutterref12_One.l0 k a1 0 c d i e g h b q l m n o j p a.1 a.2.1 a.2.2.1 a.2.2.2.1 a.2.2.2.2.1 a.2.2.2.2.2) else (if b = 2 then (if 0 ≤ a1 then (if a1 < (a.2.2.1.length : Int) then ((shutterref10_Next.f c d i e g h a1).bind fun r => (some (a.1, a.2.1, (a.2.2.1.set (a1 : Int).toNat (⟨true, (⟨l, m, n, o⟩ : S45), 0⟩ : S47)), a.2.2.2.1, a.2.2.2.2.1, a.2.2.2.2.2, r))) else (none)) else (none)) else (if b = 3 then (some (a.1, a.2.1, a.2.2.1, a.2.2.2.1, a.2.2.2.2.1, a.2.2.2.2.2, j)) else (if b = 4 then (some (a.1, a.2.1, a.2.2.1, a1, a.2.2.2.2.1, a.2.2.2.2.2, a1)) else (if b = 5 then (shutterref12_One.l1 k a1 c d i e g h a.1 a.2.1 a.2.2.1 a.2.2.2.1 a.2.2.2.2.1 a.2.2.2.2.2) else ((shutterref10_Span.f k c d i e g h a1 j).bind fun s => (shutterref12_One.l2 k s 0 c d i e g h b q l m n o j p a.1 a.2.1 a.2.2.1 a.2.2.2.1 a.2.2.2.2.1 a.2.2.2.2.2)))))))
theorem shutterref12_One.mono_l : ∀ k, (∀ d e o s t u v w x y a b c f g i j l m n p q, LeO (shutterref12_One.l0 k d e o s t u v w x y a b c f g i j l m n p q) (shutterref12_One.l0 (k + 1) d e o s t u v w x y a b c f g i j l m n p q)) ∧ (∀ d e o s t u v w x y a b c, LeO (shutterref12_One.l1 k d e o s t u v w x y a b c) (shutterref12_One.l1 (k + 1) d e o s t u v w x y a b c)) ∧ (∀ d e o s t u v w x y a b c f g i j l m n p q, LeO (shutterref12_One.l2 k d e o s t u v w x y a b c f g i j l m n p q) (shutterref12_One.l2 (k + 1) d e o s t u v w x y a b c f g i j l m n p q))
 | 0 => ⟨fun _ _ _ _ _ _ _ _ _ _ _ _ _ _ _ _ _ _ _ _ _ _ r h => by simp [shutterref12_One.l0] at h, fun _ _ _ _ _ _ _ _ _ _ _ _ _ r h => by simp [shutterref12_One.l1] at h, fun _ _ _ _ _ _ _ _ _ _ _ _ _ _ _ _ _ _ _ _ _ _ r h => by simp [shutterref12_One.l2] at h⟩
 | k + 1 => by
  obtain ⟨z, A, B⟩ := shutterref12_One.mono_l k
  refine ⟨?_, ?_, ?_⟩
  ·intro d e o s t u v w x y a b c f g i j l m n p q
   unfold shutterref12_One.l0
   repeat' first
   | (with_reducible exact z _ _ _ _ _ _ _ _ _ _ _ _ _ _ _ _ _ _ _ _ _ _)
   | (with_reducible exact A _ _ _ _ _ _ _ _ _ _ _ _ _)
   | (with_reducible exact B _ _ _ _ _ _ _ _ _ _ _ _ _ _ _ _ _ _ _ _ _ _)
   | (with_reducible exact shutterref10_Span.mono _ _ _ _ _ _ _ _ _)
   | (with_reducible exact shutterref11_Open.mono _ _ _ _ _ _ _ _)
   | (with_reducible exact LeO.refl _)
   | (with_reducible exact LeO.none _)
   | (with_reducible refine LeO.ite ?_ ?_)
   | (with_reducible refine LeO.bind ?_ (fun _ => ?_))
   | exact z _ _ _ _ _ _ _ _ _ _ _ _ _ _ _ _ _ _ _ _ _ _
   | exact A _ _ _ _ _ _ _ _ _ _ _ _ _
   | exact B _ _ _ _ _ _ _ _ _ _ _ _ _ _ _ _ _ _ _ _ _ _
   | exact shutterref10_Span.mono _ _ _ _ _ _ _ _ _
   | exact shutterref11_Open.mono _ _ _ _ _ _ _ _
   | exact LeO.none _
   | refine LeO.ite ?_ ?_
   | refine LeO.bind ?_ (fun _ => ?_)
  ·intro d e o s t u v w x y a b c
   unfold shutterref12_One.l1
   repeat' first
   | (with_reducible exact z _ _ _ _ _ _ _ _ _ _ _ _ _ _ _ _ _ _ _ _ _ _)
   | (with_reducible exact A _ _ _ _ _ _ _ _ _ _ _ _ _)
   | (with_reducible exact B _ _ _ _ _ _ _ _ _ _ _ _ _ _ _ _ _ _ _ _ _ _)
   | (with_reducible exact shutterref10_Span.mono _ _ _ _ _ _ _ _ _)
   | (with_reducible exact shutterref11_Open.mono _ _ _ _ _ _ _ _)
   | (with_reducible exact LeO.refl _)
   | (with_reducible exact LeO.none _)
   | (with_reducible refine LeO.ite ?_ ?_)
   | (with_reducible refine LeO.bind ?_ (fun _ => ?_))
   | exact z _ _ _ _ _ _ _ _ _ _ _ _ _ _ _ _ _ _ _ _ _ _
   | exact A _ _ _ _ _ _ _ _ _ _ _ _ _
   | exact B _ _ _ _ _ _ _ _ _ _ _ _ _ _ _ _ _ _ _ _ _ _
   | exact shutterref10_Span.mono _ _ _ _ _ _ _ _ _
   | exact shutterref11_Open.mono _ _ _ _ _ _ _ _
   | exact LeO.none _
   | refine LeO.ite ?_ ?_
   | refine LeO.bind ?_ (fun _ => ?_)
  ·intro d e o s t u v w x y a b c f g i j l m n p q
   unfold shutterref12_One.l2
   repeat' first
   | (with_reducible exact z _ _ _ _ _ _ _ _ _ _ _ _ _ _ _ _ _ _ _ _ _ _)
   | (with_reducible exact A _ _ _ _ _ _ _ _ _ _ _ _ _)
   | (with_reducible exact B _ _ _ _ _ _ _ _ _ _ _ _ _ _ _ _ _ _ _ _ _ _)
   | (with_reducible exact shutterref10_Span.mono _ _ _ _ _ _ _ _ _)
   | (with_reducible exact shutterref11_Open.mono _ _ _ _ _ _ _ _)
   | (with_reducible exact LeO.refl _)
   | (with_reducible exact LeO.none _)
   | (with_reducible refine LeO.ite ?_ ?_)
   | (with_reducible refine LeO.bind ?_ (fun _ => ?_))
   | exact z _ _ _ _ _ _ _ _ _ _ _ _ _ _ _ _ _ _ _ _ _ _
   | exact A _ _ _ _ _ _ _ _ _ _ _ _ _
   | exact B _ _ _ _ _ _ _ _ _ _ _ _ _ _ _ _ _ _ _ _ _ _
   | exact shutterref10_Span.mono _ _ _ _ _ _ _ _ _
   | exact shutterref11_Open.mono _ _ _ _ _ _ _ _
   | exact LeO.none _
   | refine LeO.ite ?_ ?_
   | refine LeO.bind ?_ (fun _ => ?_)
theorem shutterref12_One.mono : ∀ a0 a1 j l a4 m n o p q a b c d e k, LeO (shutterref12_One.f k a0 a1 j l a4 m n o p q a b c d e) (shutterref12_One.f (k + 1) a0 a1 j l a4 m n o p q a b c d e) := by
 intro a0 a1 j l a4 m n o p q a b c d e k
 obtain ⟨g, h, i⟩ := shutterref12_One.mono_l k
 unfold shutterref12_One.f
 repeat' first
   | (with_reducible exact g _ _ _ _ _ _ _ _ _ _ _ _ _ _ _ _ _ _ _ _ _ _)
   | (with_reducible exact h _ _ _ _ _ _ _ _ _ _ _ _ _)
   | (with_reducible exact i _ _ _ _ _ _ _ _ _ _ _ _ _ _ _ _ _ _ _ _ _ _)
   | (with_reducible exact shutterref10_Span.mono _ _ _ _ _ _ _ _ _)
   | (with_reducible exact shutterref11_Open.mono _ _ _ _ _ _ _ _)
   | (with_reducible exact LeO.refl _)
   | (with_reducible exact LeO.none _)
   | (with_reducible refine LeO.ite ?_ ?_)
   | (with_reducible refine LeO.bind ?_ (fun _ => ?_))
   | exact g _ _ _ _ _ _ _ _ _ _ _ _ _ _ _ _ _ _ _ _ _ _
   | exact h _ _ _ _ _ _ _ _ _ _ _ _ _
   | exact i _ _ _ _ _ _ _ _ _ _ _ _ _ _ _ _ _ _ _ _ _ _
   | exact shutterref10_Span.mono _ _ _ _ _ _ _ _ _
   | exact shutterref11_Open.mono _ _ _ _ _ _ _ _
   | exact LeO.none _
   | refine LeO.ite ?_ ?_
   | refine LeO.bind ?_ (fun _ => ?_)
def shutterref12_One.T6 : Bool × List (List Nat × List Nat) := (true, [([], []), ([0], [0]), ([], []), ([], []), ([3], [3]), ([], []), ([4, 5], [4, 5]), ([6], [6]), ([7], [7]), ([1, 2, 0, 1, 2, 3, 4, 5, 6, 7, 8], [1, 2]), ([9, 8, 0, 1, 2, 3, 4, 5, 6, 7, 8], [8, 9])])
def shutterref12_One.B6 : List Nat := [0, 1, 0, 0, 8, 0, 56, 120, 248, 511, 1023]
theorem shutterref12_One.tab6 : rtab .any (opsOf Tryz.f55 6) = shutterref12_One.T6 := by kernel_rfl
theorem shutterref12_One.bits6 : waitsOk shutterref12_One.T6.2 shutterref12_One.B6 = true := by kernel_rfl
def shutterref12_One.T30 : Bool × List (List Nat × List Nat) := (true, [([], []), ([0], [0]), ([], []), ([], []), ([2, 3], [2, 3]), ([4], [4]), ([], []), ([6], [6]), ([7], [7]), ([1, 5, 0, 1, 2, 3, 4, 5, 6, 7, 8], [1, 5]), ([9, 8, 0, 1, 2, 3, 4, 5, 6, 7, 8], [8, 9])])
def shutterref12_One.B30 : List Nat := [0, 1, 0, 0, 12, 28, 0, 64, 192, 511, 1023]
theorem shutterref12_One.tab30 : rtab .any (opsOf Tryz.f55 30) = shutterref12_One.T30 := by kernel_rfl
theorem shutterref12_One.bits30 : waitsOk shutterref12_One.T30.2 shutterref12_One.B30 = true := by kernel_rfl
def shutterref12_One.T32 : Bool × List (List Nat × List Nat) := (true, [([], []), ([0], [0]), ([], []), ([], []), ([2, 3], [2, 3]), ([4], [4]), ([1, 5, 0, 1, 2, 3, 4, 5], [1, 5]), ([6, 0, 1, 2, 3, 4, 5], [6]), ([7, 0, 1, 2, 3, 4, 5], [7])])
def shutterref12_One.B32 : List Nat := [0, 1, 0, 0, 12, 28, 63, 127, 255]
theorem shutterref12_One.tab32 : rtab .any (opsOf Tryz.f55 32) = shutterref12_One.T32 := by kernel_rfl
theorem shutterref12_One.bits32 : waitsOk shutterref12_One.T32.2 shutterref12_One.B32 = true := by kernel_rfl
theorem shutterref12_One.calls (k : Nat) (T U : Int) (aF : Option Addr) (aA : Nat) (E : List (S47)) (V : Int) (W X : Bool) (a1 ab : Int) (aR : Option Addr) (aP : Nat) (ai : List Int) (ap aq : Bool) (ar : Int) (au : Bool) (av ak r1 r2 : Int) (r3 : List (S47)) (r4 : Int) (r5 r6 : Bool) (r7 : Int) (w : World) (ni : Kd.C k47 w aF E.length E) (nc : E.length ≤ aA) (nj : Kd.C (Kd.int .u8) w aR ai.length ai) (nd : ai.length ≤ aP) (h : shutterref12_One.f k T U E V W X a1 ab ai ap aq ar au av ak = some (r1, r2, r3, r4, r5, r6, r7)) :
  Calls Tryz.prog 55 #[.agg #[.int .i64 T, .int .i64 U, .slice aF E.length aA, .int .i64 V, .bool W, .bool X], .int .i64 a1, .agg #[.int .i64 ab, .slice aR ai.length aP, .bool ap, .bool aq, .int .i64 ar, .bool au, .int .i64 av, .int .u8 ak]] w fun e w' => ∃ pu : Value, e = .returned (.tuple #[.agg #[.int .i64 r1, .int .i64 r2, pu, .int .i64 r4, .bool r5, .bool r6], .int .i64 r7]) ∧ Kd.R k47 47 w' w.heap.size (fun _ => True) pu r3 ∧ Below w.heap.size w w' := by
 have yE := Tryz.underlying24
 have yH := Tryz.underlying49
 have yG := Tryz.underlying47
 have yF := Tryz.underlying45
 have aQ := Z ni
 have a7 := Z nc
 clear ni nc
 have o6 := Z nj
 have wv := Z nd
 clear nj nd
 have HB := Z (Below.refl w.heap.size w)
 unfold shutterref12_One.f at h
 have H := h
 clear h
 replace H := bn_ H
 obtain ⟨⟨I, J, F, O, L, M⟩, A4, H⟩ := H
 try dsimp only at H
 by_cases c5 : ab = 1
 ·rw [if_pos c5] at H
  obtain ⟨iL, iM⟩ := eT_ c5
  clear c5
  have H' := Z H
  clear H
  go_enter Tryz.func55, Tryz.ntmps55
  go_wp2_with (first | ((with_reducible refine gD_ 3 rfl ?_); refine bx_ 3 24 #[.int .i64 T, .int .i64 U, .slice aF E.length aA, .int .i64 V, .bool W, .bool X] ?_; intro ah hg w6 hbox hb; have b := Z hbox; have cp := ln' w hg; replace HB := bs_ hb; clear hb hbox hg) | ((with_reducible refine gD_ 5 rfl ?_); refine bx_ 5 49 #[.int .i64 ab, .slice aR ai.length aP, .bool ap, .bool aq, .int .i64 ar, .bool au, .int .i64 av, .int .u8 ak] ?_; intro ac hg w7 hbox hb; have d := Z hbox; have cq := ln' w hg; replace HB := bs_ hb; have ax := nl' b hg; replace b := kb' b hb; clear hb hbox hg) | ((with_reducible refine gD_ 6 rfl ?_); refine bx_ 6 24 zS_ ?_; intro a hg w8 hbox hb; have m := Z hbox; have cr := ln' w hg; replace HB := bs_ hb; have u := nl' b hg; replace b := kb' b hb; have l := nl' d hg; replace d := kb' d hb; clear hb hbox hg; have yw := ns_ ax; have wN := ns_ u; have nn := cells6 b.out) | ((with_reducible refine gF_ 27 rfl ?_); refine gd_ (some 15) Tryz.func27 (shutterref10_Copy.calls T U _ _ E V W X I J F O L M _ (cB_ aQ HB) a7.out A4.out) ?_; rintro e zl ⟨ff, rfl, bn, hb⟩; refine ⟨_, rfl, ?_⟩; have Q := Z (Kd.R_lower bn (below_size bl_)); replace b := kb' b hb; replace d := kb' d hb; replace m := kb' m hb; replace HB := bs_ hb; (try clear hb); (try clear bn)) | ((with_reducible refine gD_ 8 rfl ?_); refine bx_ 8 24 zS_ ?_; intro D hg wo hbox hb; replace Q := rb' Q hb; have q := Z hbox; have ct := ln' w hg; replace HB := bs_ hb; have am := nl' b hg; replace b := kb' b hb; have an := nl' d hg; replace d := kb' d hb; have Y := nl' m hg; replace m := kb' m hb; clear hb hbox hg; have wO := ns_ am; have wP := ns_ an; have wQ := ns_ Y; have nt := cells6 q.out; obtain ⟨h7, iq, pO⟩ := Kd.R_slice Q.out; subst pO) | ((with_reducible refine gate_store (t := 24) (p := 8) rfl ?_); refine sx_ 24 8 ((((((wo.setCell ⟨D, 0, none⟩ (.int .i64 I)).setCell ⟨D, 1, none⟩ (.int .i64 J)).setCell ⟨D, 2, none⟩ (.slice h7 F.length iq)).setCell ⟨D, 3, none⟩ (.int .i64 O)).setCell ⟨D, 4, none⟩ (.bool L)).setCell ⟨D, 5, none⟩ (.bool M)) ?_; intro h4 hw; replace Q : Aside0 (Kd.R k47 47 h4 w.heap.size (fun _ => True) (.slice h7 F.length iq) F) := ⟨(by rw [hw]; exact (by (with_reducible repeat apply pR); exact R_off Q.out q.out (by decide) off2_))⟩; replace b := Z (sM hw (blk_off b.out am.out off2_)); replace d := Z (sM hw (blk_off d.out an.out off2_)); replace m := Z (sM hw (blk_off m.out Y.out off2_)); replace q : Aside0 (h4.heap[D]? = some (.cells #[.int .i64 I, .int .i64 J, .slice h7 F.length iq, .int .i64 O, .bool L, .bool M] 24 (0, 0))) := ⟨by rw [hw]; exact (put6 q.out)⟩; replace HB : Aside0 (Below w.heap.size w h4) := ⟨by rw [hw]; exact bl_⟩; clear hw; have wR := ns_ l; have nz := cells8 d.out))
  go_loopg [1, 9] k (fun kq v1 v9 w' => ∃ (af : Int) (aU : Int) (r : List (S47)) (GI : Value), v1 = .int .i64 af ∧ v9 = .int .i64 aU ∧ Aside0 (shutterref12_One.l0 kq af aU T U E V W X ab ai ap aq ar au av ak I J r O L M = some (r1, r2, r3, r4, r5, r6, r7)) ∧ Aside0 (kq ≤ k) ∧ Aside0 (Kd.R k47 47 w' w.heap.size (fun _ => True) GI r) ∧ Aside0 (w'.heap[ah]? = some (.cells #[.int .i64 T, .int .i64 U, (.slice aF E.length aA), .int .i64 V, .bool W, .bool X] 24 (0, 0))) ∧ Aside0 (w'.heap[ac]? = some (.cells #[.int .i64 ab, (.slice aR ai.length aP), .bool ap, .bool aq, .int .i64 ar, .bool au, .int .i64 av, .int .u8 ak] 49 (0, 0))) ∧ Aside0 (w'.heap[a]? = some (.cells zS_ 24 (0, 0))) ∧ Aside0 (w'.heap[D]? = some (.cells #[.int .i64 I, .int .i64 J, GI, .int .i64 O, .bool L, .bool M] 24 (0, 0))) ∧ Aside0 (Below w.heap.size w w'))
  case atStart => exact ⟨(a1), (0), (F), (.slice h7 F.length iq), (dn_), (dn_), H', ⟨Nat.le_refl _⟩, ⟨vR_ Q.out⟩, ⟨vK b.out⟩, ⟨vK d.out⟩, ⟨vK m.out⟩, ⟨vK q.out⟩, ⟨bl_⟩⟩
  case round =>
   clear H'
   try clear c5
   try clear iL
   try clear iM
   try clear nn
   try clear nt
   try clear nz
   obtain ⟨af, aU, r, GI, rfl, rfl, HA, bJ, GH, b, d, m, q, HB⟩ := hrel
   cases gk with
   | zero => exact absurd HA.out (by simp [shutterref12_One.l0])
   | succ k1 =>
    have H := HA.out
    clear HA
    simp only [shutterref12_One.l0] at H
    by_cases cM : aU < (ai.length : Int)
    rotate_left
    ·rw [if_neg cM] at H
     have ih := decide_eq_false cM
     clear cM
     obtain ⟨rfl, rfl, rfl, rfl, rfl, rfl, rfl⟩ := ij7_ H
     have wX := ns_ ax
     have wY := ns_ l
     have wZ := ns_ an
     have fs := cells8 d.out
     have w0 := ns_ am
     have w2 := ns_ Y
     have fA := cells6 q.out
     have w3 := ns_ u
     have fG := cells6 m.out
     obtain ⟨cQ, da, pP⟩ := Kd.R_slice GH.out
     subst pP
     go_wp2_with (first | ((with_reducible refine gate_store (t := 24) (p := 6) rfl ?_); refine sx_ 24 6 ((((((wr.setCell ⟨a, 0, none⟩ (.int .i64 I)).setCell ⟨a, 1, none⟩ (.int .i64 J)).setCell ⟨a, 2, none⟩ (.slice cQ r.length da)).setCell ⟨a, 3, none⟩ (.int .i64 O)).setCell ⟨a, 4, none⟩ (.bool L)).setCell ⟨a, 5, none⟩ (.bool M)) ?_; intro h5 hw; replace GH : Aside0 (Kd.R k47 47 h5 w.heap.size (fun _ => True) (.slice cQ r.length da) r) := ⟨(by rw [hw]; exact (by (with_reducible repeat apply pR); exact R_off GH.out m.out (by decide) off2_))⟩; replace b := Z (sM hw (blk_off b.out u.out off2_)); replace d := Z (sM hw (blk_off d.out l.out off2_)); replace m : Aside0 (h5.heap[a]? = some (.cells #[.int .i64 I, .int .i64 J, .slice cQ r.length da, .int .i64 O, .bool L, .bool M] 24 (0, 0))) := ⟨by rw [hw]; exact (put6 m.out)⟩; replace q := Z (sM hw (blk_off q.out Y.out.symm off2_)); replace HB : Aside0 (Below w.heap.size w h5) := ⟨by rw [hw]; exact bl_⟩; clear hw))
     refine rc2_ (vK m.out) Tryz.underlying24 ?_
     exact ⟨_, er_, by (with_reducible repeat apply pR); exact GH.out, bl_⟩
    rw [if_pos cM] at H
    have ih := decide_eq_true cM
    clear cM
    obtain ⟨fi, H⟩ := gt_ H
    have ww := decide_eq_true fi
    clear fi
    obtain ⟨c24, H⟩ := gt_ H
    have wx := decide_eq_true c24
    clear c24
    obtain ⟨fj, H⟩ := gt_ H
    have wy := decide_eq_true fj
    clear fj
    obtain ⟨it, cy⟩ : ∃ y_ : List (S47), y_ = (r.set (af : Int).toNat (⟨false, (⟨false, false, 0, false⟩ : S45), rd ai aU⟩ : S47)) := ⟨_, rfl⟩
    rw [← cy] at H
    try replace H := sb_ H
    have o7 := Z cy
    clear cy
    replace H := bn_ H
    obtain ⟨fe, tu, H⟩ := H
    have H' := Z H
    clear H
    have wS := ns_ ax
    have wT := ns_ l
    have wU := ns_ an
    have so := cells8 d.out
    try go_wp2
    replace GH := Z (Kd.R_drew GH.out)
    replace b := Z (blk_drew b.out)
    replace d := Z (blk_drew d.out)
    replace m := Z (blk_drew m.out)
    replace q := Z (blk_drew q.out)
    replace HB := Z (below_drew1 HB.out)
    have mE : 0 ≤ (aU : Int) := od_
    have mJ : aU < (ai.length : Int) := od_
    obtain ⟨ia, GA, br⟩ := Kd.at_int o6.out aU mE mJ
    have h1 := br
    cases GA
    replace br := hc_ HB br
    replace mE := eq_true mE
    replace mJ := eq_true mJ
    have p26 : 0 ≤ (af : Int) := od_
    have e9 : (af : Int) < ((r.length : Int) : Int) := od_
    obtain ⟨al, ir, oD, oF, pT, yt, ot⟩ := Kd.R_form GH.out (by omega)
    (first | cases oD | (injection oD with ea_ en_ ec_; (first | subst ea_ | (injection ea_ with ea_; subst ea_)); subst ec_; clear en_))
    have cE := Z oF
    have pw := Z ot
    clear oF pT ot
    obtain ⟨yp, pn, oH, b0, b2⟩ := Kd.R_elem GH.out z47 (af : Int) p26 e9
    obtain rfl := k47_openM oH
    have eX : World.cell? _ ⟨al, (af : Int).toNat * 6, none⟩ = some (.bool ((rd_T47 r af).f0)) := b0 0 _ rfl
    have eY : World.cell? _ ⟨al, (af : Int).toNat * 6 + 1, none⟩ = some (.bool ((rd_T47 r af).f1.f0)) := b0 1 _ rfl
    have eZ : World.cell? _ ⟨al, (af : Int).toNat * 6 + 2, none⟩ = some (.bool ((rd_T47 r af).f1.f1)) := b0 2 _ rfl
    have e0 : World.cell? _ ⟨al, (af : Int).toNat * 6 + 3, none⟩ = some (.int .i64 ((rd_T47 r af).f1.f2)) := b0 3 _ rfl
    have e1 : World.cell? _ ⟨al, (af : Int).toNat * 6 + 4, none⟩ = some (.bool ((rd_T47 r af).f1.f3)) := b0 4 _ rfl
    have e2 : World.cell? _ ⟨al, (af : Int).toNat * 6 + 5, none⟩ = some (.int .u8 ((rd_T47 r af).f2)) := b0 5 _ rfl
    have oN : World.frozen? _ ⟨al, (af : Int).toNat * 6, none⟩ = false := b2 0
    have oO : World.frozen? _ ⟨al, (af : Int).toNat * 6 + 1, none⟩ = false := b2 1
    have oP : World.frozen? _ ⟨al, (af : Int).toNat * 6 + 2, none⟩ = false := b2 2
    have oQ : World.frozen? _ ⟨al, (af : Int).toNat * 6 + 3, none⟩ = false := b2 3
    have oR : World.frozen? _ ⟨al, (af : Int).toNat * 6 + 4, none⟩ = false := b2 4
    have oS : World.frozen? _ ⟨al, (af : Int).toNat * 6 + 5, none⟩ = false := b2 5
    clear pn b0 b2 oH
    replace p26 := eq_true p26
    replace e9 := eq_true e9
    obtain ⟨yq, nf, oI, ne, pp⟩ := Kd.R_elem GH.out z47 (af : Int) (od_) (by have h_ : (af : Int) < ((r.length : Int) : Int) := od_; first | exact h_ | (have e_ := (Kd.R_reads' GH.out).1; omega) | simpa using h_)
    obtain rfl := k47_openM oI
    have iI := (Kd.R_seg GH.out (af : Int) (od_) (by have h_ : (af : Int) < ((r.length : Int) : Int) := od_; first | exact h_ | (have e_ := (Kd.R_reads' GH.out).1; omega) | simpa using h_) (seg := [.bool false, .bool false, .bool false, .int .i64 0, .bool false, .int .u8 (rd ai aU)]) (j := 0) nf ne (show 6 ≤ 6 from by decide) (x' := (⟨false, (⟨false, false, 0, false⟩ : S45), rd ai aU⟩ : S47)) (k47_mkM _ _ _ (⟨false, (⟨false, false, 0, false⟩ : S45), rd ai aU⟩ : S47) ) (fun _ hk => hk)).1
    rw [← o7.out] at iI
    have ov := Z iI
    clear nf ne pp oI iI
    refine start_ (n := 11) (S := fun w' => w'.cell? ⟨D, 0, none⟩ = some (.int .i64 I) ∧ w'.cell? ⟨D, 1, none⟩ = some (.int .i64 J) ∧ w'.cell? ⟨D, 2, none⟩ = some (.slice (some ⟨al, 0, none⟩) r.length ir) ∧ w'.cell? ⟨D, 3, none⟩ = some (.int .i64 O) ∧ w'.cell? ⟨D, 4, none⟩ = some (.bool L) ∧ w'.cell? ⟨D, 5, none⟩ = some (.bool M) ∧ w'.cell? ⟨ac, 0, none⟩ = some (.int .i64 ab) ∧ w'.cell? ⟨ac, 1, none⟩ = some (.slice (some ia) ai.length aP) ∧ w'.cell? ⟨ac, 2, none⟩ = some (.bool ap) ∧ w'.cell? ⟨ac, 3, none⟩ = some (.bool aq) ∧ w'.cell? ⟨ac, 4, none⟩ = some (.int .i64 ar) ∧ w'.cell? ⟨ac, 5, none⟩ = some (.bool au) ∧ w'.cell? ⟨ac, 6, none⟩ = some (.int .i64 av) ∧ w'.cell? ⟨ac, 7, none⟩ = some (.int .u8 ak) ∧ w'.cell? (ia.add (aU).toNat) = some (.int .u8 (rd ai aU))) (ds := [10]) (bv 11 0) (by kernel_rfl) rfl rfl ⟨(blk_cell q.out 0).trans rfl, (blk_cell q.out 1).trans rfl, (blk_cell q.out 2).trans rfl, (blk_cell q.out 3).trans rfl, (blk_cell q.out 4).trans rfl, (blk_cell q.out 5).trans rfl, (blk_cell d.out 0).trans rfl, (blk_cell d.out 1).trans rfl, (blk_cell d.out 2).trans rfl, (blk_cell d.out 3).trans rfl, (blk_cell d.out 4).trans rfl, (blk_cell d.out 5).trans rfl, (blk_cell d.out 6).trans rfl, (blk_cell d.out 7).trans rfl, ((HB.out.cell (bk_ w _ h1)).trans h1)⟩ (fun hHeld => ?_); refine with_tabW shutterref12_One.tab6 shutterref12_One.bits6 (fun HT_ HW_ => ?_)
    generalize wr.drew = fg at GH b d m q HB pw ov oN oO oP oQ oR oS eX eY eZ e0 e1 e2 br hHeld ⊢
    refine pT_ HT_ 0 11 1 (some 26) ?_
    refine pT_ HT_ 2 11 5 (some 28) ?_
    refine pT_ HT_ 3 11 13 (some 29) ?_
    refine pT_ HT_ 5 11 45 (some 31) ?_
    refine tT_ HT_ HW_ hHeld 1 11 47 (some 27) ?_
    refine tT_ HT_ HW_ hHeld 4 11 63 (some 30) ?_
    refine pT_ HT_ 6 11 127 (some 32) ?_
    refine tT_ HT_ HW_ hHeld 7 11 255 (some 33) ?_
    refine pT_ HT_ 8 11 511 (some 34) ?_
    refine pT_ HT_ 9 11 1023 (some 35) ?_
    refine last_ (i := 10) (N := none) (bv 11 2047) rfl rfl (one_of HT_.out (by kernel_rfl)) (by decide) (fun K hK => ?_)
    refine skip_ (w1 := ?_) (by rfl) rfl ?_ ?_
    rotate_left
    ·go_simp
     rfl
    refine hK.out _ _ ?_
    clear hK K
    refine done_ (done_of HT_.out (by kernel_rfl)) ?_
    obtain ⟨zm, ezm⟩ : ∃ w_, w_ = ((((((fg.setCell ⟨al, (af : Int).toNat * 6, none⟩ (.bool false)).setCell ⟨al, (af : Int).toNat * 6 + 1, none⟩ (.bool false)).setCell ⟨al, (af : Int).toNat * 6 + 2, none⟩ (.bool false)).setCell ⟨al, (af : Int).toNat * 6 + 3, none⟩ (.int .i64 0)).setCell ⟨al, (af : Int).toNat * 6 + 4, none⟩ (.bool false)).setCell ⟨al, (af : Int).toNat * 6 + 5, none⟩ (.int .u8 (rd ai aU))) := ⟨_, rfl⟩
    have y : Aside0 (Kd.R k47 47 zm w.heap.size (fun _ => True) (.slice (some ⟨al, 0, none⟩) r.length ir) it) := ⟨by rw [ezm]; (with_reducible repeat apply pR); exact ov.out⟩
    have z : Aside0 (zm.heap[ah]? = some (.cells #[.int .i64 T, .int .i64 U, .slice aF E.length aA, .int .i64 V, .bool W, .bool X] 24 (0, 0))) := ⟨by rw [ezm]; (with_reducible repeat apply pK); refine blk_far ?_ (by have h_ := Kd.R_ne GH.out b.out (by decide); intro e_; exact h_ (by rw [e_]; rfl)) _; (with_reducible repeat apply pK); refine blk_far ?_ (by have h_ := Kd.R_ne GH.out b.out (by decide); intro e_; exact h_ (by rw [e_]; rfl)) _; (with_reducible repeat apply pK); refine blk_far ?_ (by have h_ := Kd.R_ne GH.out b.out (by decide); intro e_; exact h_ (by rw [e_]; rfl)) _; (with_reducible repeat apply pK); refine blk_far ?_ (by have h_ := Kd.R_ne GH.out b.out (by decide); intro e_; exact h_ (by rw [e_]; rfl)) _; (with_reducible repeat apply pK); refine blk_far ?_ (by have h_ := Kd.R_ne GH.out b.out (by decide); intro e_; exact h_ (by rw [e_]; rfl)) _; (with_reducible repeat apply pK); refine blk_far ?_ (by have h_ := Kd.R_ne GH.out b.out (by decide); intro e_; exact h_ (by rw [e_]; rfl)) _; (with_reducible repeat apply pK); exact b.out⟩
    have A : Aside0 (zm.heap[ac]? = some (.cells #[.int .i64 ab, .slice (some ia) ai.length aP, .bool ap, .bool aq, .int .i64 ar, .bool au, .int .i64 av, .int .u8 ak] 49 (0, 0))) := ⟨by rw [ezm]; (with_reducible repeat apply pK); refine blk_far ?_ (by have h_ := Kd.R_ne GH.out d.out (by decide); intro e_; exact h_ (by rw [e_]; rfl)) _; (with_reducible repeat apply pK); refine blk_far ?_ (by have h_ := Kd.R_ne GH.out d.out (by decide); intro e_; exact h_ (by rw [e_]; rfl)) _; (with_reducible repeat apply pK); refine blk_far ?_ (by have h_ := Kd.R_ne GH.out d.out (by decide); intro e_; exact h_ (by rw [e_]; rfl)) _; (with_reducible repeat apply pK); refine blk_far ?_ (by have h_ := Kd.R_ne GH.out d.out (by decide); intro e_; exact h_ (by rw [e_]; rfl)) _; (with_reducible repeat apply pK); refine blk_far ?_ (by have h_ := Kd.R_ne GH.out d.out (by decide); intro e_; exact h_ (by rw [e_]; rfl)) _; (with_reducible repeat apply pK); refine blk_far ?_ (by have h_ := Kd.R_ne GH.out d.out (by decide); intro e_; exact h_ (by rw [e_]; rfl)) _; (with_reducible repeat apply pK); exact d.out⟩
    have B : Aside0 (zm.heap[a]? = some (.cells zS_ 24 (0, 0))) := ⟨by rw [ezm]; (with_reducible repeat apply pK); refine blk_far ?_ (by have h_ := Kd.R_ne GH.out m.out (by decide); intro e_; exact h_ (by rw [e_]; rfl)) _; (with_reducible repeat apply pK); refine blk_far ?_ (by have h_ := Kd.R_ne GH.out m.out (by decide); intro e_; exact h_ (by rw [e_]; rfl)) _; (with_reducible repeat apply pK); refine blk_far ?_ (by have h_ := Kd.R_ne GH.out m.out (by decide); intro e_; exact h_ (by rw [e_]; rfl)) _; (with_reducible repeat apply pK); refine blk_far ?_ (by have h_ := Kd.R_ne GH.out m.out (by decide); intro e_; exact h_ (by rw [e_]; rfl)) _; (with_reducible repeat apply pK); refine blk_far ?_ (by have h_ := Kd.R_ne GH.out m.out (by decide); intro e_; exact h_ (by rw [e_]; rfl)) _; (with_reducible repeat apply pK); refine blk_far ?_ (by have h_ := Kd.R_ne GH.out m.out (by decide); intro e_; exact h_ (by rw [e_]; rfl)) _; (with_reducible repeat apply pK); exact m.out⟩
    have G : Aside0 (zm.heap[D]? = some (.cells #[.int .i64 I, .int .i64 J, .slice (some ⟨al, 0, none⟩) r.length ir, .int .i64 O, .bool L, .bool M] 24 (0, 0))) := ⟨by rw [ezm]; (with_reducible repeat apply pK); refine blk_far ?_ (by have h_ := Kd.R_ne GH.out q.out (by decide); intro e_; exact h_ (by rw [e_]; rfl)) _; (with_reducible repeat apply pK); refine blk_far ?_ (by have h_ := Kd.R_ne GH.out q.out (by decide); intro e_; exact h_ (by rw [e_]; rfl)) _; (with_reducible repeat apply pK); refine blk_far ?_ (by have h_ := Kd.R_ne GH.out q.out (by decide); intro e_; exact h_ (by rw [e_]; rfl)) _; (with_reducible repeat apply pK); refine blk_far ?_ (by have h_ := Kd.R_ne GH.out q.out (by decide); intro e_; exact h_ (by rw [e_]; rfl)) _; (with_reducible repeat apply pK); refine blk_far ?_ (by have h_ := Kd.R_ne GH.out q.out (by decide); intro e_; exact h_ (by rw [e_]; rfl)) _; (with_reducible repeat apply pK); refine blk_far ?_ (by have h_ := Kd.R_ne GH.out q.out (by decide); intro e_; exact h_ (by rw [e_]; rfl)) _; (with_reducible repeat apply pK); exact q.out⟩
    have P : Aside0 (Below w.heap.size w zm) := ⟨by rw [ezm]; repeat (first | (with_reducible first | exact HB.out | apply below_alloc | apply pw_below_drewN | apply below_drew1 | refine below_set ?_ cE.out | refine below_set ?_ cE.out | refine below_set ?_ cE.out | refine below_set ?_ cE.out | refine below_set ?_ cE.out | refine below_set ?_ cE.out | refine below_set ?_ cp.out | refine below_set ?_ cq.out | refine below_set ?_ cr.out | refine below_set ?_ ct.out) | exact HB.out)⟩
    (try clear GH)
    (try clear b)
    (try clear d)
    (try clear m)
    (try clear q)
    (try clear HB)
    rw [← ezm]
    clear ezm
    have GH := y
    have b := z
    have d := A
    have m := B
    have q := G
    have HB := P
    clear y z A B G P
    have wV := ns_ u
    have wW := ns_ am
    have fm := cells6 b.out
    try go_wp2_with (first | ((with_reducible refine gF_ 78 rfl ?_); refine gd_ (some 38) Tryz.func78 (shutterref10_Next.calls T U _ _ E V W X af fe _ (cB_ aQ HB) a7.out tu.out) ?_; rintro e zn ⟨rfl, hb⟩; refine ⟨_, rfl, ?_⟩; replace GH := rb' GH hb; replace b := kb' b hb; replace d := kb' d hb; replace m := kb' m hb; replace q := kb' q hb; replace HB := bs_ hb; (try clear hb); (try clear hk)))
    go_roundg k1
    case measure => have := bJ.out; omega
    case rel => exact ⟨(fe), (wrap64 (aU + 1)), (it), (.slice (some ⟨al, 0, none⟩) r.length ir), (dn_), (dn_), H', ⟨by have := bJ.out; omega⟩, ⟨vR_ GH.out⟩, ⟨vK b.out⟩, ⟨vK d.out⟩, ⟨vK m.out⟩, ⟨vK q.out⟩, ⟨bl_⟩⟩
 rw [if_neg c5] at H
 obtain ⟨iL, iM⟩ := eF_ c5
 by_cases cw : ab = 2
 ·rw [if_pos cw] at H
  obtain ⟨il, im⟩ := eT_ cw
  clear cw
  obtain ⟨fk, H⟩ := gt_ H
  have m0 := decide_eq_true fk
  clear fk
  obtain ⟨fl, H⟩ := gt_ H
  have m1 := decide_eq_true fl
  clear fl
  obtain ⟨iu, cz⟩ : ∃ y_ : List (S47), y_ = (F.set (a1 : Int).toNat (⟨true, (⟨ap, aq, ar, au⟩ : S45), 0⟩ : S47)) := ⟨_, rfl⟩
  rw [← cz] at H
  try replace H := sb_ H
  have o8 := Z cz
  clear cz
  replace H := bn_ H
  obtain ⟨cg, tv, H⟩ := H
  obtain ⟨rfl, rfl, rfl, rfl, rfl, rfl, rfl⟩ := ij7_ H
  go_enter Tryz.func55, Tryz.ntmps55
  try go_wp2_with (first | ((with_reducible refine gD_ 3 rfl ?_); refine bx_ 3 24 #[.int .i64 T, .int .i64 U, .slice aF E.length aA, .int .i64 V, .bool W, .bool X] ?_; intro ah hg zo hbox hb; have b := Z hbox; have cp := ln' w hg; replace HB := bs_ hb; clear hb hbox hg) | ((with_reducible refine gD_ 5 rfl ?_); refine bx_ 5 49 #[.int .i64 ab, .slice aR ai.length aP, .bool ap, .bool aq, .int .i64 ar, .bool au, .int .i64 av, .int .u8 ak] ?_; intro ac hg zp hbox hb; have d := Z hbox; have cq := ln' w hg; replace HB := bs_ hb; have ax := nl' b hg; replace b := kb' b hb; clear hb hbox hg) | ((with_reducible refine gD_ 6 rfl ?_); refine bx_ 6 24 zS_ ?_; intro a hg zq hbox hb; have m := Z hbox; have cr := ln' w hg; replace HB := bs_ hb; have u := nl' b hg; replace b := kb' b hb; have l := nl' d hg; replace d := kb' d hb; clear hb hbox hg; have w4 := ns_ ax; have w5 := ns_ u; have fM := cells6 b.out) | ((with_reducible refine gF_ 27 rfl ?_); refine gd_ (some 15) Tryz.func27 (shutterref10_Copy.calls T U _ _ E V W X I J F O L M _ (cB_ aQ HB) a7.out A4.out) ?_; rintro e zr ⟨ff, rfl, bn, hb⟩; refine ⟨_, rfl, ?_⟩; have Q := Z (Kd.R_lower bn (below_size bl_)); replace b := kb' b hb; replace d := kb' d hb; replace m := kb' m hb; replace HB := bs_ hb; (try clear hb); (try clear hk); (try clear bn)) | ((with_reducible refine gD_ 8 rfl ?_); refine bx_ 8 24 zS_ ?_; intro D hg wp hbox hb; replace Q := rb' Q hb; have q := Z hbox; have ct := ln' w hg; replace HB := bs_ hb; have am := nl' b hg; replace b := kb' b hb; have an := nl' d hg; replace d := kb' d hb; have Y := nl' m hg; replace m := kb' m hb; clear hb hbox hg; have w9 := ns_ am; have xa := ns_ an; have xb := ns_ Y; have fS := cells6 q.out; obtain ⟨iH, ba, pQ⟩ := Kd.R_slice Q.out; subst pQ) | ((with_reducible refine gate_store (t := 24) (p := 8) rfl ?_); refine sx_ 24 8 ((((((wp.setCell ⟨D, 0, none⟩ (.int .i64 I)).setCell ⟨D, 1, none⟩ (.int .i64 J)).setCell ⟨D, 2, none⟩ (.slice iH F.length ba)).setCell ⟨D, 3, none⟩ (.int .i64 O)).setCell ⟨D, 4, none⟩ (.bool L)).setCell ⟨D, 5, none⟩ (.bool M)) ?_; intro bm hw; replace Q : Aside0 (Kd.R k47 47 bm w.heap.size (fun _ => True) (.slice iH F.length ba) F) := ⟨(by rw [hw]; exact (by (with_reducible repeat apply pR); exact R_off Q.out q.out (by decide) off2_))⟩; replace b := Z (sM hw (blk_off b.out am.out off2_)); replace d := Z (sM hw (blk_off d.out an.out off2_)); replace m := Z (sM hw (blk_off m.out Y.out off2_)); replace q : Aside0 (bm.heap[D]? = some (.cells #[.int .i64 I, .int .i64 J, .slice iH F.length ba, .int .i64 O, .bool L, .bool M] 24 (0, 0))) := ⟨by rw [hw]; exact (put6 q.out)⟩; replace HB : Aside0 (Below w.heap.size w bm) := ⟨by rw [hw]; exact bl_⟩; clear hw; have xc := ns_ l; have fY := cells8 d.out; have gg := cells6 q.out; have p53 : 0 ≤ (a1 : Int) := od_; have fa : (a1 : Int) < ((F.length : Int) : Int) := od_; obtain ⟨aO, yv, oE, oG, pU, yu, ou⟩ := Kd.R_form Q.out (by omega); (first | cases oE | (injection oE with ea_ en_ ec_; (first | subst ea_ | (injection ea_ with ea_; subst ea_)); subst ec_; clear en_)); have cF := Z oG; have xX := Z ou; clear oG pU ou; obtain ⟨yr, po, oJ, b1, b3⟩ := Kd.R_elem Q.out z47 (a1 : Int) p53 fa; obtain rfl := k47_openM oJ; have iA := ce_ b1; have ud := cf_ b3; clear po b1 b3 oJ; replace p53 := eq_true p53; replace fa := eq_true fa; have ow := Z (show Kd.R k47 47 bm w.heap.size (fun _ => True) (.slice (some ⟨aO, 0, none⟩) F.length ba) F from (by (with_reducible repeat apply pR); exact Q.out)); obtain ⟨ys, nh, oK, bV, b4⟩ := Kd.R_elem ow.out z47 (a1 : Int) (od_) (by have h_ : (a1 : Int) < ((F.length : Int) : Int) := od_; first | exact h_ | (have e_ := (Kd.R_reads' Q.out).1; omega) | simpa using h_); obtain rfl := k47_openM oK; have iJ := Kd.R_seg ow.out (a1 : Int) (od_) (by have h_ : (a1 : Int) < ((F.length : Int) : Int) := od_; first | exact h_ | (have e_ := (Kd.R_reads' Q.out).1; omega) | simpa using h_) (seg := [.bool true, .bool ap, .bool aq, .int .i64 ar, .bool au, .int .u8 0]) (j := 0) nh bV (show 6 ≤ 6 from by decide) (x' := (⟨true, (⟨ap, aq, ar, au⟩ : S45), 0⟩ : S47)) (k47_mkM _ _ _ (⟨true, (⟨ap, aq, ar, au⟩ : S45), 0⟩ : S47) ) (fun _ hk => hk); have e3 := bV 0 _ rfl; (try simp only [show (k47).sz = 6 from rfl, Nat.mul_one, Nat.add_zero] at e3); have oT := b4 0; (try simp only [show (k47).sz = 6 from rfl, Nat.mul_one, Nat.add_zero] at oT); have e4 := bV 1 _ rfl; (try simp only [show (k47).sz = 6 from rfl, Nat.mul_one, Nat.add_zero] at e4); have oU := b4 1; (try simp only [show (k47).sz = 6 from rfl, Nat.mul_one, Nat.add_zero] at oU); have e5 := bV 2 _ rfl; (try simp only [show (k47).sz = 6 from rfl, Nat.mul_one, Nat.add_zero] at e5); have oV := b4 2; (try simp only [show (k47).sz = 6 from rfl, Nat.mul_one, Nat.add_zero] at oV); have e6 := bV 3 _ rfl; (try simp only [show (k47).sz = 6 from rfl, Nat.mul_one, Nat.add_zero] at e6); have oW := b4 3; (try simp only [show (k47).sz = 6 from rfl, Nat.mul_one, Nat.add_zero] at oW); have e7 := bV 4 _ rfl; (try simp only [show (k47).sz = 6 from rfl, Nat.mul_one, Nat.add_zero] at e7); have oX := b4 4; (try simp only [show (k47).sz = 6 from rfl, Nat.mul_one, Nat.add_zero] at oX); have e8 := bV 5 _ rfl; (try simp only [show (k47).sz = 6 from rfl, Nat.mul_one, Nat.add_zero] at e8); have oY := b4 5; (try simp only [show (k47).sz = 6 from rfl, Nat.mul_one, Nat.add_zero] at oY); clear nh bV b4 oK) | ((with_reducible refine gate_store (t := 47) (p := 50) rfl ?_); refine sx_ 47 50 ((((((bm.setCell ⟨aO, (a1 : Int).toNat * 6, none⟩ (.bool true)).setCell ⟨aO, (a1 : Int).toNat * 6 + 1, none⟩ (.bool ap)).setCell ⟨aO, (a1 : Int).toNat * 6 + 2, none⟩ (.bool aq)).setCell ⟨aO, (a1 : Int).toNat * 6 + 3, none⟩ (.int .i64 ar)).setCell ⟨aO, (a1 : Int).toNat * 6 + 4, none⟩ (.bool au)).setCell ⟨aO, (a1 : Int).toNat * 6 + 5, none⟩ (.int .u8 0)) ?_; intro nk hw; have hg : bm.grownBy nk (some aO) := (by rw [hw]; exact iJ.2); have hp_ : Kd.R k47 47 nk w.heap.size (fun _ => True) (.slice (some ⟨aO, 0, none⟩) F.length ba) iu := (by rw [hw, o8.out]; exact iJ.1); clear iJ; replace b := gw_ ⟨vK b.out⟩ hg (Kd.R_ne Q.out b.out (by decide)); replace d := gw_ ⟨vK d.out⟩ hg (Kd.R_ne Q.out d.out (by decide)); replace m := gw_ ⟨vK m.out⟩ hg (Kd.R_ne Q.out m.out (by decide)); replace q := gw_ ⟨vK q.out⟩ hg (Kd.R_ne Q.out q.out (by decide)); replace Q := Z (hp_); replace HB := Z ((by rw [hw]; exact below_set (below_set (below_set (below_set (below_set (below_set (HB.out) cF.out) cF.out) cF.out) cF.out) cF.out) cF.out : Below w.heap.size w nk)); clear hg hw hp_))
  replace Q := Z (Kd.R_drew Q.out)
  replace b := Z (blk_drew b.out)
  replace d := Z (blk_drew d.out)
  replace m := Z (blk_drew m.out)
  replace q := Z (blk_drew q.out)
  replace HB := Z (below_drew1 HB.out)
  refine start_ (n := 6) (S := fun w' => w'.cell? ⟨D, 0, none⟩ = some (.int .i64 I) ∧ w'.cell? ⟨D, 1, none⟩ = some (.int .i64 J) ∧ w'.cell? ⟨D, 2, none⟩ = some (.slice (some ⟨aO, 0, none⟩) F.length ba) ∧ w'.cell? ⟨D, 3, none⟩ = some (.int .i64 O) ∧ w'.cell? ⟨D, 4, none⟩ = some (.bool L) ∧ w'.cell? ⟨D, 5, none⟩ = some (.bool M) ∧ w'.cell? ⟨ah, 0, none⟩ = some (.int .i64 T) ∧ w'.cell? ⟨ah, 1, none⟩ = some (.int .i64 U) ∧ w'.cell? ⟨ah, 2, none⟩ = some (.slice aF E.length aA) ∧ w'.cell? ⟨ah, 3, none⟩ = some (.int .i64 V) ∧ w'.cell? ⟨ah, 4, none⟩ = some (.bool W) ∧ w'.cell? ⟨ah, 5, none⟩ = some (.bool X)) (ds := []) (bv 6 0) (by kernel_rfl) rfl rfl hd_ (fun hHeld => ?_)
  generalize nk.drew = zs at Q b d m q HB hHeld ⊢
  refine pA_ 2 6 4 (some 53) ?_
  refine tA_ hHeld 0 6 5 (some 51) ?_
  refine tA_ hHeld 1 6 7 (some 52) ?_
  refine one_ (i := 3) (N := some 54) (bv 6 15) rfl rfl (by kernel_rfl) (by decide) (fun K hK => ?_)
  refine goes_ Tryz.func78 (by kernel_rfl) rfl #[.agg #[.int .i64 T, .int .i64 U, .slice aF E.length aA, .int .i64 V, .bool W, .bool X], .int .i64 a1] (by rfl) rfl rfl ag_ ?_
  with_reducible refine (shutterref10_Next.calls T U _ _ E V W X a1 cg _ ?side1 ?side2 tv.out).mono ?_
  (case side1 => repeat (first | exact (Kd.C_below aQ.out HB.out) | (with_reducible apply pC)))
  (case side2 => exact a7.out)
  rintro e bX ⟨rfl, hb⟩
  refine ⟨_, rfl, ?_⟩
  replace Q := rb' Q hb
  replace b := kb' b hb
  replace d := kb' d hb
  replace m := kb' m hb
  replace q := kb' q hb
  replace HB := bs_ hb
  (try clear hb)
  (try clear bU)
  (try clear hk)
  (try clear hi)
  refine hK.out _ _ hd_ (fun hHeld => ?_)
  clear hK K
  refine nA_ (some 54) ?_
  refine one_ (i := 4) (N := none) (bv 6 31) rfl rfl (by kernel_rfl) (by decide) (fun K hK => ?_)
  have yy : bX.cell? ⟨a, 0, none⟩ = some (.int .i64 0) := (blk_cell m.out 0).trans rfl
  have wH := blk_frozen m.out 0
  have tb := u.out
  have tc := l.out
  have td := Y.out.symm
  have sI := u.out.symm
  have sJ := l.out.symm
  have sK := Y.out
  have yz : bX.cell? ⟨a, 1, none⟩ = some (.int .i64 0) := (blk_cell m.out 1).trans rfl
  have wI := blk_frozen m.out 1
  have te := u.out
  have tf := l.out
  have tg := Y.out.symm
  have sL := u.out.symm
  have sN := l.out.symm
  have sO := Y.out
  have yA : bX.cell? ⟨a, 2, none⟩ = some (.slice none 0 0) := (blk_cell m.out 2).trans rfl
  have wJ := blk_frozen m.out 2
  have th := u.out
  have ti := l.out
  have tj := Y.out.symm
  have sP := u.out.symm
  have sQ := l.out.symm
  have sR := Y.out
  have yB : bX.cell? ⟨a, 3, none⟩ = some (.int .i64 0) := (blk_cell m.out 3).trans rfl
  have wK := blk_frozen m.out 3
  have tk := u.out
  have tl := l.out
  have tm := Y.out.symm
  have sS := u.out.symm
  have sT := l.out.symm
  have sU := Y.out
  have yC : bX.cell? ⟨a, 4, none⟩ = some (.bool false) := (blk_cell m.out 4).trans rfl
  have wL := blk_frozen m.out 4
  have tn := u.out
  have tp := l.out
  have tq := Y.out.symm
  have sV := u.out.symm
  have sW := l.out.symm
  have sX := Y.out
  have yD : bX.cell? ⟨a, 5, none⟩ = some (.bool false) := (blk_cell m.out 5).trans rfl
  have wM := blk_frozen m.out 5
  have tr := u.out
  have ts := l.out
  have tt := Y.out.symm
  have sY := u.out.symm
  have sZ := l.out.symm
  have ta := Y.out
  refine skip_ (w1 := ?_) (by rfl) rfl ?_ ?_
  rotate_left
  ·go_simp
   rfl
  refine hK.out _ _ ⟨(fC6 a Y.out.symm (hHeld.1)), (fC6 a Y.out.symm (hHeld.2.1)), (fC6 a Y.out.symm (hHeld.2.2.1)), (fC6 a Y.out.symm (hHeld.2.2.2.1)), (fC6 a Y.out.symm (hHeld.2.2.2.2.1)), (fC6 a Y.out.symm (hHeld.2.2.2.2.2.1)), (fC6 a u.out (hHeld.2.2.2.2.2.2.1)), (fC6 a u.out (hHeld.2.2.2.2.2.2.2.1)), (fC6 a u.out (hHeld.2.2.2.2.2.2.2.2.1)), (fC6 a u.out (hHeld.2.2.2.2.2.2.2.2.2.1)), (fC6 a u.out (hHeld.2.2.2.2.2.2.2.2.2.2.1)), (fC6 a u.out (hHeld.2.2.2.2.2.2.2.2.2.2.2))⟩ (fun hHeld => ?_)
  clear hK K
  refine pA_ 5 6 63 (some 7) ?_
  refine done_ (by kernel_rfl) ?_
  obtain ⟨zt, ezt⟩ : ∃ w_, w_ = ((((((bX.setCell ⟨a, 0, none⟩ (.int .i64 I)).setCell ⟨a, 1, none⟩ (.int .i64 J)).setCell ⟨a, 2, none⟩ (.slice (some ⟨aO, 0, none⟩) F.length ba)).setCell ⟨a, 3, none⟩ (.int .i64 O)).setCell ⟨a, 4, none⟩ (.bool L)).setCell ⟨a, 5, none⟩ (.bool M)) := ⟨_, rfl⟩
  have y : Aside0 (Kd.R k47 47 zt w.heap.size (fun _ => True) (.slice (some ⟨aO, 0, none⟩) F.length ba) iu) := ⟨by rw [ezt]; (with_reducible repeat apply pR); exact Kd.R_mono (f6R a (Kd.R_types Q.out m.out (by decide)) im_) im_⟩
  have z : Aside0 (zt.heap[ah]? = some (.cells #[.int .i64 T, .int .i64 U, .slice aF E.length aA, .int .i64 V, .bool W, .bool X] 24 (0, 0))) := ⟨by rw [ezt]; exact blk_off b.out u.out off2_⟩
  have A : Aside0 (zt.heap[ac]? = some (.cells #[.int .i64 ab, .slice aR ai.length aP, .bool ap, .bool aq, .int .i64 ar, .bool au, .int .i64 av, .int .u8 ak] 49 (0, 0))) := ⟨by rw [ezt]; exact blk_off d.out l.out off2_⟩
  have B : Aside0 (zt.heap[a]? = some (.cells #[.int .i64 I, .int .i64 J, .slice (some ⟨aO, 0, none⟩) F.length ba, .int .i64 O, .bool L, .bool M] 24 (0, 0))) := ⟨by rw [ezt]; exact put6 m.out⟩
  have G : Aside0 (zt.heap[D]? = some (.cells #[.int .i64 I, .int .i64 J, .slice (some ⟨aO, 0, none⟩) F.length ba, .int .i64 O, .bool L, .bool M] 24 (0, 0))) := ⟨by rw [ezt]; exact blk_off q.out Y.out.symm off2_⟩
  have P : Aside0 (Below w.heap.size w zt) := ⟨by rw [ezt]; exact bl_⟩
  (try clear Q)
  (try clear b)
  (try clear d)
  (try clear m)
  (try clear q)
  (try clear HB)
  rw [← ezt]
  clear ezt
  have Q := y
  have b := z
  have d := A
  have m := B
  have q := G
  have HB := P
  clear y z A B G P
  try go_wp2
  refine rc2_ (vK m.out) Tryz.underlying24 ?_
  exact ⟨_, er_, by (with_reducible repeat apply pR); exact Q.out, bl_⟩
 rw [if_neg cw] at H
 obtain ⟨il, im⟩ := eF_ cw
 by_cases cx : ab = 3
 ·rw [if_pos cx] at H
  obtain ⟨io, ip⟩ := eT_ cx
  clear cx
  obtain ⟨rfl, rfl, rfl, rfl, rfl, rfl, rfl⟩ := ij7_ H
  go_enter Tryz.func55, Tryz.ntmps55
  try go_wp2_with (first | ((with_reducible refine gD_ 3 rfl ?_); refine bx_ 3 24 #[.int .i64 T, .int .i64 U, .slice aF E.length aA, .int .i64 V, .bool W, .bool X] ?_; intro ah hg zu hbox hb; have b := Z hbox; have cp := ln' w hg; replace HB := bs_ hb; clear hb hbox hg) | ((with_reducible refine gD_ 5 rfl ?_); refine bx_ 5 49 #[.int .i64 ab, .slice aR ai.length aP, .bool ap, .bool aq, .int .i64 ar, .bool au, .int .i64 av, .int .u8 ak] ?_; intro ac hg zv hbox hb; have d := Z hbox; have cq := ln' w hg; replace HB := bs_ hb; have ax := nl' b hg; replace b := kb' b hb; clear hb hbox hg) | ((with_reducible refine gD_ 6 rfl ?_); refine bx_ 6 24 zS_ ?_; intro a hg zw hbox hb; have m := Z hbox; have cr := ln' w hg; replace HB := bs_ hb; have u := nl' b hg; replace b := kb' b hb; have l := nl' d hg; replace d := kb' d hb; clear hb hbox hg; have xd := ns_ ax; have xe := ns_ u; have gn := cells6 b.out) | ((with_reducible refine gF_ 27 rfl ?_); refine gd_ (some 15) Tryz.func27 (shutterref10_Copy.calls T U _ _ E V W X I J F O L M _ (cB_ aQ HB) a7.out A4.out) ?_; rintro e zx ⟨ff, rfl, bn, hb⟩; refine ⟨_, rfl, ?_⟩; have Q := Z (Kd.R_lower bn (below_size bl_)); replace b := kb' b hb; replace d := kb' d hb; replace m := kb' m hb; replace HB := bs_ hb; (try clear hb); (try clear bn)) | ((with_reducible refine gD_ 8 rfl ?_); refine bx_ 8 24 zS_ ?_; intro D hg wq hbox hb; replace Q := rb' Q hb; have q := Z hbox; have ct := ln' w hg; replace HB := bs_ hb; have am := nl' b hg; replace b := kb' b hb; have an := nl' d hg; replace d := kb' d hb; have Y := nl' m hg; replace m := kb' m hb; clear hb hbox hg; have xf := ns_ am; have xg := ns_ an; have xh := ns_ Y; have gt := cells6 q.out; obtain ⟨bi, bj, GC⟩ := Kd.R_slice Q.out; subst GC) | ((with_reducible refine gate_store (t := 24) (p := 8) rfl ?_); refine sx_ 24 8 ((((((wq.setCell ⟨D, 0, none⟩ (.int .i64 I)).setCell ⟨D, 1, none⟩ (.int .i64 J)).setCell ⟨D, 2, none⟩ (.slice bi F.length bj)).setCell ⟨D, 3, none⟩ (.int .i64 O)).setCell ⟨D, 4, none⟩ (.bool L)).setCell ⟨D, 5, none⟩ (.bool M)) ?_; intro fh hw; replace Q : Aside0 (Kd.R k47 47 fh w.heap.size (fun _ => True) (.slice bi F.length bj) F) := ⟨(by rw [hw]; exact (by (with_reducible repeat apply pR); exact R_off Q.out q.out (by decide) off2_))⟩; replace b := Z (sM hw (blk_off b.out am.out off2_)); replace d := Z (sM hw (blk_off d.out an.out off2_)); replace m := Z (sM hw (blk_off m.out Y.out off2_)); replace q : Aside0 (fh.heap[D]? = some (.cells #[.int .i64 I, .int .i64 J, .slice bi F.length bj, .int .i64 O, .bool L, .bool M] 24 (0, 0))) := ⟨by rw [hw]; exact (put6 q.out)⟩; replace HB : Aside0 (Below w.heap.size w fh) := ⟨by rw [hw]; exact bl_⟩; clear hw; have xi := ns_ l; have gz := cells8 d.out))
  replace Q := Z (Kd.R_drew Q.out)
  replace b := Z (blk_drew b.out)
  replace d := Z (blk_drew d.out)
  replace m := Z (blk_drew m.out)
  replace q := Z (blk_drew q.out)
  replace HB := Z (below_drew1 HB.out)
  refine start_ (n := 5) (S := fun w' => w'.cell? ⟨D, 0, none⟩ = some (.int .i64 I) ∧ w'.cell? ⟨D, 1, none⟩ = some (.int .i64 J) ∧ w'.cell? ⟨D, 2, none⟩ = some (.slice bi F.length bj) ∧ w'.cell? ⟨D, 3, none⟩ = some (.int .i64 O) ∧ w'.cell? ⟨D, 4, none⟩ = some (.bool L) ∧ w'.cell? ⟨D, 5, none⟩ = some (.bool M) ∧ w'.cell? ⟨ac, 0, none⟩ = some (.int .i64 ab) ∧ w'.cell? ⟨ac, 1, none⟩ = some (.slice aR ai.length aP) ∧ w'.cell? ⟨ac, 2, none⟩ = some (.bool ap) ∧ w'.cell? ⟨ac, 3, none⟩ = some (.bool aq) ∧ w'.cell? ⟨ac, 4, none⟩ = some (.int .i64 ar) ∧ w'.cell? ⟨ac, 5, none⟩ = some (.bool au) ∧ w'.cell? ⟨ac, 6, none⟩ = some (.int .i64 av) ∧ w'.cell? ⟨ac, 7, none⟩ = some (.int .u8 ak)) (ds := []) (bv 5 0) (by kernel_rfl) rfl rfl hd_ (fun hHeld => ?_)
  generalize fh.drew = bB at Q b d m q HB hHeld ⊢
  refine pA_ 1 5 2 (some 59) ?_
  refine tA_ hHeld 0 5 3 (some 58) ?_
  refine tA_ hHeld 2 5 7 (some 60) ?_
  refine one_ (i := 3) (N := none) (bv 5 15) rfl rfl (by kernel_rfl) (by decide) (fun K hK => ?_)
  have xL : bB.cell? ⟨a, 0, none⟩ = some (.int .i64 0) := (blk_cell m.out 0).trans rfl
  have uk := blk_frozen m.out 0
  have rx := u.out
  have ry := l.out
  have rz := Y.out.symm
  have qP := u.out.symm
  have qQ := l.out.symm
  have qR := Y.out
  have xM : bB.cell? ⟨a, 1, none⟩ = some (.int .i64 0) := (blk_cell m.out 1).trans rfl
  have ul := blk_frozen m.out 1
  have rA := u.out
  have rB := l.out
  have rC := Y.out.symm
  have qS := u.out.symm
  have qT := l.out.symm
  have qU := Y.out
  have xN : bB.cell? ⟨a, 2, none⟩ = some (.slice none 0 0) := (blk_cell m.out 2).trans rfl
  have um := blk_frozen m.out 2
  have rD := u.out
  have rE := l.out
  have rF := Y.out.symm
  have qW := u.out.symm
  have qX := l.out.symm
  have qY := Y.out
  have xO : bB.cell? ⟨a, 3, none⟩ = some (.int .i64 0) := (blk_cell m.out 3).trans rfl
  have un := blk_frozen m.out 3
  have rG := u.out
  have rH := l.out
  have rI := Y.out.symm
  have qZ := u.out.symm
  have q0 := l.out.symm
  have q3 := Y.out
  have xP : bB.cell? ⟨a, 4, none⟩ = some (.bool false) := (blk_cell m.out 4).trans rfl
  have uo := blk_frozen m.out 4
  have rJ := u.out
  have rK := l.out
  have rL := Y.out.symm
  have q4 := u.out.symm
  have q7 := l.out.symm
  have q8 := Y.out
  have xQ : bB.cell? ⟨a, 5, none⟩ = some (.bool false) := (blk_cell m.out 5).trans rfl
  have up := blk_frozen m.out 5
  have rM := u.out
  have rN := l.out
  have rO := Y.out.symm
  have q9 := u.out.symm
  have ra := l.out.symm
  have rc := Y.out
  refine skip_ (w1 := ?_) (by rfl) rfl ?_ ?_
  rotate_left
  ·go_simp
   rfl
  refine hK.out _ _ ⟨(fC6 a Y.out.symm (hHeld.1)), (fC6 a Y.out.symm (hHeld.2.1)), (fC6 a Y.out.symm (hHeld.2.2.1)), (fC6 a Y.out.symm (hHeld.2.2.2.1)), (fC6 a Y.out.symm (hHeld.2.2.2.2.1)), (fC6 a Y.out.symm (hHeld.2.2.2.2.2.1)), (fC6 a l.out (hHeld.2.2.2.2.2.2.1)), (fC6 a l.out (hHeld.2.2.2.2.2.2.2.1)), (fC6 a l.out (hHeld.2.2.2.2.2.2.2.2.1)), (fC6 a l.out (hHeld.2.2.2.2.2.2.2.2.2.1)), (fC6 a l.out (hHeld.2.2.2.2.2.2.2.2.2.2.1)), (fC6 a l.out (hHeld.2.2.2.2.2.2.2.2.2.2.2.1)), (fC6 a l.out (hHeld.2.2.2.2.2.2.2.2.2.2.2.2.1)), (fC6 a l.out (hHeld.2.2.2.2.2.2.2.2.2.2.2.2.2))⟩ (fun hHeld => ?_)
  clear hK K
  refine pA_ 4 5 31 (some 7) ?_
  refine done_ (by kernel_rfl) ?_
  obtain ⟨yP, eyP⟩ : ∃ w_, w_ = ((((((bB.setCell ⟨a, 0, none⟩ (.int .i64 I)).setCell ⟨a, 1, none⟩ (.int .i64 J)).setCell ⟨a, 2, none⟩ (.slice bi F.length bj)).setCell ⟨a, 3, none⟩ (.int .i64 O)).setCell ⟨a, 4, none⟩ (.bool L)).setCell ⟨a, 5, none⟩ (.bool M)) := ⟨_, rfl⟩
  have y : Aside0 (Kd.R k47 47 yP w.heap.size (fun _ => True) (.slice bi F.length bj) F) := ⟨by rw [eyP]; (with_reducible repeat apply pR); exact Kd.R_mono (f6R a (Kd.R_types Q.out m.out (by decide)) im_) im_⟩
  have z : Aside0 (yP.heap[ah]? = some (.cells #[.int .i64 T, .int .i64 U, .slice aF E.length aA, .int .i64 V, .bool W, .bool X] 24 (0, 0))) := ⟨by rw [eyP]; exact blk_off b.out u.out off2_⟩
  have A : Aside0 (yP.heap[ac]? = some (.cells #[.int .i64 ab, .slice aR ai.length aP, .bool ap, .bool aq, .int .i64 ar, .bool au, .int .i64 av, .int .u8 ak] 49 (0, 0))) := ⟨by rw [eyP]; exact blk_off d.out l.out off2_⟩
  have B : Aside0 (yP.heap[a]? = some (.cells #[.int .i64 I, .int .i64 J, .slice bi F.length bj, .int .i64 O, .bool L, .bool M] 24 (0, 0))) := ⟨by rw [eyP]; exact put6 m.out⟩
  have G : Aside0 (yP.heap[D]? = some (.cells #[.int .i64 I, .int .i64 J, .slice bi F.length bj, .int .i64 O, .bool L, .bool M] 24 (0, 0))) := ⟨by rw [eyP]; exact blk_off q.out Y.out.symm off2_⟩
  have P : Aside0 (Below w.heap.size w yP) := ⟨by rw [eyP]; exact bl_⟩
  (try clear Q)
  (try clear b)
  (try clear d)
  (try clear m)
  (try clear q)
  (try clear HB)
  rw [← eyP]
  clear eyP
  have Q := y
  have b := z
  have d := A
  have m := B
  have q := G
  have HB := P
  clear y z A B G P
  try go_wp2
  refine rc2_ (vK m.out) Tryz.underlying24 ?_
  exact ⟨_, er_, by (with_reducible repeat apply pR); exact Q.out, bl_⟩
 rw [if_neg cx] at H
 obtain ⟨io, ip⟩ := eF_ cx
 by_cases bY : ab = 4
 ·rw [if_pos bY] at H
  obtain ⟨cR, cS⟩ := eT_ bY
  clear bY
  obtain ⟨rfl, rfl, rfl, rfl, rfl, rfl, rfl⟩ := ij7_ H
  go_enter Tryz.func55, Tryz.ntmps55
  go_wp2_with (first | ((with_reducible refine gD_ 3 rfl ?_); refine bx_ 3 24 #[.int .i64 T, .int .i64 U, .slice aF E.length aA, .int .i64 V, .bool W, .bool X] ?_; intro ah hg yQ hbox hb; have b := Z hbox; have cp := ln' w hg; replace HB := bs_ hb; clear hb hbox hg) | ((with_reducible refine gD_ 5 rfl ?_); refine bx_ 5 49 #[.int .i64 ab, .slice aR ai.length aP, .bool ap, .bool aq, .int .i64 ar, .bool au, .int .i64 av, .int .u8 ak] ?_; intro ac hg yR hbox hb; have d := Z hbox; have cq := ln' w hg; replace HB := bs_ hb; have ax := nl' b hg; replace b := kb' b hb; clear hb hbox hg) | ((with_reducible refine gD_ 6 rfl ?_); refine bx_ 6 24 zS_ ?_; intro a hg yS hbox hb; have m := Z hbox; have cr := ln' w hg; replace HB := bs_ hb; have u := nl' b hg; replace b := kb' b hb; have l := nl' d hg; replace d := kb' d hb; clear hb hbox hg; have uw := ns_ ax; have ux := ns_ u; have df := cells6 b.out) | ((with_reducible refine gF_ 27 rfl ?_); refine gd_ (some 15) Tryz.func27 (shutterref10_Copy.calls T U _ _ E V W X I J F O L M _ (cB_ aQ HB) a7.out A4.out) ?_; rintro e yT ⟨ff, rfl, bn, hb⟩; refine ⟨_, rfl, ?_⟩; have Q := Z (Kd.R_lower bn (below_size bl_)); replace b := kb' b hb; replace d := kb' d hb; replace m := kb' m hb; replace HB := bs_ hb; (try clear hb); (try clear hk); (try clear bn)) | ((with_reducible refine gD_ 8 rfl ?_); refine bx_ 8 24 zS_ ?_; intro D hg sj hbox hb; replace Q := rb' Q hb; have q := Z hbox; have ct := ln' w hg; replace HB := bs_ hb; have am := nl' b hg; replace b := kb' b hb; have an := nl' d hg; replace d := kb' d hb; have Y := nl' m hg; replace m := kb' m hb; clear hb hbox hg; have uy := ns_ am; have uz := ns_ an; have uA := ns_ Y; have dl := cells6 q.out; obtain ⟨bg, bh, pe⟩ := Kd.R_slice Q.out; subst pe) | ((with_reducible refine gate_store (t := 24) (p := 8) rfl ?_); refine sx_ 24 8 ((((((sj.setCell ⟨D, 0, none⟩ (.int .i64 I)).setCell ⟨D, 1, none⟩ (.int .i64 J)).setCell ⟨D, 2, none⟩ (.slice bg F.length bh)).setCell ⟨D, 3, none⟩ (.int .i64 O)).setCell ⟨D, 4, none⟩ (.bool L)).setCell ⟨D, 5, none⟩ (.bool M)) ?_; intro co hw; replace Q : Aside0 (Kd.R k47 47 co w.heap.size (fun _ => True) (.slice bg F.length bh) F) := ⟨(by rw [hw]; exact (by (with_reducible repeat apply pR); exact R_off Q.out q.out (by decide) off2_))⟩; replace b := Z (sM hw (blk_off b.out am.out off2_)); replace d := Z (sM hw (blk_off d.out an.out off2_)); replace m := Z (sM hw (blk_off m.out Y.out off2_)); replace q : Aside0 (co.heap[D]? = some (.cells #[.int .i64 I, .int .i64 J, .slice bg F.length bh, .int .i64 O, .bool L, .bool M] 24 (0, 0))) := ⟨by rw [hw]; exact (put6 q.out)⟩; replace HB : Aside0 (Below w.heap.size w co) := ⟨by rw [hw]; exact bl_⟩; clear hw; have uB := ns_ l; have dt := cells8 d.out; have dB := cells6 q.out; have dH := cells6 m.out) | ((with_reducible refine gate_store (t := 24) (p := 6) rfl ?_); refine sx_ 24 6 (((((((co.setCell ⟨D, 3, none⟩ (.int .i64 a1)).setCell ⟨a, 0, none⟩ (.int .i64 I)).setCell ⟨a, 1, none⟩ (.int .i64 J)).setCell ⟨a, 2, none⟩ (.slice bg F.length bh)).setCell ⟨a, 3, none⟩ (.int .i64 a1)).setCell ⟨a, 4, none⟩ (.bool L)).setCell ⟨a, 5, none⟩ (.bool M)) ?_; intro cH hw; replace Q : Aside0 (Kd.R k47 47 cH w.heap.size (fun _ => True) (.slice bg F.length bh) F) := ⟨(by rw [hw]; exact (by (with_reducible repeat apply pR); exact Kd.R_mono (f6R a (Kd.R_far (p := ⟨D, 3, none⟩) (Kd.R_types (Kd.R_types Q.out q.out (by decide)) m.out (by decide)) (fun _ hk => hk.1.2) (.int .i64 a1)) (fun _ hk => hk.2)) (fun _ hk => trivial)))⟩; replace b : Aside0 (cH.heap[ah]? = some (.cells #[.int .i64 T, .int .i64 U, .slice aF E.length aA, .int .i64 V, .bool W, .bool X] 24 (0, 0))) := ⟨(by rw [hw]; exact (by (with_reducible repeat apply pK); refine blk_far ?_ u.out _; (with_reducible repeat apply pK); refine blk_far ?_ u.out _; (with_reducible repeat apply pK); refine blk_far ?_ u.out _; (with_reducible repeat apply pK); refine blk_far ?_ u.out _; (with_reducible repeat apply pK); refine blk_far ?_ u.out _; (with_reducible repeat apply pK); refine blk_far ?_ u.out _; (with_reducible repeat apply pK); refine blk_far ?_ am.out _; (with_reducible repeat apply pK); exact b.out))⟩; replace d : Aside0 (cH.heap[ac]? = some (.cells #[.int .i64 ab, .slice aR ai.length aP, .bool ap, .bool aq, .int .i64 ar, .bool au, .int .i64 av, .int .u8 ak] 49 (0, 0))) := ⟨(by rw [hw]; exact (by (with_reducible repeat apply pK); refine blk_far ?_ l.out _; (with_reducible repeat apply pK); refine blk_far ?_ l.out _; (with_reducible repeat apply pK); refine blk_far ?_ l.out _; (with_reducible repeat apply pK); refine blk_far ?_ l.out _; (with_reducible repeat apply pK); refine blk_far ?_ l.out _; (with_reducible repeat apply pK); refine blk_far ?_ l.out _; (with_reducible repeat apply pK); refine blk_far ?_ an.out _; (with_reducible repeat apply pK); exact d.out))⟩; replace m : Aside0 (cH.heap[a]? = some (.cells #[.int .i64 I, .int .i64 J, .slice bg F.length bh, .int .i64 a1, .bool L, .bool M] 24 (0, 0))) := ⟨(by rw [hw]; exact (put6 (by (with_reducible repeat apply pK); refine blk_far ?_ Y.out _; (with_reducible repeat apply pK); exact m.out)))⟩; replace q : Aside0 (cH.heap[D]? = some (.cells #[.int .i64 I, .int .i64 J, .slice bg F.length bh, .int .i64 a1, .bool L, .bool M] 24 (0, 0))) := ⟨(by rw [hw]; exact (by (with_reducible repeat apply pK); refine blk_far ?_ Y.out.symm _; (with_reducible repeat apply pK); refine blk_far ?_ Y.out.symm _; (with_reducible repeat apply pK); refine blk_far ?_ Y.out.symm _; (with_reducible repeat apply pK); refine blk_far ?_ Y.out.symm _; (with_reducible repeat apply pK); refine blk_far ?_ Y.out.symm _; (with_reducible repeat apply pK); refine blk_far ?_ Y.out.symm _; (with_reducible repeat apply pK); refine blk_put (cs := #[.int .i64 I, .int .i64 J, .slice bg F.length bh, .int .i64 O, .bool L, .bool M]) ?_ 3 _ rfl; (with_reducible repeat apply pK); exact q.out))⟩; replace HB : Aside0 (Below w.heap.size w cH) := ⟨by rw [hw]; exact bl_⟩; clear hw))
  refine rc2_ (vK m.out) Tryz.underlying24 ?_
  exact ⟨_, er_, by (with_reducible repeat apply pR); exact Q.out, bl_⟩
 rw [if_neg bY] at H
 obtain ⟨cR, cS⟩ := eF_ bY
 by_cases bZ : ab = 5
 ·rw [if_pos bZ] at H
  obtain ⟨cT, cU⟩ := eT_ bZ
  clear bZ
  have H' := Z H
  clear H
  go_enter Tryz.func55, Tryz.ntmps55
  go_wp2_with (first | ((with_reducible refine gD_ 3 rfl ?_); refine bx_ 3 24 #[.int .i64 T, .int .i64 U, .slice aF E.length aA, .int .i64 V, .bool W, .bool X] ?_; intro ah hg yU hbox hb; have b := Z hbox; have cp := ln' w hg; replace HB := bs_ hb; clear hb hbox hg) | ((with_reducible refine gD_ 5 rfl ?_); refine bx_ 5 49 #[.int .i64 ab, .slice aR ai.length aP, .bool ap, .bool aq, .int .i64 ar, .bool au, .int .i64 av, .int .u8 ak] ?_; intro ac hg yV hbox hb; have d := Z hbox; have cq := ln' w hg; replace HB := bs_ hb; have ax := nl' b hg; replace b := kb' b hb; clear hb hbox hg) | ((with_reducible refine gD_ 6 rfl ?_); refine bx_ 6 24 zS_ ?_; intro a hg yW hbox hb; have m := Z hbox; have cr := ln' w hg; replace HB := bs_ hb; have u := nl' b hg; replace b := kb' b hb; have l := nl' d hg; replace d := kb' d hb; clear hb hbox hg; have uC := ns_ ax; have uD := ns_ u; have dN := cells6 b.out) | ((with_reducible refine gF_ 27 rfl ?_); refine gd_ (some 15) Tryz.func27 (shutterref10_Copy.calls T U _ _ E V W X I J F O L M _ (cB_ aQ HB) a7.out A4.out) ?_; rintro e yX ⟨ff, rfl, bn, hb⟩; refine ⟨_, rfl, ?_⟩; have Q := Z (Kd.R_lower bn (below_size bl_)); replace b := kb' b hb; replace d := kb' d hb; replace m := kb' m hb; replace HB := bs_ hb; (try clear hb); (try clear bn)) | ((with_reducible refine gD_ 8 rfl ?_); refine bx_ 8 24 zS_ ?_; intro D hg sk hbox hb; replace Q := rb' Q hb; have q := Z hbox; have ct := ln' w hg; replace HB := bs_ hb; have am := nl' b hg; replace b := kb' b hb; have an := nl' d hg; replace d := kb' d hb; have Y := nl' m hg; replace m := kb' m hb; clear hb hbox hg; have uE := ns_ am; have uF := ns_ an; have uG := ns_ Y; have dT := cells6 q.out; obtain ⟨a5, a8, pf⟩ := Kd.R_slice Q.out; subst pf) | ((with_reducible refine gate_store (t := 24) (p := 8) rfl ?_); refine sx_ 24 8 ((((((sk.setCell ⟨D, 0, none⟩ (.int .i64 I)).setCell ⟨D, 1, none⟩ (.int .i64 J)).setCell ⟨D, 2, none⟩ (.slice a5 F.length a8)).setCell ⟨D, 3, none⟩ (.int .i64 O)).setCell ⟨D, 4, none⟩ (.bool L)).setCell ⟨D, 5, none⟩ (.bool M)) ?_; intro cI hw; replace Q : Aside0 (Kd.R k47 47 cI w.heap.size (fun _ => True) (.slice a5 F.length a8) F) := ⟨(by rw [hw]; exact (by (with_reducible repeat apply pR); exact R_off Q.out q.out (by decide) off2_))⟩; replace b := Z (sM hw (blk_off b.out am.out off2_)); replace d := Z (sM hw (blk_off d.out an.out off2_)); replace m := Z (sM hw (blk_off m.out Y.out off2_)); replace q : Aside0 (cI.heap[D]? = some (.cells #[.int .i64 I, .int .i64 J, .slice a5 F.length a8, .int .i64 O, .bool L, .bool M] 24 (0, 0))) := ⟨by rw [hw]; exact (put6 q.out)⟩; replace HB : Aside0 (Below w.heap.size w cI) := ⟨by rw [hw]; exact bl_⟩; clear hw; have uH := ns_ l; have dZ := cells8 d.out))
  go_loopg [10] k (fun kq wm w' => ∃ (ag : Int) (bC : Int) (bD : Int) (bE : Int) (bF : Bool) (bG : Bool), wm = .int .i64 ag ∧ Aside0 (shutterref12_One.l1 kq ag T U E V W X I J F O L M = some (r1, r2, r3, r4, r5, r6, r7)) ∧ Aside0 (kq ≤ k) ∧ Aside0 (Kd.R k47 47 w' w.heap.size (fun _ => True) (.slice a5 F.length a8) F) ∧ Aside0 (w'.heap[ah]? = some (.cells #[.int .i64 T, .int .i64 U, (.slice aF E.length aA), .int .i64 V, .bool W, .bool X] 24 (0, 0))) ∧ Aside0 (w'.heap[ac]? = some (.cells #[.int .i64 ab, (.slice aR ai.length aP), .bool ap, .bool aq, .int .i64 ar, .bool au, .int .i64 av, .int .u8 ak] 49 (0, 0))) ∧ Aside0 (w'.heap[a]? = some (.cells #[.int .i64 bC, .int .i64 bD, (.slice none 0 0), .int .i64 bE, .bool bF, .bool bG] 24 (0, 0))) ∧ Aside0 (w'.heap[D]? = some (.cells #[.int .i64 I, .int .i64 J, (.slice a5 F.length a8), .int .i64 O, .bool L, .bool M] 24 (0, 0))) ∧ Aside0 (Below w.heap.size w w'))
  case atStart => exact ⟨(a1), (0), (0), (0), (false), (false), (dn_), H', ⟨Nat.le_refl _⟩, ⟨vR_ Q.out⟩, ⟨vK b.out⟩, ⟨vK d.out⟩, ⟨vK m.out⟩, ⟨vK q.out⟩, ⟨bl_⟩⟩
  case round =>
   clear H'
   try clear c5
   try clear iL
   try clear iM
   try clear cw
   try clear il
   try clear im
   try clear cx
   try clear io
   try clear ip
   try clear bY
   try clear cR
   try clear cS
   try clear bZ
   try clear cT
   try clear cU
   try clear dN
   try clear dT
   try clear dZ
   obtain ⟨ag, bC, bD, bE, bF, bG, rfl, HA, bJ, GH, b, d, m, q, HB⟩ := hrel
   cases gk with
   | zero => exact absurd HA.out (by simp [shutterref12_One.l1])
   | succ k1 =>
    have H := HA.out
    clear HA
    simp only [shutterref12_One.l1] at H
    by_cases cj : ag < (E.length : Int)
    rotate_left
    ·rw [if_neg cj] at H
     have iv := decide_eq_false cj
     clear cj
     obtain ⟨rfl, rfl, rfl, rfl, rfl, rfl, rfl⟩ := ij7_ H
     have uX := ns_ ax
     have uY := ns_ u
     have uZ := ns_ am
     have jX := cells6 b.out
     have va := ns_ an
     have GE := ns_ Y
     have j3 := cells6 q.out
     have vc := ns_ l
     have j9 := cells6 m.out
     go_wp2_with (first | ((with_reducible refine gate_store (t := 24) (p := 6) rfl ?_); refine sx_ 24 6 ((((((wr.setCell ⟨a, 0, none⟩ (.int .i64 I)).setCell ⟨a, 1, none⟩ (.int .i64 J)).setCell ⟨a, 2, none⟩ (.slice a5 F.length a8)).setCell ⟨a, 3, none⟩ (.int .i64 O)).setCell ⟨a, 4, none⟩ (.bool L)).setCell ⟨a, 5, none⟩ (.bool M)) ?_; intro cK hw; replace GH : Aside0 (Kd.R k47 47 cK w.heap.size (fun _ => True) (.slice a5 F.length a8) F) := ⟨(by rw [hw]; exact (by (with_reducible repeat apply pR); exact R_off GH.out m.out (by decide) off2_))⟩; replace b := Z (sM hw (blk_off b.out u.out off2_)); replace d := Z (sM hw (blk_off d.out l.out off2_)); replace m : Aside0 (cK.heap[a]? = some (.cells #[.int .i64 I, .int .i64 J, .slice a5 F.length a8, .int .i64 O, .bool L, .bool M] 24 (0, 0))) := ⟨by rw [hw]; exact (put6 m.out)⟩; replace q := Z (sM hw (blk_off q.out Y.out.symm off2_)); replace HB : Aside0 (Below w.heap.size w cK) := ⟨by rw [hw]; exact bl_⟩; clear hw))
     refine rc2_ (vK m.out) Tryz.underlying24 ?_
     exact ⟨_, er_, by (with_reducible repeat apply pR); exact GH.out, bl_⟩
    rw [if_pos cj] at H
    have iv := decide_eq_true cj
    clear cj
    replace H := bn_ H
    obtain ⟨aJ, h6, H⟩ := H
    obtain ⟨cV, H⟩ := gt_ H
    have ox := decide_eq_true cV
    clear cV
    obtain ⟨mX, dc⟩ : ∃ b_ : Bool, b_ = ((rd_T47 E ag).f0) := ⟨_, rfl⟩
    replace H : (if mX = true then (if ((rd_T47 E ag).f1.f0 = true) then (shutterref12_One.l1 k1 (wrap64 (ag + 1)) T U E V W X I J F O L M) else (if 0 ≤ aJ then (if aJ < (E.length : Int) then (if ((rd_T47 E aJ).f0 = true) then (shutterref12_One.l1 k1 (wrap64 (ag + 1)) T U E V W X I J F O L M) else (some (I, J, F, O, L, M, aJ))) else (none)) else (none))) else (shutterref12_One.l1 k1 (wrap64 (ag + 1)) T U E V W X I J F O L M)) = some (r1, r2, r3, r4, r5, r6, r7) := by rw [← dc] at H; exact H
    have ao := Z dc
    clear dc
    cases mX
    ·rw [iF_] at H
     have H' := Z H
     clear H
     have uU := ns_ ax
     have uV := ns_ u
     have uW := ns_ am
     have jL := cells6 b.out
     go_wp2_with (first | ((with_reducible refine gF_ 78 rfl ?_); refine gd_ (some 81) Tryz.func78 (shutterref10_Next.calls T U _ _ E V W X ag aJ _ (cB_ aQ HB) a7.out h6.out) ?_; rintro e y0 ⟨rfl, hb⟩; refine ⟨_, rfl, ?_⟩; replace GH := rb' GH hb; replace b := kb' b hb; replace d := kb' d hb; replace m := kb' m hb; replace q := kb' q hb; replace HB := bs_ hb; (try clear hb); have jR := cells6 b.out; have bk : 0 ≤ (ag : Int) := od_; have bl : ag < (E.length : Int) := od_; obtain ⟨bK, cl, aB, aC, aD, aS, aE, aT⟩ := at_T47 aQ.out ag bk bl; (try rw [← ao.out] at aB); (try rw [← ao.out] at aC); (try rw [← ao.out] at aD); (try rw [← ao.out] at aE); cases cl; replace aB := hc_ HB aB; replace aC := hc_ HB aC; replace aD := hc_ HB aD; replace aS := hc_ HB aS; replace aE := hc_ HB aE; replace aT := hc_ HB aT; replace bk := eq_true bk; replace bl := eq_true bl))
     go_roundg k1
     case measure => have := bJ.out; omega
     case rel => exact ⟨(wrap64 (ag + 1)), (bC), (bD), (bE), (bF), (bG), (dn_), H', ⟨by have := bJ.out; omega⟩, ⟨vR_ GH.out⟩, ⟨vK b.out⟩, ⟨vK d.out⟩, ⟨vK m.out⟩, ⟨vK q.out⟩, ⟨bl_⟩⟩
    rw [if_pos rfl] at H
    obtain ⟨mY, dd⟩ : ∃ b_ : Bool, b_ = ((rd_T47 E ag).f1.f0) := ⟨_, rfl⟩
    replace H : (if (mY = true) then (shutterref12_One.l1 k1 (wrap64 (ag + 1)) T U E V W X I J F O L M) else (if 0 ≤ aJ then (if aJ < (E.length : Int) then (if ((rd_T47 E aJ).f0 = true) then (shutterref12_One.l1 k1 (wrap64 (ag + 1)) T U E V W X I J F O L M) else (some (I, J, F, O, L, M, aJ))) else (none)) else (none))) = some (r1, r2, r3, r4, r5, r6, r7) := by rw [← dd] at H; exact H
    have aw := Z dd
    clear dd
    by_cases cX : (mY = true)
    ·subst cX
     rw [if_pos rfl] at H
     have H' := Z H
     clear H
     have uI := ns_ ax
     have uJ := ns_ u
     have uK := ns_ am
     have iP := cells6 b.out
     go_wp2_with (first | ((with_reducible refine gF_ 78 rfl ?_); refine gd_ (some 81) Tryz.func78 (shutterref10_Next.calls T U _ _ E V W X ag aJ _ (cB_ aQ HB) a7.out h6.out) ?_; rintro e yY ⟨rfl, hb⟩; refine ⟨_, rfl, ?_⟩; replace GH := rb' GH hb; replace b := kb' b hb; replace d := kb' d hb; replace m := kb' m hb; replace q := kb' q hb; replace HB := bs_ hb; (try clear hb); have iV := cells6 b.out; have bk : 0 ≤ (ag : Int) := od_; have bl : ag < (E.length : Int) := od_; obtain ⟨bK, cl, aB, aC, aD, aS, aE, aT⟩ := at_T47 aQ.out ag bk bl; (try rw [← ao.out] at aB); (try rw [← aw.out] at aB); (try rw [← ao.out] at aC); (try rw [← aw.out] at aC); (try rw [← ao.out] at aD); (try rw [← aw.out] at aD); (try rw [← ao.out] at aE); (try rw [← aw.out] at aE); cases cl; replace aB := hc_ HB aB; replace aC := hc_ HB aC; replace aD := hc_ HB aD; replace aS := hc_ HB aS; replace aE := hc_ HB aE; replace aT := hc_ HB aT; replace bk := eq_true bk; replace bl := eq_true bl; have bH : 0 ≤ (ag : Int) := od_; have bI : ag < (E.length : Int) := od_; obtain ⟨cu, db, aK, aL, aM, a3, aN, a4⟩ := at_T47 aQ.out ag bH bI; (try rw [← ao.out] at aK); (try rw [← aw.out] at aK); (try rw [← ao.out] at aL); (try rw [← aw.out] at aL); (try rw [← ao.out] at aM); (try rw [← aw.out] at aM); (try rw [← ao.out] at aN); (try rw [← aw.out] at aN); obtain rfl : bK = cu := (by injection db); replace aK := hc_ HB aK; replace aL := hc_ HB aL; replace aM := hc_ HB aM; replace a3 := hc_ HB a3; replace aN := hc_ HB aN; replace a4 := hc_ HB a4; replace bH := eq_true bH; replace bI := eq_true bI))
     go_roundg k1
     case measure => have := bJ.out; omega
     case rel => exact ⟨(wrap64 (ag + 1)), (bC), (bD), (bE), (bF), (bG), (dn_), H', ⟨by have := bJ.out; omega⟩, ⟨vR_ GH.out⟩, ⟨vK b.out⟩, ⟨vK d.out⟩, ⟨vK m.out⟩, ⟨vK q.out⟩, ⟨bl_⟩⟩
    replace cX := Bool.eq_false_iff.mpr cX
    subst cX
    rw [iF_] at H
    obtain ⟨cY, H⟩ := gt_ H
    have oy := decide_eq_true cY
    clear cY
    obtain ⟨cZ, H⟩ := gt_ H
    have oz := decide_eq_true cZ
    clear cZ
    obtain ⟨mZ, de⟩ : ∃ b_ : Bool, b_ = ((rd_T47 E aJ).f0) := ⟨_, rfl⟩
    replace H : (if (mZ = true) then (shutterref12_One.l1 k1 (wrap64 (ag + 1)) T U E V W X I J F O L M) else (some (I, J, F, O, L, M, aJ))) = some (r1, r2, r3, r4, r5, r6, r7) := by rw [← de] at H; exact H
    have aI := Z de
    clear de
    by_cases c0 : (mZ = true)
    ·subst c0
     rw [if_pos rfl] at H
     have H' := Z H
     clear H
     have uL := ns_ ax
     have uM := ns_ u
     have uN := ns_ am
     have jb := cells6 b.out
     go_wp2_with (first | ((with_reducible refine gF_ 78 rfl ?_); refine gd_ (some 81) Tryz.func78 (shutterref10_Next.calls T U _ _ E V W X ag aJ _ (cB_ aQ HB) a7.out h6.out) ?_; rintro e yZ ⟨rfl, hb⟩; refine ⟨_, rfl, ?_⟩; replace GH := rb' GH hb; replace b := kb' b hb; replace d := kb' d hb; replace m := kb' m hb; replace q := kb' q hb; replace HB := bs_ hb; (try clear hb); have jh := cells6 b.out; have bk : 0 ≤ (ag : Int) := od_; have bl : ag < (E.length : Int) := od_; obtain ⟨bK, cl, aB, aC, aD, aS, aE, aT⟩ := at_T47 aQ.out ag bk bl; (try rw [← ao.out] at aB); (try rw [← aw.out] at aB); (try rw [← aI.out] at aB); (try rw [← ao.out] at aC); (try rw [← aw.out] at aC); (try rw [← aI.out] at aC); (try rw [← ao.out] at aD); (try rw [← aw.out] at aD); (try rw [← aI.out] at aD); (try rw [← ao.out] at aE); (try rw [← aw.out] at aE); (try rw [← aI.out] at aE); cases cl; replace aB := hc_ HB aB; replace aC := hc_ HB aC; replace aD := hc_ HB aD; replace aS := hc_ HB aS; replace aE := hc_ HB aE; replace aT := hc_ HB aT; replace bk := eq_true bk; replace bl := eq_true bl; have bH : 0 ≤ (ag : Int) := od_; have bI : ag < (E.length : Int) := od_; obtain ⟨cu, db, aK, aL, aM, a3, aN, a4⟩ := at_T47 aQ.out ag bH bI; (try rw [← ao.out] at aK); (try rw [← aw.out] at aK); (try rw [← aI.out] at aK); (try rw [← ao.out] at aL); (try rw [← aw.out] at aL); (try rw [← aI.out] at aL); (try rw [← ao.out] at aM); (try rw [← aw.out] at aM); (try rw [← aI.out] at aM); (try rw [← ao.out] at aN); (try rw [← aw.out] at aN); (try rw [← aI.out] at aN); obtain rfl : bK = cu := (by injection db); replace aK := hc_ HB aK; replace aL := hc_ HB aL; replace aM := hc_ HB aM; replace a3 := hc_ HB a3; replace aN := hc_ HB aN; replace a4 := hc_ HB a4; replace bH := eq_true bH; replace bI := eq_true bI; have b5 : 0 ≤ (aJ : Int) := od_; have b6 : aJ < (E.length : Int) := od_; obtain ⟨ib, iN, aY, aZ, a0, bo, a2, bp⟩ := at_T47 aQ.out aJ b5 b6; (try rw [← ao.out] at aY); (try rw [← aw.out] at aY); (try rw [← aI.out] at aY); (try rw [← ao.out] at aZ); (try rw [← aw.out] at aZ); (try rw [← aI.out] at aZ); (try rw [← ao.out] at a0); (try rw [← aw.out] at a0); (try rw [← aI.out] at a0); (try rw [← ao.out] at a2); (try rw [← aw.out] at a2); (try rw [← aI.out] at a2); obtain rfl : bK = ib := (by injection iN); replace aY := hc_ HB aY; replace aZ := hc_ HB aZ; replace a0 := hc_ HB a0; replace bo := hc_ HB bo; replace a2 := hc_ HB a2; replace bp := hc_ HB bp; replace b5 := eq_true b5; replace b6 := eq_true b6))
     go_roundg k1
     case measure => have := bJ.out; omega
     case rel => exact ⟨(wrap64 (ag + 1)), (bC), (bD), (bE), (bF), (bG), (dn_), H', ⟨by have := bJ.out; omega⟩, ⟨vR_ GH.out⟩, ⟨vK b.out⟩, ⟨vK d.out⟩, ⟨vK m.out⟩, ⟨vK q.out⟩, ⟨bl_⟩⟩
    replace c0 := Bool.eq_false_iff.mpr c0
    subst c0
    rw [iF_] at H
    obtain ⟨rfl, rfl, rfl, rfl, rfl, rfl, rfl⟩ := ij7_ H
    have uO := ns_ ax
    have uP := ns_ u
    have uQ := ns_ am
    have jn := cells6 b.out
    go_wp2_with (first | ((with_reducible refine gF_ 78 rfl ?_); refine gd_ (some 81) Tryz.func78 (shutterref10_Next.calls T U _ _ E V W X ag aJ _ (cB_ aQ HB) a7.out h6.out) ?_; rintro e sl ⟨rfl, hb⟩; refine ⟨_, rfl, ?_⟩; replace GH := rb' GH hb; replace b := kb' b hb; replace d := kb' d hb; replace m := kb' m hb; replace q := kb' q hb; replace HB := bs_ hb; (try clear hb); have jt := cells6 b.out; have bk : 0 ≤ (ag : Int) := od_; have bl : ag < (E.length : Int) := od_; obtain ⟨bK, cl, aB, aC, aD, aS, aE, aT⟩ := at_T47 aQ.out ag bk bl; (try rw [← ao.out] at aB); (try rw [← aw.out] at aB); (try rw [← aI.out] at aB); (try rw [← ao.out] at aC); (try rw [← aw.out] at aC); (try rw [← aI.out] at aC); (try rw [← ao.out] at aD); (try rw [← aw.out] at aD); (try rw [← aI.out] at aD); (try rw [← ao.out] at aE); (try rw [← aw.out] at aE); (try rw [← aI.out] at aE); cases cl; replace aB := hc_ HB aB; replace aC := hc_ HB aC; replace aD := hc_ HB aD; replace aS := hc_ HB aS; replace aE := hc_ HB aE; replace aT := hc_ HB aT; replace bk := eq_true bk; replace bl := eq_true bl; have bH : 0 ≤ (ag : Int) := od_; have bI : ag < (E.length : Int) := od_; obtain ⟨cu, db, aK, aL, aM, a3, aN, a4⟩ := at_T47 aQ.out ag bH bI; (try rw [← ao.out] at aK); (try rw [← aw.out] at aK); (try rw [← aI.out] at aK); (try rw [← ao.out] at aL); (try rw [← aw.out] at aL); (try rw [← aI.out] at aL); (try rw [← ao.out] at aM); (try rw [← aw.out] at aM); (try rw [← aI.out] at aM); (try rw [← ao.out] at aN); (try rw [← aw.out] at aN); (try rw [← aI.out] at aN); obtain rfl : bK = cu := (by injection db); replace aK := hc_ HB aK; replace aL := hc_ HB aL; replace aM := hc_ HB aM; replace a3 := hc_ HB a3; replace aN := hc_ HB aN; replace a4 := hc_ HB a4; replace bH := eq_true bH; replace bI := eq_true bI; have b5 : 0 ≤ (aJ : Int) := od_; have b6 : aJ < (E.length : Int) := od_; obtain ⟨ib, iN, aY, aZ, a0, bo, a2, bp⟩ := at_T47 aQ.out aJ b5 b6; (try rw [← ao.out] at aY); (try rw [← aw.out] at aY); (try rw [← aI.out] at aY); (try rw [← ao.out] at aZ); (try rw [← aw.out] at aZ); (try rw [← aI.out] at aZ); (try rw [← ao.out] at a0); (try rw [← aw.out] at a0); (try rw [← aI.out] at a0); (try rw [← ao.out] at a2); (try rw [← aw.out] at a2); (try rw [← aI.out] at a2); obtain rfl : bK = ib := (by injection iN); replace aY := hc_ HB aY; replace aZ := hc_ HB aZ; replace a0 := hc_ HB a0; replace bo := hc_ HB bo; replace a2 := hc_ HB a2; replace bp := hc_ HB bp; replace b5 := eq_true b5; replace b6 := eq_true b6; have uR := ns_ an; have uS := ns_ Y; have jz := cells6 q.out; have uT := ns_ l; have jF := cells6 m.out) | ((with_reducible refine gate_store (t := 24) (p := 6) rfl ?_); refine sx_ 24 6 ((((((sl.setCell ⟨a, 0, none⟩ (.int .i64 I)).setCell ⟨a, 1, none⟩ (.int .i64 J)).setCell ⟨a, 2, none⟩ (.slice a5 F.length a8)).setCell ⟨a, 3, none⟩ (.int .i64 O)).setCell ⟨a, 4, none⟩ (.bool L)).setCell ⟨a, 5, none⟩ (.bool M)) ?_; intro cJ hw; replace GH : Aside0 (Kd.R k47 47 cJ w.heap.size (fun _ => True) (.slice a5 F.length a8) F) := ⟨(by rw [hw]; exact (by (with_reducible repeat apply pR); exact R_off GH.out m.out (by decide) off2_))⟩; replace b := Z (sM hw (blk_off b.out u.out off2_)); replace d := Z (sM hw (blk_off d.out l.out off2_)); replace m : Aside0 (cJ.heap[a]? = some (.cells #[.int .i64 I, .int .i64 J, .slice a5 F.length a8, .int .i64 O, .bool L, .bool M] 24 (0, 0))) := ⟨(by rw [hw]; exact (by first | exact put6 m.out | (simp only [← ao.out, ← aw.out, ← aI.out]; exact put6 m.out)))⟩; replace q := Z (sM hw (blk_off q.out Y.out.symm off2_)); replace HB : Aside0 (Below w.heap.size w cJ) := ⟨by rw [hw]; exact bl_⟩; clear hw))
    refine rc2_ (vK m.out) Tryz.underlying24 ?_
    exact ⟨_, er_, by (with_reducible repeat apply pR); exact GH.out, bl_⟩
 rw [if_neg bZ] at H
 obtain ⟨cT, cU⟩ := eF_ bZ
 replace H := bn_ H
 obtain ⟨x, pv, H⟩ := H
 have H' := Z H
 clear H
 go_enter Tryz.func55, Tryz.ntmps55
 go_wp2_with (first | ((with_reducible refine gD_ 3 rfl ?_); refine bx_ 3 24 #[.int .i64 T, .int .i64 U, .slice aF E.length aA, .int .i64 V, .bool W, .bool X] ?_; intro ah hg y1 hbox hb; have b := Z hbox; have cp := ln' w hg; replace HB := bs_ hb; clear hb hbox hg) | ((with_reducible refine gD_ 5 rfl ?_); refine bx_ 5 49 #[.int .i64 ab, .slice aR ai.length aP, .bool ap, .bool aq, .int .i64 ar, .bool au, .int .i64 av, .int .u8 ak] ?_; intro ac hg y2 hbox hb; have d := Z hbox; have cq := ln' w hg; replace HB := bs_ hb; have ax := nl' b hg; replace b := kb' b hb; clear hb hbox hg) | ((with_reducible refine gD_ 6 rfl ?_); refine bx_ 6 24 zS_ ?_; intro a hg y3 hbox hb; have m := Z hbox; have cr := ln' w hg; replace HB := bs_ hb; have u := nl' b hg; replace b := kb' b hb; have l := nl' d hg; replace d := kb' d hb; clear hb hbox hg; have vd := ns_ ax; have GF := ns_ u; have kg := cells6 b.out) | ((with_reducible refine gF_ 27 rfl ?_); refine gd_ (some 15) Tryz.func27 (shutterref10_Copy.calls T U _ _ E V W X I J F O L M _ (cB_ aQ HB) a7.out A4.out) ?_; rintro e y4 ⟨ff, rfl, bn, hb⟩; refine ⟨_, rfl, ?_⟩; have Q := Z (Kd.R_lower bn (below_size bl_)); replace b := kb' b hb; replace d := kb' d hb; replace m := kb' m hb; replace HB := bs_ hb; (try clear hb); (try clear bn)) | ((with_reducible refine gD_ 8 rfl ?_); refine bx_ 8 24 zS_ ?_; intro D hg sm hbox hb; replace Q := rb' Q hb; have q := Z hbox; have ct := ln' w hg; replace HB := bs_ hb; have am := nl' b hg; replace b := kb' b hb; have an := nl' d hg; replace d := kb' d hb; have Y := nl' m hg; replace m := kb' m hb; clear hb hbox hg; have vf := ns_ am; have vg := ns_ an; have vh := ns_ Y; have km := cells6 q.out; obtain ⟨cN, cO, pg⟩ := Kd.R_slice Q.out; subst pg) | ((with_reducible refine gate_store (t := 24) (p := 8) rfl ?_); refine sx_ 24 8 ((((((sm.setCell ⟨D, 0, none⟩ (.int .i64 I)).setCell ⟨D, 1, none⟩ (.int .i64 J)).setCell ⟨D, 2, none⟩ (.slice cN F.length cO)).setCell ⟨D, 3, none⟩ (.int .i64 O)).setCell ⟨D, 4, none⟩ (.bool L)).setCell ⟨D, 5, none⟩ (.bool M)) ?_; intro cL hw; replace Q : Aside0 (Kd.R k47 47 cL w.heap.size (fun _ => True) (.slice cN F.length cO) F) := ⟨(by rw [hw]; exact (by (with_reducible repeat apply pR); exact R_off Q.out q.out (by decide) off2_))⟩; replace b := Z (sM hw (blk_off b.out am.out off2_)); replace d := Z (sM hw (blk_off d.out an.out off2_)); replace m := Z (sM hw (blk_off m.out Y.out off2_)); replace q : Aside0 (cL.heap[D]? = some (.cells #[.int .i64 I, .int .i64 J, .slice cN F.length cO, .int .i64 O, .bool L, .bool M] 24 (0, 0))) := ⟨by rw [hw]; exact (put6 q.out)⟩; replace HB : Aside0 (Below w.heap.size w cL) := ⟨by rw [hw]; exact bl_⟩; clear hw; have vi := ns_ l; have kt := cells8 d.out; have kB := cells6 b.out) | ((with_reducible refine gF_ 79 rfl ?_); refine gd_ (some 114) Tryz.func79 (shutterref10_Span.calls k T U _ _ E V W X a1 av x _ (cB_ aQ HB) a7.out pv.out) ?_; rintro e y5 ⟨si, rfl, bn, hb⟩; refine ⟨_, rfl, ?_⟩; replace Q := rb' Q hb; have o5 := Z (Kd.R_lower bn (below_size bl_)); replace b := kb' b hb; replace d := kb' d hb; replace m := kb' m hb; replace q := kb' q hb; replace HB := bs_ hb; (try clear hb); (try clear bn)))
 go_loopg [13] k (fun kq wn w' => ∃ (s : Int) (r : List (S47)) (GI : Value), wn = .int .i64 s ∧ Aside0 (shutterref12_One.l2 kq x s T U E V W X ab ai ap aq ar au av ak I J r O L M = some (r1, r2, r3, r4, r5, r6, r7)) ∧ Aside0 (kq ≤ k) ∧ Aside0 (Kd.R (Kd.int .i64) 3 w' w.heap.size (fun _ => True) si x) ∧ Aside0 (Kd.R k47 47 w' w.heap.size (fun _ => True) GI r) ∧ Aside0 (w'.heap[ah]? = some (.cells #[.int .i64 T, .int .i64 U, (.slice aF E.length aA), .int .i64 V, .bool W, .bool X] 24 (0, 0))) ∧ Aside0 (w'.heap[ac]? = some (.cells #[.int .i64 ab, (.slice aR ai.length aP), .bool ap, .bool aq, .int .i64 ar, .bool au, .int .i64 av, .int .u8 ak] 49 (0, 0))) ∧ Aside0 (w'.heap[a]? = some (.cells zS_ 24 (0, 0))) ∧ Aside0 (w'.heap[D]? = some (.cells #[.int .i64 I, .int .i64 J, GI, .int .i64 O, .bool L, .bool M] 24 (0, 0))) ∧ Aside0 (Below w.heap.size w w'))
 case atStart => exact ⟨(0), (F), (.slice cN F.length cO), (dn_), H', ⟨Nat.le_refl _⟩, ⟨vR_ o5.out⟩, ⟨vR_ Q.out⟩, ⟨vK b.out⟩, ⟨vK d.out⟩, ⟨vK m.out⟩, ⟨vK q.out⟩, ⟨bl_⟩⟩
 case round =>
  clear H'
  try clear c5
  try clear cw
  try clear il
  try clear im
  try clear cx
  try clear io
  try clear ip
  try clear bY
  try clear cR
  try clear cS
  try clear bZ
  try clear cT
  try clear cU
  try clear kg
  try clear km
  try clear kt
  try clear kB
  obtain ⟨s, r, GI, rfl, HA, bJ, GG, GH, b, d, m, q, HB⟩ := hrel
  cases gk with
  | zero => exact absurd HA.out (by simp [shutterref12_One.l2])
  | succ k1 =>
   have H := HA.out
   clear HA
   simp only [shutterref12_One.l2] at H
   by_cases cG : s < (x.length : Int)
   rotate_left
   ·rw [if_neg cG] at H
    have oA := decide_eq_false cG
    clear cG
    obtain ⟨rfl, rfl, rfl, rfl, rfl, rfl, rfl⟩ := ij7_ H
    obtain ⟨o3, pd, pk⟩ := Kd.R_slice GG.out
    subst pk
    try go_wp2
    replace GG := Z (Kd.R_drew GG.out)
    replace GH := Z (Kd.R_drew GH.out)
    replace b := Z (blk_drew b.out)
    replace d := Z (blk_drew d.out)
    replace m := Z (blk_drew m.out)
    replace q := Z (blk_drew q.out)
    replace HB := Z (below_drew1 HB.out)
    obtain ⟨a6, a9, m5⟩ := Kd.R_slice GH.out
    (first | subst m5 | (injection m5 with ps t9 pt; have ua := ps.symm; have ub := pt.symm; clear ps t9 pt; subst ua; subst ub))
    refine start_ (n := 5) (S := fun w' => w'.cell? ⟨D, 0, none⟩ = some (.int .i64 I) ∧ w'.cell? ⟨D, 1, none⟩ = some (.int .i64 J) ∧ w'.cell? ⟨D, 2, none⟩ = some (.slice a6 r.length a9) ∧ w'.cell? ⟨D, 3, none⟩ = some (.int .i64 O) ∧ w'.cell? ⟨D, 4, none⟩ = some (.bool L) ∧ w'.cell? ⟨D, 5, none⟩ = some (.bool M) ∧ w'.cell? ⟨ac, 0, none⟩ = some (.int .i64 ab) ∧ w'.cell? ⟨ac, 1, none⟩ = some (.slice aR ai.length aP) ∧ w'.cell? ⟨ac, 2, none⟩ = some (.bool ap) ∧ w'.cell? ⟨ac, 3, none⟩ = some (.bool aq) ∧ w'.cell? ⟨ac, 4, none⟩ = some (.int .i64 ar) ∧ w'.cell? ⟨ac, 5, none⟩ = some (.bool au) ∧ w'.cell? ⟨ac, 6, none⟩ = some (.int .i64 av) ∧ w'.cell? ⟨ac, 7, none⟩ = some (.int .u8 ak)) (ds := []) (bv 5 0) (by kernel_rfl) rfl rfl hd_ (fun hHeld => ?_)
    generalize wr.drew = bq at GG GH b d m q HB hHeld ⊢
    refine pA_ 1 5 2 (some 149) ?_
    refine tA_ hHeld 0 5 3 (some 148) ?_
    refine tA_ hHeld 2 5 7 (some 150) ?_
    refine one_ (i := 3) (N := none) (bv 5 15) rfl rfl (by kernel_rfl) (by decide) (fun K hK => ?_)
    have xR : bq.cell? ⟨a, 0, none⟩ = some (.int .i64 0) := (blk_cell m.out 0).trans rfl
    have uq := blk_frozen m.out 0
    have rP := u.out
    have rQ := l.out
    have rR := Y.out.symm
    have re := u.out.symm
    have rf := l.out.symm
    have rg := Y.out
    have xS : bq.cell? ⟨a, 1, none⟩ = some (.int .i64 0) := (blk_cell m.out 1).trans rfl
    have ur := blk_frozen m.out 1
    have rS := u.out
    have rT := l.out
    have rU := Y.out.symm
    have rh := u.out.symm
    have ri := l.out.symm
    have rj := Y.out
    have xT : bq.cell? ⟨a, 2, none⟩ = some (.slice none 0 0) := (blk_cell m.out 2).trans rfl
    have us := blk_frozen m.out 2
    have rV := u.out
    have rW := l.out
    have rX := Y.out.symm
    have rk := u.out.symm
    have rl := l.out.symm
    have rm := Y.out
    have xU : bq.cell? ⟨a, 3, none⟩ = some (.int .i64 0) := (blk_cell m.out 3).trans rfl
    have ut := blk_frozen m.out 3
    have rY := u.out
    have rZ := l.out
    have r0 := Y.out.symm
    have rn := u.out.symm
    have ro := l.out.symm
    have rp := Y.out
    have xV : bq.cell? ⟨a, 4, none⟩ = some (.bool false) := (blk_cell m.out 4).trans rfl
    have uu := blk_frozen m.out 4
    have r8 := u.out
    have r9 := l.out
    have sa := Y.out.symm
    have rq := u.out.symm
    have rr := l.out.symm
    have rs := Y.out
    have xW : bq.cell? ⟨a, 5, none⟩ = some (.bool false) := (blk_cell m.out 5).trans rfl
    have uv := blk_frozen m.out 5
    have sb := u.out
    have sc := l.out
    have sd := Y.out.symm
    have rt := u.out.symm
    have ru := l.out.symm
    have rv := Y.out
    refine skip_ (w1 := ?_) (by rfl) rfl ?_ ?_
    rotate_left
    ·go_simp
     rfl
    refine hK.out _ _ ⟨(fC6 a Y.out.symm (hHeld.1)), (fC6 a Y.out.symm (hHeld.2.1)), (fC6 a Y.out.symm (hHeld.2.2.1)), (fC6 a Y.out.symm (hHeld.2.2.2.1)), (fC6 a Y.out.symm (hHeld.2.2.2.2.1)), (fC6 a Y.out.symm (hHeld.2.2.2.2.2.1)), (fC6 a l.out (hHeld.2.2.2.2.2.2.1)), (fC6 a l.out (hHeld.2.2.2.2.2.2.2.1)), (fC6 a l.out (hHeld.2.2.2.2.2.2.2.2.1)), (fC6 a l.out (hHeld.2.2.2.2.2.2.2.2.2.1)), (fC6 a l.out (hHeld.2.2.2.2.2.2.2.2.2.2.1)), (fC6 a l.out (hHeld.2.2.2.2.2.2.2.2.2.2.2.1)), (fC6 a l.out (hHeld.2.2.2.2.2.2.2.2.2.2.2.2.1)), (fC6 a l.out (hHeld.2.2.2.2.2.2.2.2.2.2.2.2.2))⟩ (fun hHeld => ?_)
    clear hK K
    refine pA_ 4 5 31 (some 7) ?_
    refine done_ (by kernel_rfl) ?_
    obtain ⟨zb, ezb⟩ : ∃ w_, w_ = ((((((bq.setCell ⟨a, 0, none⟩ (.int .i64 I)).setCell ⟨a, 1, none⟩ (.int .i64 J)).setCell ⟨a, 2, none⟩ (.slice a6 r.length a9)).setCell ⟨a, 3, none⟩ (.int .i64 O)).setCell ⟨a, 4, none⟩ (.bool L)).setCell ⟨a, 5, none⟩ (.bool M)) := ⟨_, rfl⟩
    have y : Aside0 (Kd.R (Kd.int .i64) 3 zb w.heap.size (fun _ => True) (.slice o3 x.length pd) x) := ⟨by rw [ezb]; (with_reducible repeat apply pR); exact Kd.R_mono (f6R a (Kd.R_types GG.out m.out (by decide)) im_) im_⟩
    have z : Aside0 (Kd.R k47 47 zb w.heap.size (fun _ => True) (.slice a6 r.length a9) r) := ⟨by rw [ezb]; (with_reducible repeat apply pR); exact Kd.R_mono (f6R a (Kd.R_types GH.out m.out (by decide)) im_) im_⟩
    have A : Aside0 (zb.heap[ah]? = some (.cells #[.int .i64 T, .int .i64 U, .slice aF E.length aA, .int .i64 V, .bool W, .bool X] 24 (0, 0))) := ⟨by rw [ezb]; exact blk_off b.out u.out off2_⟩
    have B : Aside0 (zb.heap[ac]? = some (.cells #[.int .i64 ab, .slice aR ai.length aP, .bool ap, .bool aq, .int .i64 ar, .bool au, .int .i64 av, .int .u8 ak] 49 (0, 0))) := ⟨by rw [ezb]; exact blk_off d.out l.out off2_⟩
    have G : Aside0 (zb.heap[a]? = some (.cells #[.int .i64 I, .int .i64 J, .slice a6 r.length a9, .int .i64 O, .bool L, .bool M] 24 (0, 0))) := ⟨by rw [ezb]; exact put6 m.out⟩
    have P : Aside0 (zb.heap[D]? = some (.cells #[.int .i64 I, .int .i64 J, .slice a6 r.length a9, .int .i64 O, .bool L, .bool M] 24 (0, 0))) := ⟨by rw [ezb]; exact blk_off q.out Y.out.symm off2_⟩
    have aj : Aside0 (Below w.heap.size w zb) := ⟨by rw [ezb]; exact bl_⟩
    (try clear GG)
    (try clear GH)
    (try clear b)
    (try clear d)
    (try clear m)
    (try clear q)
    (try clear HB)
    rw [← ezb]
    clear ezb
    have GG := y
    have GH := z
    have b := A
    have d := B
    have m := G
    have q := P
    have HB := aj
    clear y z A B G P aj
    try go_wp2
    refine rc2_ (vK m.out) Tryz.underlying24 ?_
    exact ⟨_, er_, by (with_reducible repeat apply pR); exact GH.out, bl_⟩
   rw [if_pos cG] at H
   have oA := decide_eq_true cG
   clear cG
   by_cases ck : ab = 6
   ·rw [if_pos ck] at H
    obtain ⟨oB, oC⟩ := eT_ ck
    clear ck
    obtain ⟨ic, H⟩ := gt_ H
    have tC := decide_eq_true ic
    clear ic
    obtain ⟨id, H⟩ := gt_ H
    have tD := decide_eq_true id
    clear id
    obtain ⟨ie, H⟩ := gt_ H
    have tE := decide_eq_true ie
    clear ie
    obtain ⟨mM, cA⟩ : ∃ y_ : List (S47), y_ = (r.set ((rd x s) : Int).toNat (⟨false, (⟨false, false, 0, false⟩ : S45), ak⟩ : S47)) := ⟨_, rfl⟩
    rw [← cA] at H
    try replace H := sb_ H
    have o9 := Z cA
    clear cA
    have H' := Z H
    clear H
    obtain ⟨ws, pc, ph⟩ := Kd.R_slice GG.out
    subst ph
    have vj := ns_ ax
    have vk := ns_ l
    have vl := ns_ an
    have GD := cells8 d.out
    try go_wp2
    replace GG := Z (Kd.R_drew GG.out)
    replace GH := Z (Kd.R_drew GH.out)
    replace b := Z (blk_drew b.out)
    replace d := Z (blk_drew d.out)
    replace m := Z (blk_drew m.out)
    replace q := Z (blk_drew q.out)
    replace HB := Z (below_drew1 HB.out)
    have mF : 0 ≤ (s : Int) := od_
    have mK : s < (x.length : Int) := od_
    obtain ⟨mW, pM, h2⟩ := Kd.at_int (Kd.R_reads' GG.out).2.2 s mF mK
    cases pM
    replace mF := eq_true mF
    replace mK := eq_true mK
    have mC : 0 ≤ ((rd x s) : Int) := od_
    have mH : ((rd x s) : Int) < ((r.length : Int) : Int) := od_
    obtain ⟨aa, cP, m3, m6, pl, wD, mS⟩ := Kd.R_form GH.out (by omega)
    (first | cases m3 | (injection m3 with ea_ en_ ec_; (first | subst ea_ | (injection ea_ with ea_; subst ea_)); subst ec_; clear en_))
    have ci := Z m6
    have mQ := Z mS
    clear m6 pl mS
    obtain ⟨wz, oL, m8, bM, bO⟩ := Kd.R_elem GH.out z47 ((rd x s) : Int) mC mH
    obtain rfl := k47_openM m8
    have od : World.cell? _ ⟨aa, ((rd x s) : Int).toNat * 6, none⟩ = some (.bool ((rd_T47 r (rd x s)).f0)) := bM 0 _ rfl
    have oe : World.cell? _ ⟨aa, ((rd x s) : Int).toNat * 6 + 1, none⟩ = some (.bool ((rd_T47 r (rd x s)).f1.f0)) := bM 1 _ rfl
    have of : World.cell? _ ⟨aa, ((rd x s) : Int).toNat * 6 + 2, none⟩ = some (.bool ((rd_T47 r (rd x s)).f1.f1)) := bM 2 _ rfl
    have og : World.cell? _ ⟨aa, ((rd x s) : Int).toNat * 6 + 3, none⟩ = some (.int .i64 ((rd_T47 r (rd x s)).f1.f2)) := bM 3 _ rfl
    have oh : World.cell? _ ⟨aa, ((rd x s) : Int).toNat * 6 + 4, none⟩ = some (.bool ((rd_T47 r (rd x s)).f1.f3)) := bM 4 _ rfl
    have oi : World.cell? _ ⟨aa, ((rd x s) : Int).toNat * 6 + 5, none⟩ = some (.int .u8 ((rd_T47 r (rd x s)).f2)) := bM 5 _ rfl
    have nH : World.frozen? _ ⟨aa, ((rd x s) : Int).toNat * 6, none⟩ = false := bO 0
    have nI : World.frozen? _ ⟨aa, ((rd x s) : Int).toNat * 6 + 1, none⟩ = false := bO 1
    have nJ : World.frozen? _ ⟨aa, ((rd x s) : Int).toNat * 6 + 2, none⟩ = false := bO 2
    have nK : World.frozen? _ ⟨aa, ((rd x s) : Int).toNat * 6 + 3, none⟩ = false := bO 3
    have nL : World.frozen? _ ⟨aa, ((rd x s) : Int).toNat * 6 + 4, none⟩ = false := bO 4
    have nM : World.frozen? _ ⟨aa, ((rd x s) : Int).toNat * 6 + 5, none⟩ = false := bO 5
    clear oL bM bO m8
    replace mC := eq_true mC
    replace mH := eq_true mH
    obtain ⟨wA, iy, m9, iw, oZ⟩ := Kd.R_elem GH.out z47 ((rd x s) : Int) (od_) (by have h_ : ((rd x s) : Int) < ((r.length : Int) : Int) := od_; first | exact h_ | (have e_ := (Kd.R_reads' GH.out).1; omega) | simpa using h_)
    obtain rfl := k47_openM m9
    have h8 := (Kd.R_seg GH.out ((rd x s) : Int) (od_) (by have h_ : ((rd x s) : Int) < ((r.length : Int) : Int) := od_; first | exact h_ | (have e_ := (Kd.R_reads' GH.out).1; omega) | simpa using h_) (seg := [.bool false, .bool false, .bool false, .int .i64 0, .bool false, .int .u8 ak]) (j := 0) iy iw (show 6 ≤ 6 from by decide) (x' := (⟨false, (⟨false, false, 0, false⟩ : S45), ak⟩ : S47)) (k47_mkM _ _ _ (⟨false, (⟨false, false, 0, false⟩ : S45), ak⟩ : S47) ) (fun _ hk => hk)).1
    rw [← o9.out] at h8
    have mU := Z h8
    clear iy iw oZ m9 h8
    refine start_ (n := 11) (S := fun w' => w'.cell? ⟨D, 0, none⟩ = some (.int .i64 I) ∧ w'.cell? ⟨D, 1, none⟩ = some (.int .i64 J) ∧ w'.cell? ⟨D, 2, none⟩ = some (.slice (some ⟨aa, 0, none⟩) r.length cP) ∧ w'.cell? ⟨D, 3, none⟩ = some (.int .i64 O) ∧ w'.cell? ⟨D, 4, none⟩ = some (.bool L) ∧ w'.cell? ⟨D, 5, none⟩ = some (.bool M) ∧ w'.cell? ⟨ac, 0, none⟩ = some (.int .i64 ab) ∧ w'.cell? ⟨ac, 1, none⟩ = some (.slice aR ai.length aP) ∧ w'.cell? ⟨ac, 2, none⟩ = some (.bool ap) ∧ w'.cell? ⟨ac, 3, none⟩ = some (.bool aq) ∧ w'.cell? ⟨ac, 4, none⟩ = some (.int .i64 ar) ∧ w'.cell? ⟨ac, 5, none⟩ = some (.bool au) ∧ w'.cell? ⟨ac, 6, none⟩ = some (.int .i64 av) ∧ w'.cell? ⟨ac, 7, none⟩ = some (.int .u8 ak) ∧ w'.cell? (mW.add (s).toNat) = some (.int .i64 (rd x s))) (ds := [10]) (bv 11 0) (by kernel_rfl) rfl rfl ⟨(blk_cell q.out 0).trans rfl, (blk_cell q.out 1).trans rfl, (blk_cell q.out 2).trans rfl, (blk_cell q.out 3).trans rfl, (blk_cell q.out 4).trans rfl, (blk_cell q.out 5).trans rfl, (blk_cell d.out 0).trans rfl, (blk_cell d.out 1).trans rfl, (blk_cell d.out 2).trans rfl, (blk_cell d.out 3).trans rfl, (blk_cell d.out 4).trans rfl, (blk_cell d.out 5).trans rfl, (blk_cell d.out 6).trans rfl, (blk_cell d.out 7).trans rfl, h2⟩ (fun hHeld => ?_); refine with_tabW shutterref12_One.tab30 shutterref12_One.bits30 (fun HT_ HW_ => ?_)
    generalize wr.drew = ch at GG GH b d m q HB mQ mU nH nI nJ nK nL nM od oe of og oh oi h2 hHeld ⊢
    refine pT_ HT_ 0 11 1 (some 124) ?_
    refine pT_ HT_ 2 11 5 (some 126) ?_
    refine pT_ HT_ 3 11 13 (some 127) ?_
    refine pT_ HT_ 4 11 29 (some 128) ?_
    refine pT_ HT_ 6 11 93 (some 130) ?_
    refine tT_ HT_ HW_ hHeld 1 11 95 (some 125) ?_
    refine tT_ HT_ HW_ hHeld 5 11 127 (some 129) ?_
    refine tT_ HT_ HW_ hHeld 7 11 255 (some 131) ?_
    refine pT_ HT_ 8 11 511 (some 132) ?_
    refine pT_ HT_ 9 11 1023 (some 133) ?_
    refine last_ (i := 10) (N := none) (bv 11 2047) rfl rfl (one_of HT_.out (by kernel_rfl)) (by decide) (fun K hK => ?_)
    refine skip_ (w1 := ?_) (by rfl) rfl ?_ ?_
    rotate_left
    ·go_simp
     rfl
    refine hK.out _ _ ?_
    clear hK K
    refine done_ (done_of HT_.out (by kernel_rfl)) ?_
    obtain ⟨y6, ey6⟩ : ∃ w_, w_ = ((((((ch.setCell ⟨aa, ((rd x s) : Int).toNat * 6, none⟩ (.bool false)).setCell ⟨aa, ((rd x s) : Int).toNat * 6 + 1, none⟩ (.bool false)).setCell ⟨aa, ((rd x s) : Int).toNat * 6 + 2, none⟩ (.bool false)).setCell ⟨aa, ((rd x s) : Int).toNat * 6 + 3, none⟩ (.int .i64 0)).setCell ⟨aa, ((rd x s) : Int).toNat * 6 + 4, none⟩ (.bool false)).setCell ⟨aa, ((rd x s) : Int).toNat * 6 + 5, none⟩ (.int .u8 ak)) := ⟨_, rfl⟩
    have y : Aside0 (Kd.R (Kd.int .i64) 3 y6 w.heap.size (fun _ => True) (.slice (some mW) x.length pc) x) := ⟨by rw [ey6]; (with_reducible repeat apply pR); exact Kd.R_mono (Kd.R_far (p := ⟨aa, ((rd x s) : Int).toNat * 6 + 5, none⟩) (Kd.R_far (p := ⟨aa, ((rd x s) : Int).toNat * 6 + 4, none⟩) (Kd.R_far (p := ⟨aa, ((rd x s) : Int).toNat * 6 + 3, none⟩) (Kd.R_far (p := ⟨aa, ((rd x s) : Int).toNat * 6 + 2, none⟩) (Kd.R_far (p := ⟨aa, ((rd x s) : Int).toNat * 6 + 1, none⟩) (Kd.R_far (p := ⟨aa, ((rd x s) : Int).toNat * 6, none⟩) (Kd.R_types GG.out mQ.out (by decide)) im_ (.bool false)) im_ (.bool false)) im_ (.bool false)) im_ (.int .i64 0)) im_ (.bool false)) im_ (.int .u8 ak)) im_⟩
    have z : Aside0 (Kd.R k47 47 y6 w.heap.size (fun _ => True) (.slice (some ⟨aa, 0, none⟩) r.length cP) mM) := ⟨by rw [ey6]; (with_reducible repeat apply pR); exact mU.out⟩
    have A : Aside0 (y6.heap[ah]? = some (.cells #[.int .i64 T, .int .i64 U, .slice aF E.length aA, .int .i64 V, .bool W, .bool X] 24 (0, 0))) := ⟨by rw [ey6]; (with_reducible repeat apply pK); refine blk_far ?_ (by have h_ := Kd.R_ne GH.out b.out (by decide); intro e_; exact h_ (by rw [e_]; rfl)) _; (with_reducible repeat apply pK); refine blk_far ?_ (by have h_ := Kd.R_ne GH.out b.out (by decide); intro e_; exact h_ (by rw [e_]; rfl)) _; (with_reducible repeat apply pK); refine blk_far ?_ (by have h_ := Kd.R_ne GH.out b.out (by decide); intro e_; exact h_ (by rw [e_]; rfl)) _; (with_reducible repeat apply pK); refine blk_far ?_ (by have h_ := Kd.R_ne GH.out b.out (by decide); intro e_; exact h_ (by rw [e_]; rfl)) _; (with_reducible repeat apply pK); refine blk_far ?_ (by have h_ := Kd.R_ne GH.out b.out (by decide); intro e_; exact h_ (by rw [e_]; rfl)) _; (with_reducible repeat apply pK); refine blk_far ?_ (by have h_ := Kd.R_ne GH.out b.out (by decide); intro e_; exact h_ (by rw [e_]; rfl)) _; (with_reducible repeat apply pK); exact b.out⟩
    have B : Aside0 (y6.heap[ac]? = some (.cells #[.int .i64 ab, .slice aR ai.length aP, .bool ap, .bool aq, .int .i64 ar, .bool au, .int .i64 av, .int .u8 ak] 49 (0, 0))) := ⟨by rw [ey6]; (with_reducible repeat apply pK); refine blk_far ?_ (by have h_ := Kd.R_ne GH.out d.out (by decide); intro e_; exact h_ (by rw [e_]; rfl)) _; (with_reducible repeat apply pK); refine blk_far ?_ (by have h_ := Kd.R_ne GH.out d.out (by decide); intro e_; exact h_ (by rw [e_]; rfl)) _; (with_reducible repeat apply pK); refine blk_far ?_ (by have h_ := Kd.R_ne GH.out d.out (by decide); intro e_; exact h_ (by rw [e_]; rfl)) _; (with_reducible repeat apply pK); refine blk_far ?_ (by have h_ := Kd.R_ne GH.out d.out (by decide); intro e_; exact h_ (by rw [e_]; rfl)) _; (with_reducible repeat apply pK); refine blk_far ?_ (by have h_ := Kd.R_ne GH.out d.out (by decide); intro e_; exact h_ (by rw [e_]; rfl)) _; (with_reducible repeat apply pK); refine blk_far ?_ (by have h_ := Kd.R_ne GH.out d.out (by decide); intro e_; exact h_ (by rw [e_]; rfl)) _; (with_reducible repeat apply pK); exact d.out⟩
    have G : Aside0 (y6.heap[a]? = some (.cells zS_ 24 (0, 0))) := ⟨by rw [ey6]; (with_reducible repeat apply pK); refine blk_far ?_ (by have h_ := Kd.R_ne GH.out m.out (by decide); intro e_; exact h_ (by rw [e_]; rfl)) _; (with_reducible repeat apply pK); refine blk_far ?_ (by have h_ := Kd.R_ne GH.out m.out (by decide); intro e_; exact h_ (by rw [e_]; rfl)) _; (with_reducible repeat apply pK); refine blk_far ?_ (by have h_ := Kd.R_ne GH.out m.out (by decide); intro e_; exact h_ (by rw [e_]; rfl)) _; (with_reducible repeat apply pK); refine blk_far ?_ (by have h_ := Kd.R_ne GH.out m.out (by decide); intro e_; exact h_ (by rw [e_]; rfl)) _; (with_reducible repeat apply pK); refine blk_far ?_ (by have h_ := Kd.R_ne GH.out m.out (by decide); intro e_; exact h_ (by rw [e_]; rfl)) _; (with_reducible repeat apply pK); refine blk_far ?_ (by have h_ := Kd.R_ne GH.out m.out (by decide); intro e_; exact h_ (by rw [e_]; rfl)) _; (with_reducible repeat apply pK); exact m.out⟩
    have P : Aside0 (y6.heap[D]? = some (.cells #[.int .i64 I, .int .i64 J, .slice (some ⟨aa, 0, none⟩) r.length cP, .int .i64 O, .bool L, .bool M] 24 (0, 0))) := ⟨by rw [ey6]; (with_reducible repeat apply pK); refine blk_far ?_ (by have h_ := Kd.R_ne GH.out q.out (by decide); intro e_; exact h_ (by rw [e_]; rfl)) _; (with_reducible repeat apply pK); refine blk_far ?_ (by have h_ := Kd.R_ne GH.out q.out (by decide); intro e_; exact h_ (by rw [e_]; rfl)) _; (with_reducible repeat apply pK); refine blk_far ?_ (by have h_ := Kd.R_ne GH.out q.out (by decide); intro e_; exact h_ (by rw [e_]; rfl)) _; (with_reducible repeat apply pK); refine blk_far ?_ (by have h_ := Kd.R_ne GH.out q.out (by decide); intro e_; exact h_ (by rw [e_]; rfl)) _; (with_reducible repeat apply pK); refine blk_far ?_ (by have h_ := Kd.R_ne GH.out q.out (by decide); intro e_; exact h_ (by rw [e_]; rfl)) _; (with_reducible repeat apply pK); refine blk_far ?_ (by have h_ := Kd.R_ne GH.out q.out (by decide); intro e_; exact h_ (by rw [e_]; rfl)) _; (with_reducible repeat apply pK); exact q.out⟩
    have aj : Aside0 (Below w.heap.size w y6) := ⟨by rw [ey6]; repeat (first | (with_reducible first | exact HB.out | apply below_alloc | apply pw_below_drewN | apply below_drew1 | refine below_set ?_ ci.out | refine below_set ?_ ci.out | refine below_set ?_ ci.out | refine below_set ?_ ci.out | refine below_set ?_ ci.out | refine below_set ?_ ci.out | refine below_set ?_ cp.out | refine below_set ?_ cq.out | refine below_set ?_ cr.out | refine below_set ?_ ct.out) | exact HB.out)⟩
    (try clear GG)
    (try clear GH)
    (try clear b)
    (try clear d)
    (try clear m)
    (try clear q)
    (try clear HB)
    rw [← ey6]
    clear ey6
    have GG := y
    have GH := z
    have b := A
    have d := B
    have m := G
    have q := P
    have HB := aj
    clear y z A B G P aj
    try go_wp2
    go_roundg k1
    case measure => have := bJ.out; omega
    case rel => exact ⟨(wrap64 (s + 1)), (mM), (.slice (some ⟨aa, 0, none⟩) r.length cP), (dn_), H', ⟨by have := bJ.out; omega⟩, ⟨vR_ GG.out⟩, ⟨vR_ GH.out⟩, ⟨vK b.out⟩, ⟨vK d.out⟩, ⟨vK m.out⟩, ⟨vK q.out⟩, ⟨bl_⟩⟩
   rw [if_neg ck] at H
   obtain ⟨oB, oC⟩ := eF_ ck
   obtain ⟨ig, H⟩ := gt_ H
   have tF := decide_eq_true ig
   clear ig
   replace H := bn_ H
   obtain ⟨o1, op, H⟩ := H
   cases o1
   ·rw [iF_] at H
    have H' := Z H
    clear H
    obtain ⟨wu, wG, pj⟩ := Kd.R_slice GG.out
    subst pj
    have vp := ns_ ax
    have vq := ns_ l
    have vr := ns_ an
    have qe := cells8 d.out
    try go_wp2
    replace GG := Z (Kd.R_drew GG.out)
    replace GH := Z (Kd.R_drew GH.out)
    replace b := Z (blk_drew b.out)
    replace d := Z (blk_drew d.out)
    replace m := Z (blk_drew m.out)
    replace q := Z (blk_drew q.out)
    replace HB := Z (below_drew1 HB.out)
    have cm : 0 ≤ (s : Int) := od_
    have cn : s < (x.length : Int) := od_
    obtain ⟨cv, iO, bW⟩ := Kd.at_int (Kd.R_reads' GG.out).2.2 s cm cn
    cases iO
    replace cm := eq_true cm
    replace cn := eq_true cn
    refine start_ (n := 6) (S := fun w' => w'.cell? ⟨ah, 0, none⟩ = some (.int .i64 T) ∧ w'.cell? ⟨ah, 1, none⟩ = some (.int .i64 U) ∧ w'.cell? ⟨ah, 2, none⟩ = some (.slice aF E.length aA) ∧ w'.cell? ⟨ah, 3, none⟩ = some (.int .i64 V) ∧ w'.cell? ⟨ah, 4, none⟩ = some (.bool W) ∧ w'.cell? ⟨ah, 5, none⟩ = some (.bool X) ∧ w'.cell? (cv.add (s).toNat) = some (.int .i64 (rd x s))) (ds := []) (bv 6 0) (by kernel_rfl) rfl rfl ⟨(blk_cell b.out 0).trans rfl, (blk_cell b.out 1).trans rfl, (blk_cell b.out 2).trans rfl, (blk_cell b.out 3).trans rfl, (blk_cell b.out 4).trans rfl, (blk_cell b.out 5).trans rfl, bW⟩ (fun hHeld => ?_)
    generalize wr.drew = y9 at GG GH b d m q HB bW hHeld ⊢
    refine pA_ 1 6 2 (some 135) ?_
    refine pA_ 2 6 6 (some 136) ?_
    refine pA_ 3 6 14 (some 137) ?_
    refine tA_ hHeld 0 6 15 (some 134) ?_
    refine tA_ hHeld 4 6 31 (some 138) ?_
    refine one_ (i := 5) (N := some 139) (bv 6 63) rfl rfl (by kernel_rfl) (by decide) (fun K hK => ?_)
    refine goes_ Tryz.func29 (by kernel_rfl) rfl #[.agg #[.int .i64 T, .int .i64 U, .slice aF E.length aA, .int .i64 V, .bool W, .bool X], .int .i64 (rd x s)] (by rfl) rfl rfl ag_ ?_
    with_reducible refine (shutterref11_Open.calls k1 T U _ _ E V W X (rd x s) false _ ?side1 ?side2 op.out).mono ?_
    (case side1 => repeat (first | exact (Kd.C_below aQ.out HB.out) | (with_reducible apply pC)))
    (case side2 => exact a7.out)
    rintro e za ⟨rfl, hb⟩
    have iK := (hb.cell (bk_ _ _ (hHeld.2.2.2.2.2.2))).trans (hHeld.2.2.2.2.2.2)
    refine ⟨_, rfl, ?_⟩
    replace GG := rb' GG hb
    replace GH := rb' GH hb
    replace b := kb' b hb
    replace d := kb' d hb
    replace m := kb' m hb
    replace q := kb' q hb
    replace HB := bs_ hb
    (try clear hb)
    (try clear bU)
    (try clear hk)
    (try clear hi)
    refine hK.out _ _ ⟨(blk_cell b.out 0).trans rfl, (blk_cell b.out 1).trans rfl, (blk_cell b.out 2).trans rfl, (blk_cell b.out 3).trans rfl, (blk_cell b.out 4).trans rfl, (blk_cell b.out 5).trans rfl, iK⟩ (fun hHeld => ?_)
    clear hK K
    refine nA_ (some 139) ?_
    refine done_ (by kernel_rfl) ?_
    try go_wp2
    go_roundg k1
    case measure => have := bJ.out; omega
    case rel => exact ⟨(wrap64 (s + 1)), (r), (GI), (dn_), H', ⟨by have := bJ.out; omega⟩, ⟨vR_ GG.out⟩, ⟨vR_ GH.out⟩, ⟨vK b.out⟩, ⟨vK d.out⟩, ⟨vK m.out⟩, ⟨vK q.out⟩, ⟨bl_⟩⟩
   rw [if_pos rfl] at H
   obtain ⟨ij, H⟩ := gt_ H
   have tG := decide_eq_true ij
   clear ij
   obtain ⟨ik, H⟩ := gt_ H
   have tH := decide_eq_true ik
   clear ik
   obtain ⟨o2, cB⟩ : ∃ y_ : List (S47), y_ = (r.set ((rd x s) : Int).toNat (⟨(rd_T47 r (rd x s)).f0, (⟨(rd_T47 r (rd x s)).f1.f0, (rd_T47 r (rd x s)).f1.f1, (rd_T47 r (rd x s)).f1.f2, (rd_T47 r (rd x s)).f1.f3⟩ : S45), 0⟩ : S47)) := ⟨_, rfl⟩
   rw [← cB] at H
   try replace H := sb_ H
   have pa := Z cB
   clear cB
   have H' := Z H
   clear H
   obtain ⟨wt, wF, pi⟩ := Kd.R_slice GG.out
   subst pi
   have vm := ns_ ax
   have vn := ns_ l
   have vo := ns_ an
   have p4 := cells8 d.out
   try go_wp2
   replace GG := Z (Kd.R_drew GG.out)
   replace GH := Z (Kd.R_drew GH.out)
   replace b := Z (blk_drew b.out)
   replace d := Z (blk_drew d.out)
   replace m := Z (blk_drew m.out)
   replace q := Z (blk_drew q.out)
   replace HB := Z (below_drew1 HB.out)
   have cm : 0 ≤ (s : Int) := od_
   have cn : s < (x.length : Int) := od_
   obtain ⟨cv, iO, bW⟩ := Kd.at_int (Kd.R_reads' GG.out).2.2 s cm cn
   cases iO
   replace cm := eq_true cm
   replace cn := eq_true cn
   refine start_ (n := 6) (S := fun w' => w'.cell? ⟨ah, 0, none⟩ = some (.int .i64 T) ∧ w'.cell? ⟨ah, 1, none⟩ = some (.int .i64 U) ∧ w'.cell? ⟨ah, 2, none⟩ = some (.slice aF E.length aA) ∧ w'.cell? ⟨ah, 3, none⟩ = some (.int .i64 V) ∧ w'.cell? ⟨ah, 4, none⟩ = some (.bool W) ∧ w'.cell? ⟨ah, 5, none⟩ = some (.bool X) ∧ w'.cell? (cv.add (s).toNat) = some (.int .i64 (rd x s))) (ds := []) (bv 6 0) (by kernel_rfl) rfl rfl ⟨(blk_cell b.out 0).trans rfl, (blk_cell b.out 1).trans rfl, (blk_cell b.out 2).trans rfl, (blk_cell b.out 3).trans rfl, (blk_cell b.out 4).trans rfl, (blk_cell b.out 5).trans rfl, bW⟩ (fun hHeld => ?_)
   generalize wr.drew = y7 at GG GH b d m q HB bW hHeld ⊢
   refine pA_ 1 6 2 (some 135) ?_
   refine pA_ 2 6 6 (some 136) ?_
   refine pA_ 3 6 14 (some 137) ?_
   refine tA_ hHeld 0 6 15 (some 134) ?_
   refine tA_ hHeld 4 6 31 (some 138) ?_
   refine one_ (i := 5) (N := some 139) (bv 6 63) rfl rfl (by kernel_rfl) (by decide) (fun K hK => ?_)
   refine goes_ Tryz.func29 (by kernel_rfl) rfl #[.agg #[.int .i64 T, .int .i64 U, .slice aF E.length aA, .int .i64 V, .bool W, .bool X], .int .i64 (rd x s)] (by rfl) rfl rfl ag_ ?_
   with_reducible refine (shutterref11_Open.calls k1 T U _ _ E V W X (rd x s) true _ ?side1 ?side2 op.out).mono ?_
   (case side1 => repeat (first | exact (Kd.C_below aQ.out HB.out) | (with_reducible apply pC)))
   (case side2 => exact a7.out)
   rintro e sn ⟨rfl, hb⟩
   have iK := (hb.cell (bk_ _ _ (hHeld.2.2.2.2.2.2))).trans (hHeld.2.2.2.2.2.2)
   refine ⟨_, rfl, ?_⟩
   replace GG := rb' GG hb
   replace GH := rb' GH hb
   replace b := kb' b hb
   replace d := kb' d hb
   replace m := kb' m hb
   replace q := kb' q hb
   replace HB := bs_ hb
   (try clear hb)
   (try clear bU)
   (try clear hk)
   (try clear hi)
   refine hK.out _ _ ⟨(blk_cell b.out 0).trans rfl, (blk_cell b.out 1).trans rfl, (blk_cell b.out 2).trans rfl, (blk_cell b.out 3).trans rfl, (blk_cell b.out 4).trans rfl, (blk_cell b.out 5).trans rfl, iK⟩ (fun hHeld => ?_)
   clear hK K
   refine nA_ (some 139) ?_
   refine done_ (by kernel_rfl) ?_
   try go_wp2
   replace GG := Z (Kd.R_drew GG.out)
   replace GH := Z (Kd.R_drew GH.out)
   replace b := Z (blk_drew b.out)
   replace d := Z (blk_drew d.out)
   replace m := Z (blk_drew m.out)
   replace q := Z (blk_drew q.out)
   replace HB := Z (below_drew1 HB.out)
   have mG : 0 ≤ (s : Int) := od_
   have mL : s < (x.length : Int) := od_
   obtain ⟨pb, GB, h3⟩ := Kd.at_int (Kd.R_reads' GG.out).2.2 s mG mL
   obtain rfl : cv = pb := (by injection GB)
   replace mG := eq_true mG
   replace mL := eq_true mL
   have mD : 0 ≤ ((rd x s) : Int) := od_
   have mI : ((rd x s) : Int) < ((r.length : Int) : Int) := od_
   obtain ⟨bb, m2, m4, m7, pm, wE, mT⟩ := Kd.R_form GH.out (by omega)
   (first | cases m4 | (injection m4 with ea_ en_ ec_; (first | subst ea_ | (injection ea_ with ea_; subst ea_)); subst ec_; clear en_))
   have o4 := Z m7
   have mR := Z mT
   clear m7 pm mT
   obtain ⟨wB, oM, na, bN, bP⟩ := Kd.R_elem GH.out z47 ((rd x s) : Int) mD mI
   obtain rfl := k47_openM na
   have oj : World.cell? _ ⟨bb, ((rd x s) : Int).toNat * 6, none⟩ = some (.bool ((rd_T47 r (rd x s)).f0)) := bN 0 _ rfl
   have ok : World.cell? _ ⟨bb, ((rd x s) : Int).toNat * 6 + 1, none⟩ = some (.bool ((rd_T47 r (rd x s)).f1.f0)) := bN 1 _ rfl
   have ol : World.cell? _ ⟨bb, ((rd x s) : Int).toNat * 6 + 2, none⟩ = some (.bool ((rd_T47 r (rd x s)).f1.f1)) := bN 2 _ rfl
   have om : World.cell? _ ⟨bb, ((rd x s) : Int).toNat * 6 + 3, none⟩ = some (.int .i64 ((rd_T47 r (rd x s)).f1.f2)) := bN 3 _ rfl
   have on : World.cell? _ ⟨bb, ((rd x s) : Int).toNat * 6 + 4, none⟩ = some (.bool ((rd_T47 r (rd x s)).f1.f3)) := bN 4 _ rfl
   have oo : World.cell? _ ⟨bb, ((rd x s) : Int).toNat * 6 + 5, none⟩ = some (.int .u8 ((rd_T47 r (rd x s)).f2)) := bN 5 _ rfl
   have nN : World.frozen? _ ⟨bb, ((rd x s) : Int).toNat * 6, none⟩ = false := bP 0
   have nO : World.frozen? _ ⟨bb, ((rd x s) : Int).toNat * 6 + 1, none⟩ = false := bP 1
   have nP : World.frozen? _ ⟨bb, ((rd x s) : Int).toNat * 6 + 2, none⟩ = false := bP 2
   have nQ : World.frozen? _ ⟨bb, ((rd x s) : Int).toNat * 6 + 3, none⟩ = false := bP 3
   have nR : World.frozen? _ ⟨bb, ((rd x s) : Int).toNat * 6 + 4, none⟩ = false := bP 4
   have nS : World.frozen? _ ⟨bb, ((rd x s) : Int).toNat * 6 + 5, none⟩ = false := bP 5
   clear oM bN bP na
   replace mD := eq_true mD
   replace mI := eq_true mI
   obtain ⟨wC, iz, nb, ix, o0⟩ := Kd.R_elem GH.out z47 ((rd x s) : Int) (od_) (by have h_ : ((rd x s) : Int) < ((r.length : Int) : Int) := od_; first | exact h_ | (have e_ := (Kd.R_reads' GH.out).1; omega) | simpa using h_)
   obtain rfl := k47_openM nb
   have h9 := (Kd.R_seg GH.out ((rd x s) : Int) (od_) (by have h_ : ((rd x s) : Int) < ((r.length : Int) : Int) := od_; first | exact h_ | (have e_ := (Kd.R_reads' GH.out).1; omega) | simpa using h_) (seg := [.int .u8 0]) (j := 5) iz ix (show 6 ≤ 6 from by decide) (x' := (⟨(rd_T47 r (rd x s)).f0, (⟨(rd_T47 r (rd x s)).f1.f0, (rd_T47 r (rd x s)).f1.f1, (rd_T47 r (rd x s)).f1.f2, (rd_T47 r (rd x s)).f1.f3⟩ : S45), 0⟩ : S47)) (k47_mkM _ _ _ (⟨(rd_T47 r (rd x s)).f0, (⟨(rd_T47 r (rd x s)).f1.f0, (rd_T47 r (rd x s)).f1.f1, (rd_T47 r (rd x s)).f1.f2, (rd_T47 r (rd x s)).f1.f3⟩ : S45), 0⟩ : S47) ) (fun _ hk => hk)).1
   rw [← pa.out] at h9
   have mV := Z h9
   clear iz ix o0 nb h9
   refine start_ (n := 9) (S := fun w' => w'.cell? ⟨D, 0, none⟩ = some (.int .i64 I) ∧ w'.cell? ⟨D, 1, none⟩ = some (.int .i64 J) ∧ w'.cell? ⟨D, 2, none⟩ = some (.slice (some ⟨bb, 0, none⟩) r.length m2) ∧ w'.cell? ⟨D, 3, none⟩ = some (.int .i64 O) ∧ w'.cell? ⟨D, 4, none⟩ = some (.bool L) ∧ w'.cell? ⟨D, 5, none⟩ = some (.bool M) ∧ w'.cell? (cv.add (s).toNat) = some (.int .i64 (rd x s))) (ds := [8]) (bv 9 0) (by kernel_rfl) rfl rfl ⟨(blk_cell q.out 0).trans rfl, (blk_cell q.out 1).trans rfl, (blk_cell q.out 2).trans rfl, (blk_cell q.out 3).trans rfl, (blk_cell q.out 4).trans rfl, (blk_cell q.out 5).trans rfl, h3⟩ (fun hHeld => ?_); refine with_tabW shutterref12_One.tab32 shutterref12_One.bits32 (fun HT_ HW_ => ?_)
   generalize sn.drew = y8 at GG GH b d m q HB mR mV nN nO nP nQ nR nS oj ok ol om on oo h3 hHeld ⊢
   refine pT_ HT_ 0 9 1 (some 140) ?_
   refine pT_ HT_ 2 9 5 (some 142) ?_
   refine pT_ HT_ 3 9 13 (some 143) ?_
   refine pT_ HT_ 4 9 29 (some 144) ?_
   refine tT_ HT_ HW_ hHeld 1 9 31 (some 141) ?_
   refine tT_ HT_ HW_ hHeld 5 9 63 (some 145) ?_
   refine pT_ HT_ 6 9 127 (some 146) ?_
   refine pT_ HT_ 7 9 255 (some 147) ?_
   refine last_ (i := 8) (N := none) (bv 9 511) rfl rfl (one_of HT_.out (by kernel_rfl)) (by decide) (fun K hK => ?_)
   refine skip_ (w1 := ?_) (by rfl) rfl ?_ ?_
   rotate_left
   ·go_simp
    rfl
   refine hK.out _ _ ?_
   clear hK K
   refine done_ (done_of HT_.out (by kernel_rfl)) ?_
   try go_wp2
   go_roundg k1
   case measure => have := bJ.out; omega
   case rel => exact ⟨(wrap64 (s + 1)), (o2), (.slice (some ⟨bb, 0, none⟩) r.length m2), (dn_), H', ⟨by have := bJ.out; omega⟩, ⟨by (with_reducible repeat apply pR); exact Kd.R_mono (Kd.R_far (p := ⟨bb, ((rd x s) : Int).toNat * 6 + 5, none⟩) (Kd.R_types GG.out mR.out (by decide)) im_ (.int .u8 0)) im_⟩, ⟨by (with_reducible repeat apply pR); exact mV.out⟩, ⟨by (with_reducible repeat apply pK); refine blk_far ?_ (by have h_ := Kd.R_ne GH.out b.out (by decide); intro e_; exact h_ (by rw [e_]; rfl)) _; (with_reducible repeat apply pK); exact b.out⟩, ⟨by (with_reducible repeat apply pK); refine blk_far ?_ (by have h_ := Kd.R_ne GH.out d.out (by decide); intro e_; exact h_ (by rw [e_]; rfl)) _; (with_reducible repeat apply pK); exact d.out⟩, ⟨by (with_reducible repeat apply pK); refine blk_far ?_ (by have h_ := Kd.R_ne GH.out m.out (by decide); intro e_; exact h_ (by rw [e_]; rfl)) _; (with_reducible repeat apply pK); exact m.out⟩, ⟨by (with_reducible repeat apply pK); refine blk_far ?_ (by have h_ := Kd.R_ne GH.out q.out (by decide); intro e_; exact h_ (by rw [e_]; rfl)) _; (with_reducible repeat apply pK); exact q.out⟩, ⟨by repeat (first | (with_reducible first | exact HB.out | apply below_alloc | apply pw_below_drewN | apply below_drew1 | refine below_set ?_ o4.out | refine below_set ?_ cp.out | refine below_set ?_ cq.out | refine below_set ?_ cr.out | refine below_set ?_ ct.out) | exact HB.out)⟩⟩

end Go.Proofs.YtphboakgkmjpbaaGreatDoor.P
