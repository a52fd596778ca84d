/- pp.py and press2.py (wip/tools) wrote this text. -/
import Derived.Test.YtjpedimndkibnaaGreatDoorPx0
import Derived.Test.YtjpedimndkibnaaGreatDoorPxS
import Derived.Test.YtjpedimndkibnaaGreatDoorPxT
import Derived.Test.YtjpedimndkibnaaGreatDoorPx0L
import Derived.Test.YtjpedimndkibnaaGreatDoorPx17
import Derived.Test.YtjpedimndkibnaaGreatDoorPx18
import Derived.Test.YtjpedimndkibnaaGreatDoorPx19
import Derived.Test.YtjpedimndkibnaaGreatDoorPx26
namespace Go.Proofs.YtjpedimndkibnaaGreatDoor.P
open Go.RowKit Go.Proofs.YtjpedimndkibnaaGreatDoorW.PrintWords Go.Proofs.YtjpedimndkibnaaGreatDoorW.PrintLast Go.Proofs.YtjpedimndkibnaaGreatDoorW.PrintMore
attribute [local go_sem] max2_int min2_int max_two min_two max_three min_three max_four min_four
attribute [local go_sem] Instr.field asAgg
set_option linter.unusedVariables false
set_option linter.unusedSimpArgs false
set_option maxHeartbeats 8000000
set_option maxRecDepth 100000

/-! ### shutterref16_Do: function 41 -/
mutual
def shutterref16_Do.j0 : Nat → Int → Bool → Int → Int → List (S55) → Int → Bool → Bool → Option (Int × Int × (List (S55)) × Int × Bool × Bool × Int × Int)
 | 0, _, _, _, _, _, _, _, _ => none
 | k + 1, o, x16, d, e, g, a, b, c => if x16 = true then (some (d, e, g, a, b, c, 1, (-1))) else (if b = true then (some (d, e, g, a, b, c, 7, (-1))) else (if o = 14 then ((shutterref13_Do.f k d e g a b c 111 false false false ([] : List (S57))).bind fun l => (some (l.1, l.2.1, l.2.2.1, l.2.2.2.1, l.2.2.2.2.1, c, 0, (-1)))) else ((shutterref11_Open.f k d e g a b c a).bind fun m => (if m = true then ((shutterref14_Modify.f k d e g a b c a).bind fun i => ((shutterref10_Copy.f i.1 i.2.1 i.2.2.1 i.2.2.2.1 i.2.2.2.2.1 i.2.2.2.2.2).bind fun j => ((shutterref14_Line.f k d e g a b c a).bind fun n => (shutterref16_Do.l0 k o n 0 d e g a b c j.1 j.2.1 j.2.2.1 j.2.2.2.1 j.2.2.2.2.1 j.2.2.2.2.2)))) else ((shutterref14_Deny.f d e g a b c).bind fun h => (some (h.1, h.2.1, h.2.2.1, h.2.2.2.1, h.2.2.2.2.1, h.2.2.2.2.2, 8, a)))))))
def shutterref16_Do.l0 : Nat → Int → List Int → Int → Int → Int → List (S55) → Int → Bool → Bool → Int → Int → List (S55) → Int → Bool → Bool → Option (Int × Int × (List (S55)) × Int × Bool × Bool × Int × Int)
 | 0, _, _, _, _, _, _, _, _, _, _, _, _, _, _, _ => none
 | k + 1, o, b, x10, i, j, c, l, m, n, d, e, a, f, g, h => if x10 < (b.length : Int) then (if o = 12 then (if (wrap64 (x10 + 1)) < (b.length : Int) then (if 0 ≤ x10 then (if 0 ≤ (wrap64 (x10 + 1)) then (if 0 ≤ (rd b (wrap64 (x10 + 1))) then (if (rd b (wrap64 (x10 + 1))) < (c.length : Int) then (if 0 ≤ (rd b x10) then (if (rd b x10) < (a.length : Int) then (shutterref16_Do.l0 k o b (wrap64 (x10 + 1)) i j c l m n d e (a.set ((rd b x10) : Int).toNat (⟨(rd_T55 a (rd b x10)).f0, (⟨(rd_T55 a (rd b x10)).f1.f0, (rd_T55 a (rd b x10)).f1.f1, (rd_T55 a (rd b x10)).f1.f2, (rd_T55 a (rd b x10)).f1.f3⟩ : S53), (rd_T55 c (rd b (wrap64 (x10 + 1)))).f2⟩ : S55)) f g h) else (none)) else (none)) else (none)) else (none)) else (none)) else (none)) else (if 0 ≤ x10 then (if 0 ≤ (rd b x10) then (if (rd b x10) < (a.length : Int) then (shutterref16_Do.l0 k o b (wrap64 (x10 + 1)) i j c l m n d e (a.set ((rd b x10) : Int).toNat (⟨(rd_T55 a (rd b x10)).f0, (⟨(rd_T55 a (rd b x10)).f1.f0, (rd_T55 a (rd b x10)).f1.f1, (rd_T55 a (rd b x10)).f1.f2, (rd_T55 a (rd b x10)).f1.f3⟩ : S53), 0⟩ : S55)) f g h) else (none)) else (none)) else (none))) else (if 0 ≤ x10 then (if 0 ≤ (rd b x10) then (if (rd b x10) < (a.length : Int) then (shutterref16_Do.l0 k o b (wrap64 (x10 + 1)) i j c l m n d e (a.set ((rd b x10) : Int).toNat (⟨(rd_T55 a (rd b x10)).f0, (⟨(rd_T55 a (rd b x10)).f1.f0, (rd_T55 a (rd b x10)).f1.f1, (rd_T55 a (rd b x10)).f1.f2, (rd_T55 a (rd b x10)).f1.f3⟩ : S53), 0⟩ : S55)) f g h) else (none)) else (none)) else (none))) else (some (d, e, a, f, g, h, 0, (-1)))
end
def shutterref16_Do.f (k : Nat) (a b : Int) (g : List (S55)) (c : Int) (d e : Bool) (a1 : Int) : Option (Int × Int × (List (S55)) × Int × Bool × Bool × Int × Int) := if a1 < 12 then (shutterref16_Do.j0 k a1 true a b g c d e) else (shutterref16_Do.j0 k a1 (decide (a1 > 14)) a b g c d e)
theorem shutterref16_Do.mono_l : ∀ k, (∀ a b c d e f g i, LeO (shutterref16_Do.j0 k a b c d e f g i) (shutterref16_Do.j0 (k + 1) a b c d e f g i)) ∧ (∀ a b c d e f g i s t m n o p q, LeO (shutterref16_Do.l0 k a b c d e f g i s t m n o p q) (shutterref16_Do.l0 (k + 1) a b c d e f g i s t m n o p q))
 | 0 => ⟨fun _ _ _ _ _ _ _ _ r h => by simp [shutterref16_Do.j0] at h, fun _ _ _ _ _ _ _ _ _ _ _ _ _ _ _ r h => by simp [shutterref16_Do.l0] at h⟩
 | k + 1 => by
  obtain ⟨j, l⟩ := shutterref16_Do.mono_l k
  refine ⟨?_, ?_⟩
  ·intro a b c d e f g i
   unfold shutterref16_Do.j0
   repeat' first
   | (with_reducible exact j _ _ _ _ _ _ _ _)
   | (with_reducible exact l _ _ _ _ _ _ _ _ _ _ _ _ _ _ _)
   | (with_reducible exact shutterref11_Open.mono _ _ _ _ _ _ _ _)
   | (with_reducible exact shutterref13_Do.mono _ _ _ _ _ _ _ _ _ _ _ _)
   | (with_reducible exact shutterref14_Line.mono _ _ _ _ _ _ _ _)
   | (with_reducible exact shutterref14_Modify.mono _ _ _ _ _ _ _ _)
   | (with_reducible exact LeO.refl _)
   | (with_reducible exact LeO.none _)
   | (with_reducible refine LeO.ite ?_ ?_)
   | (with_reducible refine LeO.bind ?_ (fun _ => ?_))
   | exact j _ _ _ _ _ _ _ _
   | exact l _ _ _ _ _ _ _ _ _ _ _ _ _ _ _
   | exact shutterref11_Open.mono _ _ _ _ _ _ _ _
   | exact shutterref13_Do.mono _ _ _ _ _ _ _ _ _ _ _ _
   | exact shutterref14_Line.mono _ _ _ _ _ _ _ _
   | exact shutterref14_Modify.mono _ _ _ _ _ _ _ _
   | exact LeO.none _
   | refine LeO.ite ?_ ?_
   | refine LeO.bind ?_ (fun _ => ?_)
  ·intro a b c d e f g i s t m n o p q
   unfold shutterref16_Do.l0
   repeat' first
   | (with_reducible exact j _ _ _ _ _ _ _ _)
   | (with_reducible exact l _ _ _ _ _ _ _ _ _ _ _ _ _ _ _)
   | (with_reducible exact shutterref11_Open.mono _ _ _ _ _ _ _ _)
   | (with_reducible exact shutterref13_Do.mono _ _ _ _ _ _ _ _ _ _ _ _)
   | (with_reducible exact shutterref14_Line.mono _ _ _ _ _ _ _ _)
   | (with_reducible exact shutterref14_Modify.mono _ _ _ _ _ _ _ _)
   | (with_reducible exact LeO.refl _)
   | (with_reducible exact LeO.none _)
   | (with_reducible refine LeO.ite ?_ ?_)
   | (with_reducible refine LeO.bind ?_ (fun _ => ?_))
   | exact j _ _ _ _ _ _ _ _
   | exact l _ _ _ _ _ _ _ _ _ _ _ _ _ _ _
   | exact shutterref11_Open.mono _ _ _ _ _ _ _ _
   | exact shutterref13_Do.mono _ _ _ _ _ _ _ _ _ _ _ _
   | exact shutterref14_Line.mono _ _ _ _ _ _ _ _
   | exact shutterref14_Modify.mono _ _ _ _ _ _ _ _
   | exact LeO.none _
   | refine LeO.ite ?_ ?_
   | refine LeO.bind ?_ (fun _ => ?_)
theorem shutterref16_Do.mono : ∀ a0 a1 c d a4 e g k, LeO (shutterref16_Do.f k a0 a1 c d a4 e g) (shutterref16_Do.f (k + 1) a0 a1 c d a4 e g) := by
 intro a0 a1 c d a4 e g k
 obtain ⟨a, b⟩ := shutterref16_Do.mono_l k
 unfold shutterref16_Do.f
 repeat' first
   | (with_reducible exact a _ _ _ _ _ _ _ _)
   | (with_reducible exact b _ _ _ _ _ _ _ _ _ _ _ _ _ _ _)
   | (with_reducible exact shutterref11_Open.mono _ _ _ _ _ _ _ _)
   | (with_reducible exact shutterref13_Do.mono _ _ _ _ _ _ _ _ _ _ _ _)
   | (with_reducible exact shutterref14_Line.mono _ _ _ _ _ _ _ _)
   | (with_reducible exact shutterref14_Modify.mono _ _ _ _ _ _ _ _)
   | (with_reducible exact LeO.refl _)
   | (with_reducible exact LeO.none _)
   | (with_reducible refine LeO.ite ?_ ?_)
   | (with_reducible refine LeO.bind ?_ (fun _ => ?_))
   | exact a _ _ _ _ _ _ _ _
   | exact b _ _ _ _ _ _ _ _ _ _ _ _ _ _ _
   | exact shutterref11_Open.mono _ _ _ _ _ _ _ _
   | exact shutterref13_Do.mono _ _ _ _ _ _ _ _ _ _ _ _
   | exact shutterref14_Line.mono _ _ _ _ _ _ _ _
   | exact shutterref14_Modify.mono _ _ _ _ _ _ _ _
   | exact LeO.none _
   | refine LeO.ite ?_ ?_
   | refine LeO.bind ?_ (fun _ => ?_)
def shutterref16_Do.T17 : Bool × List (List Nat × List Nat) := (true, [([], []), ([0], [0]), ([], []), ([], []), ([2, 3], [2, 3]), ([4], [4]), ([], []), ([6], [6]), ([], []), ([], []), ([9], [9]), ([8, 10], [8, 10]), ([11], [11]), ([7, 12], [7, 12]), ([13], [13]), ([14], [14]), ([1, 5, 0, 1, 2, 3, 4, 5, 6, 7, 8, 9, 10, 11, 12, 13, 14, 15], [1, 5]), ([16, 0, 1, 2, 3, 4, 5, 6, 7, 8, 9, 10, 11, 12, 13, 14, 15], [16]), ([17, 15, 0, 1, 2, 3, 4, 5, 6, 7, 8, 9, 10, 11, 12, 13, 14, 15], [15, 17])])
def shutterref16_Do.B17 : List Nat := [0, 1, 0, 0, 12, 28, 0, 64, 0, 0, 512, 1792, 3840, 8128, 16320, 32704, 65535, 131071, 262143]
theorem shutterref16_Do.tab17 : rtab .any (opsOf Tryz.f41 17) = shutterref16_Do.T17 := by kernel_rfl
theorem shutterref16_Do.bits17 : waitsOk shutterref16_Do.T17.2 shutterref16_Do.B17 = true := by kernel_rfl
def shutterref16_Do.T18 : Bool × List (List Nat × List Nat) := (true, [([], []), ([0], [0]), ([], []), ([], []), ([2, 3], [2, 3]), ([4], [4]), ([1, 5, 0, 1, 2, 3, 4, 5], [1, 5]), ([6, 0, 1, 2, 3, 4, 5], [6]), ([7, 0, 1, 2, 3, 4, 5], [7])])
def shutterref16_Do.B18 : List Nat := [0, 1, 0, 0, 12, 28, 63, 127, 255]
theorem shutterref16_Do.tab18 : rtab .any (opsOf Tryz.f41 18) = shutterref16_Do.T18 := by kernel_rfl
theorem shutterref16_Do.bits18 : waitsOk shutterref16_Do.T18.2 shutterref16_Do.B18 = true := by kernel_rfl
theorem shutterref16_Do.calls (k : Nat) (x y : Int) (ay : Nat → Prop) (P : Option Addr) (Q : Nat) (r : List (S55)) (o : Int) (ad q : Bool) (a1 r1 r2 : Int) (r3 : List (S55)) (r4 : Int) (r5 r6 : Bool) (r7 r8 : Int) (w : World) (hA : Kd.V k55 55 w w.heap.size (fun k_ => ay k_) (.slice P r.length Q) r) (h : shutterref16_Do.f k x y r o ad q a1 = some (r1, r2, r3, r4, r5, r6, r7, r8)) :
  Calls Tryz.prog 41 #[.agg #[.int .i64 x, .int .i64 y, .slice P r.length Q, .int .i64 o, .bool ad, .bool q], .int .i64 a1] w fun e w' => ∃ hF : Value, e = .returned (.tuple #[.agg #[.int .i64 r1, .int .i64 r2, hF, .int .i64 r4, .bool r5, .bool r6], .int .i64 r7, .int .i64 r8]) ∧ Kd.V k55 55 w' w.heap.size (fun k_ => (ay k_ ∨ w.heap.size ≤ k_)) hF r3 ∧ Below w.heap.size w w' := by
 have ki := Tryz.underlying24
 have kj := Tryz.underlying29
 have aJ := Z (show Kd.V k55 55 w w.heap.size (fun k_ => (ay k_ ∨ w.heap.size ≤ k_)) (.slice P r.length Q) r from Kd.V_mono hA (fun k_ hk => .inl hk))
 have HB := Z (Below.refl w.heap.size w)
 unfold shutterref16_Do.f at h
 have H := h
 clear h
 have fB := Z H
 clear H
 go_enter Tryz.func41, Tryz.ntmps41
 go_upto_region 1 with (first | ((with_reducible refine gD_ 2 rfl ?_); (try (refine gate_guard (by rfl) ?_; dsimp only)); refine bx_ 2 24 #[.int .i64 x, .int .i64 y, .slice P r.length Q, .int .i64 o, .bool ad, .bool q] ?_; intro J hg w4 hbox hb; replace aJ := ve' aJ hg hb; have g := Z hbox; have ja := ln' w hg; replace HB := bs_ hb; clear hb hbox hg) | ((with_reducible refine gD_ 4 rfl ?_); (try (refine gate_guard (by rfl) ?_; dsimp only)); refine bx_ 4 24 zS_ ?_; intro d hg w5 hbox hb; replace aJ := ve' aJ hg hb; have m := Z hbox; have jb := ln' w hg; replace HB := bs_ hb; have l := nl' g hg; replace g := kb' g hb; clear hb hbox hg))
 (try simp only [Act.put, sA, sB, sC])
 go_cut [16] (fun iW wc => ∃ (kq : Nat) (bq : Bool), iW = .bool bq ∧ Aside0 (shutterref16_Do.j0 kq a1 bq x y r o ad q = some (r1, r2, r3, r4, r5, r6, r7, r8)) ∧ Aside0 (kq ≤ k) ∧ Aside0 (Kd.V k55 55 wc w.heap.size (fun k_ => (ay k_ ∨ w.heap.size ≤ k_) ∧ k_ ≠ J ∧ k_ ≠ d) (.slice P r.length Q) r) ∧ Aside0 (wc.heap[J]? = some (.cells #[.int .i64 x, .int .i64 y, (.slice P r.length Q), .int .i64 o, .bool ad, .bool q] 24 (0, 0))) ∧ Aside0 (wc.heap[d]? = some (.cells zS_ 24 (0, 0))) ∧ Aside0 (Below w.heap.size w wc))
 case first =>
  have H := fB.out
  clear fB
  by_cases c6 : a1 < 12
  ·rw [if_pos c6] at H
   have bd := decide_eq_true c6
   clear c6
   (first | rw [bd] | (simp only [i64_w, i32_w]; rw [bd]) | skip)
   have H' := Z H
   clear H
   go_wp2
   go_meet
   case rel => exact ⟨_, (true), (dn_), H', ⟨by first | omega | exact Nat.le_refl _⟩, ⟨by (with_reducible repeat apply pV); exact Kd.V_mono aJ.out im_⟩, ⟨vK g.out⟩, ⟨vK m.out⟩, ⟨bl_⟩⟩
  rw [if_neg c6] at H
  have bd := decide_eq_false c6
  clear c6
  (first | rw [bd] | (simp only [i64_w, i32_w]; rw [bd]) | skip)
  have H' := Z H
  clear H
  go_wp2
  go_meet
  case rel => exact ⟨_, (decide (a1 > 14)), (dn_), H', ⟨by first | omega | exact Nat.le_refl _⟩, ⟨by (with_reducible repeat apply pV); exact Kd.V_mono aJ.out im_⟩, ⟨vK g.out⟩, ⟨vK m.out⟩, ⟨bl_⟩⟩
 clear fB
 obtain ⟨kq, bq, rfl, HA, bR, GC, g, m, HB⟩ := hcut
 cases kq with
 | zero => exact absurd HA.out (by simp [shutterref16_Do.j0])
 | succ af =>
  have H := HA.out
  clear HA
  simp only [shutterref16_Do.j0] at H
  by_cases c7 : bq = true
  ·subst c7
   rw [if_pos rfl] at H
   obtain ⟨rfl, rfl, rfl, rfl, rfl, rfl, rfl, rfl⟩ := ij8_ H
   have kc := ns_ l
   have gm := cells6 g.out
   have cY := cells6 m.out
   go_wp2_with (first | ((with_reducible refine gate_store (t := 24) (p := 4) rfl ?_); refine sx_ 24 4 ((((((wc.setCell ⟨d, 0, none⟩ (.int .i64 x)).setCell ⟨d, 1, none⟩ (.int .i64 y)).setCell ⟨d, 2, none⟩ (.slice P r.length Q)).setCell ⟨d, 3, none⟩ (.int .i64 o)).setCell ⟨d, 4, none⟩ (.bool ad)).setCell ⟨d, 5, none⟩ (.bool q)) ?_; intro cT hw; replace GC : Aside0 (Kd.V k55 55 cT w.heap.size (fun k_ => (ay k_ ∨ w.heap.size ≤ k_) ∧ k_ ≠ J ∧ k_ ≠ d) (.slice P r.length Q) r) := ⟨(by rw [hw]; exact (by (with_reducible repeat apply pV); exact V_off GC.out (fun k_ hk => hk.2.2) off2_ (fun _ hk => ⟨hk.1, ⟨hk.2.1, hk.2.2⟩⟩)))⟩; replace g := Z (sM hw (blk_off g.out l.out off2_)); replace m : Aside0 (cT.heap[d]? = some (.cells #[.int .i64 x, .int .i64 y, .slice P r.length Q, .int .i64 o, .bool ad, .bool q] 24 (0, 0))) := ⟨by rw [hw]; exact (put6 m.out)⟩; replace HB : Aside0 (Below w.heap.size w cT) := ⟨by rw [hw]; exact bl_⟩; clear hw))
   refine rc3_ (vK m.out) Tryz.underlying24 ?_
   exact ⟨_, er_, by (with_reducible repeat apply pV); exact Kd.V_mono GC.out im_, bl_⟩
  replace c7 := Bool.eq_false_iff.mpr c7
  subst c7
  rw [iF_] at H
  by_cases cc : ad = true
  ·subst cc
   rw [if_pos rfl] at H
   obtain ⟨rfl, rfl, rfl, rfl, rfl, rfl, rfl, rfl⟩ := ij8_ H
   have js := ns_ l
   have db := cells6 g.out
   have dh := cells6 m.out
   go_wp2_with (first | ((with_reducible refine gate_store (t := 24) (p := 4) rfl ?_); refine sx_ 24 4 ((((((wc.setCell ⟨d, 0, none⟩ (.int .i64 x)).setCell ⟨d, 1, none⟩ (.int .i64 y)).setCell ⟨d, 2, none⟩ (.slice P r.length Q)).setCell ⟨d, 3, none⟩ (.int .i64 o)).setCell ⟨d, 4, none⟩ (.bool true)).setCell ⟨d, 5, none⟩ (.bool q)) ?_; intro cU hw; replace GC : Aside0 (Kd.V k55 55 cU w.heap.size (fun k_ => (ay k_ ∨ w.heap.size ≤ k_) ∧ k_ ≠ J ∧ k_ ≠ d) (.slice P r.length Q) r) := ⟨(by rw [hw]; exact (by (with_reducible repeat apply pV); exact V_off GC.out (fun k_ hk => hk.2.2) off2_ (fun _ hk => ⟨hk.1, ⟨hk.2.1, hk.2.2⟩⟩)))⟩; replace g := Z (sM hw (blk_off g.out l.out off2_)); replace m : Aside0 (cU.heap[d]? = some (.cells #[.int .i64 x, .int .i64 y, .slice P r.length Q, .int .i64 o, .bool true, .bool q] 24 (0, 0))) := ⟨by rw [hw]; exact (put6 m.out)⟩; replace HB : Aside0 (Below w.heap.size w cU) := ⟨by rw [hw]; exact bl_⟩; clear hw))
   refine rc3_ (vK m.out) Tryz.underlying24 ?_
   exact ⟨_, er_, by (with_reducible repeat apply pV); exact Kd.V_mono GC.out im_, bl_⟩
  replace cc := Bool.eq_false_iff.mpr cc
  subst cc
  rw [iF_] at H
  by_cases bk : a1 = 14
  ·rw [if_pos bk] at H
   obtain ⟨cm, cn⟩ := eT_ bk
   clear bk
   replace H := bn_ H
   obtain ⟨⟨au, aw, ae, ak, av, bf⟩, iK, H⟩ := H
   try dsimp only at H
   obtain ⟨rfl, rfl, rfl, rfl, rfl, rfl, rfl, rfl⟩ := ij8_ H
   have jt := ns_ l
   have dn := cells6 g.out
   go_wp2_with (first | ((with_reducible refine gate_callee (f := 13) rfl ?_); refine goesL_ (some 25) rfl rfl Tryz.func13 (by kernel_rfl) rfl #[.agg #[.int .i64 x, .int .i64 y, .slice P r.length Q, .int .i64 o, .bool false, .bool q], .agg #[.int .i64 111, .bool false, .bool false, .bool false, .slice none 0 0]] rfl ag_ ?_; (refine (shutterref13_Do.calls af x y _ _ r o false q 111 false false false _ _ ([] : List (S57)) au aw ae ak av bf _ ?side1 ?side2 ?side3 ?side4 iK.out).mono ?_); (case side1 => repeat (first | exact (Kd.V_reads' GC.out).2.2 | (with_reducible apply pC))); (case side2 => exact (Kd.V_reads' GC.out).2.1); (case side3 => exact Kd.C_nil _ _); (case side4 => exact Nat.le_refl _); rintro e kv ⟨jQ, rfl, aE, hb⟩; refine ⟨_, rfl, ?_⟩; replace GC := Z (Kd.V_elder' (vV GC.out) (Kd.R_base aE) hb); have am := Z (Kd.R_lower (Kd.R_newM (M := fun k_ => (w.heap.size ≤ k_)) aE (below_size bl_) (fun k_ h_ => h_)) (below_size bl_)); replace g := kb' g hb; replace m := kb' m hb; replace HB := bs_ hb; (try clear hb); (try clear hk); (try clear aE)) | ((with_reducible refine gD_ 7 rfl ?_); (try (refine gate_guard (by rfl) ?_; dsimp only)); refine bx_ 7 24 zS_ ?_; intro O hg iX hbox hb; replace GC := ve' GC hg hb; replace am := rb' am hb; have ax := Z hbox; have iQ := ln' w hg; replace HB := bs_ hb; have aT := nl' g hg; replace g := kb' g hb; have aV := nl' m hg; replace m := kb' m hb; clear hb hbox hg; have ju := ns_ aT; have jv := ns_ aV; have dv := cells6 ax.out; obtain ⟨al, ao, hJ⟩ := Kd.R_slice am.out; subst hJ) | ((with_reducible refine gate_store (t := 24) (p := 7) rfl ?_); refine sx_ 24 7 ((((((iX.setCell ⟨O, 0, none⟩ (.int .i64 au)).setCell ⟨O, 1, none⟩ (.int .i64 aw)).setCell ⟨O, 2, none⟩ (.slice al ae.length ao)).setCell ⟨O, 3, none⟩ (.int .i64 ak)).setCell ⟨O, 4, none⟩ (.bool av)).setCell ⟨O, 5, none⟩ (.bool bf)) ?_; intro bI hw; have A : Aside0 (Kd.V k55 55 bI w.heap.size (fun k_ => (ay k_ ∨ w.heap.size ≤ k_) ∧ some k_ ≠ (.slice al ae.length ao : Value).ownBlock ∧ k_ ≠ J ∧ k_ ≠ d ∧ k_ ≠ O) (.slice P r.length Q) r) := ⟨(by rw [hw]; exact (by (with_reducible repeat apply pV); exact V_off GC.out (fun k_ hk => hk.2) off2_ (fun _ hk => ⟨hk.1.1.1, ⟨hk.1.2, ⟨hk.1.1.2.1, ⟨hk.1.1.2.2, hk.2⟩⟩⟩⟩)))⟩; have B : Aside0 (Kd.R k55 55 bI w.heap.size (fun k_ => (w.heap.size ≤ k_)) (.slice al ae.length ao) ae) := ⟨(by rw [hw]; exact (by (with_reducible repeat apply pR); exact Kd.R_mono (f6R O (Kd.R_types am.out ax.out (by decide)) (fun _ hk => hk.2)) (fun _ hk => hk.1.1)))⟩; have C : Aside0 (bI.heap[J]? = some (.cells #[.int .i64 x, .int .i64 y, .slice P r.length Q, .int .i64 o, .bool false, .bool q] 24 (0, 0))) := ⟨by rw [hw]; exact (blk_off g.out aT.out off2_)⟩; have D : Aside0 (bI.heap[d]? = some (.cells zS_ 24 (0, 0))) := ⟨by rw [hw]; exact (blk_off m.out aV.out off2_)⟩; have L : Aside0 (bI.heap[O]? = some (.cells #[.int .i64 au, .int .i64 aw, .slice al ae.length ao, .int .i64 ak, .bool av, .bool bf] 24 (0, 0))) := ⟨by rw [hw]; exact (put6 ax.out)⟩; have U : Aside0 (Below w.heap.size w bI) := ⟨by rw [hw]; exact bl_⟩; clear hw GC am g m ax HB; have GC := A; have am := B; have g := C; have m := D; have ax := L; have HB := U; clear A B C D L U; have dB := cells6 g.out; have dH := cells6 ax.out; have dN := cells6 m.out) | ((with_reducible refine gate_store (t := 24) (p := 4) rfl ?_); refine sx_ 24 4 (((((((bI.setCell ⟨O, 5, none⟩ (.bool q)).setCell ⟨d, 0, none⟩ (.int .i64 au)).setCell ⟨d, 1, none⟩ (.int .i64 aw)).setCell ⟨d, 2, none⟩ (.slice al ae.length ao)).setCell ⟨d, 3, none⟩ (.int .i64 ak)).setCell ⟨d, 4, none⟩ (.bool av)).setCell ⟨d, 5, none⟩ (.bool q)) ?_; intro bW hw; have A : Aside0 (Kd.V k55 55 bW w.heap.size (fun k_ => (ay k_ ∨ w.heap.size ≤ k_) ∧ some k_ ≠ (.slice al ae.length ao : Value).ownBlock ∧ k_ ≠ J ∧ k_ ≠ d ∧ k_ ≠ O) (.slice P r.length Q) r) := ⟨(by rw [hw]; exact (by (with_reducible repeat apply pV); exact Kd.V_mono (f6V d (Kd.V_far (p := ⟨O, 5, none⟩) (Kd.V_mono (Kd.V_mono GC.out (fun k_ hk => (⟨hk, hk.2.2.2.2⟩ : _ ∧ k_ ≠ O))) (fun k_ hk => (⟨hk, hk.1.2.2.2.1⟩ : _ ∧ k_ ≠ d))) (fun _ hk => hk.1.2) (.bool q)) (fun _ hk => hk.2)) (fun _ hk => ⟨hk.1.1.1, ⟨hk.1.1.2.1, ⟨hk.1.1.2.2.1, ⟨hk.1.1.2.2.2.1, hk.1.1.2.2.2.2⟩⟩⟩⟩)))⟩; have B : Aside0 (Kd.R k55 55 bW w.heap.size (fun k_ => (w.heap.size ≤ k_)) (.slice al ae.length ao) ae) := ⟨(by rw [hw]; exact (by (with_reducible repeat apply pR); exact Kd.R_mono (f6R d (Kd.R_far (p := ⟨O, 5, none⟩) (Kd.R_types (Kd.R_types am.out ax.out (by decide)) m.out (by decide)) (fun _ hk => hk.1.2) (.bool q)) (fun _ hk => hk.2)) (fun _ hk => hk.1.1)))⟩; have C : Aside0 (bW.heap[J]? = some (.cells #[.int .i64 x, .int .i64 y, .slice P r.length Q, .int .i64 o, .bool false, .bool q] 24 (0, 0))) := ⟨(by rw [hw]; exact (by (with_reducible repeat apply pK); refine blk_far ?_ l.out _; (with_reducible repeat apply pK); refine blk_far ?_ l.out _; (with_reducible repeat apply pK); refine blk_far ?_ l.out _; (with_reducible repeat apply pK); refine blk_far ?_ l.out _; (with_reducible repeat apply pK); refine blk_far ?_ l.out _; (with_reducible repeat apply pK); refine blk_far ?_ l.out _; (with_reducible repeat apply pK); refine blk_far ?_ aT.out _; (with_reducible repeat apply pK); exact g.out))⟩; have D : Aside0 (bW.heap[d]? = some (.cells #[.int .i64 au, .int .i64 aw, .slice al ae.length ao, .int .i64 ak, .bool av, .bool q] 24 (0, 0))) := ⟨(by rw [hw]; exact (put6 (by (with_reducible repeat apply pK); refine blk_far ?_ aV.out _; (with_reducible repeat apply pK); exact m.out)))⟩; have L : Aside0 (bW.heap[O]? = some (.cells #[.int .i64 au, .int .i64 aw, .slice al ae.length ao, .int .i64 ak, .bool av, .bool q] 24 (0, 0))) := ⟨(by rw [hw]; exact (by (with_reducible repeat apply pK); refine blk_far ?_ aV.out.symm _; (with_reducible repeat apply pK); refine blk_far ?_ aV.out.symm _; (with_reducible repeat apply pK); refine blk_far ?_ aV.out.symm _; (with_reducible repeat apply pK); refine blk_far ?_ aV.out.symm _; (with_reducible repeat apply pK); refine blk_far ?_ aV.out.symm _; (with_reducible repeat apply pK); refine blk_far ?_ aV.out.symm _; (with_reducible repeat apply pK); refine blk_put (cs := #[.int .i64 au, .int .i64 aw, .slice al ae.length ao, .int .i64 ak, .bool av, .bool bf]) ?_ 5 _ rfl; (with_reducible repeat apply pK); exact ax.out))⟩; have U : Aside0 (Below w.heap.size w bW) := ⟨by rw [hw]; exact bl_⟩; clear hw GC am g m ax HB; have GC := A; have am := B; have g := C; have m := D; have ax := L; have HB := U; clear A B C D L U))
   refine rc3_ (vK m.out) Tryz.underlying24 ?_
   exact ⟨_, er_, Kd.V_mono (Kd.R_V (by (with_reducible repeat apply pR); exact am.out)) (fun k_ hk => by first | exact ⟨(.inr (hk.1)), hk.2⟩ | exact (.inr (hk))), bl_⟩
  rw [if_neg bk] at H
  obtain ⟨cm, cn⟩ := eF_ bk
  replace H := bn_ H
  obtain ⟨bc, hE, H⟩ := H
  cases bc
  ·rw [iF_] at H
   replace H := bn_ H
   obtain ⟨⟨az, aA, aj, aB, aC, aD⟩, iO, H⟩ := H
   try dsimp only at H
   obtain ⟨rfl, rfl, rfl, rfl, rfl, rfl, rfl, rfl⟩ := ij8_ H
   have jC := ns_ l
   have ib := cells6 g.out
   try go_wp2_with (first | ((with_reducible refine gF_ 34 rfl ?_); refine gd_ (some 33) Tryz.func34 (shutterref11_Open.calls af x y _ _ r o false q o false _ (vC_ GC) (vL_ GC) hE.out) ?_; rintro e iZ ⟨rfl, hb⟩; refine ⟨_, rfl, ?_⟩; replace GC := vb' GC hb; replace g := kb' g hb; replace m := kb' m hb; replace HB := bs_ hb; (try clear hb); (try clear hk)))
   replace GC := Z (Kd.V_drew GC.out)
   replace g := Z (blk_drew g.out)
   replace m := Z (blk_drew m.out)
   replace HB := Z (below_drew1 HB.out)
   refine start_ (n := 7) (S := fun w' => w'.cell? ⟨J, 0, none⟩ = some (.int .i64 x) ∧ w'.cell? ⟨J, 1, none⟩ = some (.int .i64 y) ∧ w'.cell? ⟨J, 2, none⟩ = some (.slice P r.length Q) ∧ w'.cell? ⟨J, 3, none⟩ = some (.int .i64 o) ∧ w'.cell? ⟨J, 4, none⟩ = some (.bool false) ∧ w'.cell? ⟨J, 5, none⟩ = some (.bool q)) (ds := []) (bv 7 0) (by kernel_rfl) rfl rfl ⟨(blk_cell g.out 0).trans rfl, (blk_cell g.out 1).trans rfl, (blk_cell g.out 2).trans rfl, (blk_cell g.out 3).trans rfl, (blk_cell g.out 4).trans rfl, (blk_cell g.out 5).trans rfl⟩ (fun hHeld => ?_)
   generalize iZ.drew = kC at GC g m HB hHeld ⊢
   refine pA_ 2 7 4 (some 37) ?_
   refine tA_ hHeld 0 7 5 (some 35) ?_
   refine tA_ hHeld 3 7 13 (some 38) ?_
   refine one_ (i := 1) (N := some 36) (bv 7 15) rfl rfl (by kernel_rfl) (by decide) (fun K hK => ?_)
   refine goes_ Tryz.func77 (by kernel_rfl) rfl #[.agg #[.int .i64 x, .int .i64 y, .slice P r.length Q, .int .i64 o, .bool false, .bool q]] (by rfl) rfl rfl ag_ ?_
   with_reducible refine (shutterref14_Deny.calls x y _ _ r o false q az aA aj aB aC aD _ ?side1 ?side2 iO.out).mono ?_
   (case side1 => repeat (first | exact (Kd.V_reads' GC.out).2.2 | (with_reducible apply pC)))
   (case side2 => exact (Kd.V_reads' GC.out).2.1)
   rintro e a4 ⟨jR, rfl, aE, hb⟩
   refine ⟨_, rfl, ?_⟩
   have A := Z (Kd.V_elder' (vV GC.out) (Kd.R_base aE) hb)
   have B := Z (Kd.R_lower (Kd.R_newM (M := fun k_ => (w.heap.size ≤ k_)) aE (below_size bl_) (fun k_ h_ => h_)) (below_size bl_))
   have C := kb' g hb
   have D := kb' m hb
   have L := bs_ hb
   clear GC
   clear g
   clear m
   clear HB
   have GC := A
   have a6 := B
   have g := C
   have m := D
   have HB := L
   clear A B C D L
   (try clear hb)
   (try clear bV)
   (try clear hk)
   (try clear hi)
   (try clear aE)
   obtain ⟨aH, aI, fY⟩ := Kd.R_slice a6.out
   (first | subst fY | (injection fY with ce fZ cf; have ga := ce.symm; have gb := cf.symm; clear ce fZ cf; subst ga; subst gb))
   refine hK.out _ _ ⟨(blk_cell g.out 0).trans rfl, (blk_cell g.out 1).trans rfl, (blk_cell g.out 2).trans rfl, (blk_cell g.out 3).trans rfl, (blk_cell g.out 4).trans rfl, (blk_cell g.out 5).trans rfl⟩ (fun hHeld => ?_)
   clear hK K
   refine nA_ (some 36) ?_
   refine one_ (i := 4) (N := none) (bv 7 31) rfl rfl (by kernel_rfl) (by decide) (fun K hK => ?_)
   have ke : a4.cell? ⟨d, 0, none⟩ = some (.int .i64 0) := (blk_cell m.out 0).trans rfl
   have jo := blk_frozen m.out 0
   have iG := ns_ l
   have kf : a4.cell? ⟨d, 1, none⟩ = some (.int .i64 0) := (blk_cell m.out 1).trans rfl
   have jp := blk_frozen m.out 1
   have iH := ns_ l
   have kg : a4.cell? ⟨d, 2, none⟩ = some (.slice none 0 0) := (blk_cell m.out 2).trans rfl
   have jq := blk_frozen m.out 2
   have iI := ns_ l
   have kh : a4.cell? ⟨d, 3, none⟩ = some (.int .i64 0) := (blk_cell m.out 3).trans rfl
   have jr := blk_frozen m.out 3
   have iJ := ns_ l
   have jO : a4.cell? ⟨d, 4, none⟩ = some (.bool false) := (blk_cell m.out 4).trans rfl
   have iS := blk_frozen m.out 4
   have hX := ns_ l
   have jP : a4.cell? ⟨d, 5, none⟩ = some (.bool false) := (blk_cell m.out 5).trans rfl
   have iT := blk_frozen m.out 5
   have hY := ns_ l
   refine skip_ (w1 := ?_) (by rfl) rfl ?_ ?_
   rotate_left
   ·go_simp
    rfl
   refine hK.out _ _ ⟨(fC6 d l.out (hHeld.1)), (fC6 d l.out (hHeld.2.1)), (fC6 d l.out (hHeld.2.2.1)), (fC6 d l.out (hHeld.2.2.2.1)), (fC6 d l.out (hHeld.2.2.2.2.1)), (fC6 d l.out (hHeld.2.2.2.2.2))⟩ (fun hHeld => ?_)
   clear hK K
   refine pA_ 5 7 63 (some 5) ?_
   refine pA_ 6 7 127 (some 6) ?_
   refine done_ (by kernel_rfl) ?_
   have A : Aside0 (Kd.V k55 55 ((((((a4.setCell ⟨d, 0, none⟩ (.int .i64 az)).setCell ⟨d, 1, none⟩ (.int .i64 aA)).setCell ⟨d, 2, none⟩ (.slice aH aj.length aI)).setCell ⟨d, 3, none⟩ (.int .i64 aB)).setCell ⟨d, 4, none⟩ (.bool aC)).setCell ⟨d, 5, none⟩ (.bool aD)) w.heap.size (fun k_ => (ay k_ ∨ w.heap.size ≤ k_) ∧ some k_ ≠ (.slice aH aj.length aI : Value).ownBlock ∧ k_ ≠ J ∧ k_ ≠ d) (.slice P r.length Q) r) := ⟨by (with_reducible repeat apply pV); exact Kd.V_mono (f6V d (Kd.V_mono GC.out (fun k_ hk => (⟨hk, hk.1.2.2⟩ : _ ∧ k_ ≠ d))) im_) im_⟩
   have B : Aside0 (Kd.R k55 55 ((((((a4.setCell ⟨d, 0, none⟩ (.int .i64 az)).setCell ⟨d, 1, none⟩ (.int .i64 aA)).setCell ⟨d, 2, none⟩ (.slice aH aj.length aI)).setCell ⟨d, 3, none⟩ (.int .i64 aB)).setCell ⟨d, 4, none⟩ (.bool aC)).setCell ⟨d, 5, none⟩ (.bool aD)) w.heap.size (fun k_ => (w.heap.size ≤ k_)) (.slice aH aj.length aI) aj) := ⟨by (with_reducible repeat apply pR); exact Kd.R_mono (f6R d (Kd.R_types a6.out m.out (by decide)) im_) im_⟩
   have C : Aside0 (((((((a4.setCell ⟨d, 0, none⟩ (.int .i64 az)).setCell ⟨d, 1, none⟩ (.int .i64 aA)).setCell ⟨d, 2, none⟩ (.slice aH aj.length aI)).setCell ⟨d, 3, none⟩ (.int .i64 aB)).setCell ⟨d, 4, none⟩ (.bool aC)).setCell ⟨d, 5, none⟩ (.bool aD)).heap[J]? = some (.cells #[.int .i64 x, .int .i64 y, .slice P r.length Q, .int .i64 o, .bool false, .bool q] 24 (0, 0))) := ⟨blk_off g.out l.out off2_⟩
   have D : Aside0 (((((((a4.setCell ⟨d, 0, none⟩ (.int .i64 az)).setCell ⟨d, 1, none⟩ (.int .i64 aA)).setCell ⟨d, 2, none⟩ (.slice aH aj.length aI)).setCell ⟨d, 3, none⟩ (.int .i64 aB)).setCell ⟨d, 4, none⟩ (.bool aC)).setCell ⟨d, 5, none⟩ (.bool aD)).heap[d]? = some (.cells #[.int .i64 az, .int .i64 aA, .slice aH aj.length aI, .int .i64 aB, .bool aC, .bool aD] 24 (0, 0))) := ⟨put6 m.out⟩
   have L : Aside0 (Below w.heap.size w ((((((a4.setCell ⟨d, 0, none⟩ (.int .i64 az)).setCell ⟨d, 1, none⟩ (.int .i64 aA)).setCell ⟨d, 2, none⟩ (.slice aH aj.length aI)).setCell ⟨d, 3, none⟩ (.int .i64 aB)).setCell ⟨d, 4, none⟩ (.bool aC)).setCell ⟨d, 5, none⟩ (.bool aD))) := ⟨bl_⟩
   (try clear GC)
   (try clear a6)
   (try clear g)
   (try clear m)
   (try clear HB)
   generalize ((((((a4.setCell ⟨d, 0, none⟩ (.int .i64 az)).setCell ⟨d, 1, none⟩ (.int .i64 aA)).setCell ⟨d, 2, none⟩ (.slice aH aj.length aI)).setCell ⟨d, 3, none⟩ (.int .i64 aB)).setCell ⟨d, 4, none⟩ (.bool aC)).setCell ⟨d, 5, none⟩ (.bool aD)) = kk at A B C D L ⊢
   have GC := A
   have a6 := B
   have g := C
   have m := D
   have HB := L
   clear A B C D L
   try go_wp2
   refine rc3_ (vK m.out) Tryz.underlying24 ?_
   exact ⟨_, er_, Kd.V_mono (Kd.R_V (by (with_reducible repeat apply pR); exact a6.out)) (fun k_ hk => by first | exact ⟨(.inr (hk.1)), hk.2⟩ | exact (.inr (hk))), bl_⟩
  rw [if_pos rfl] at H
  replace H := bn_ H
  obtain ⟨⟨bl, bm, aK, bn, bo, bp⟩, iL, H⟩ := H
  try dsimp only at H
  replace H := bn_ H
  obtain ⟨⟨X, Y, aG, aa, ab, ac⟩, iM, H⟩ := H
  try dsimp only at H
  replace H := bn_ H
  obtain ⟨a, iN, H⟩ := H
  have H' := Z H
  clear H
  have jw := ns_ l
  have dT := cells6 g.out
  go_wp2_with (first | ((with_reducible refine gF_ 34 rfl ?_); refine gd_ (some 33) Tryz.func34 (shutterref11_Open.calls af x y _ _ r o false q o true _ (vC_ GC) (vL_ GC) hE.out) ?_; rintro e kw ⟨rfl, hb⟩; refine ⟨_, rfl, ?_⟩; replace GC := vb' GC hb; replace g := kb' g hb; replace m := kb' m hb; replace HB := bs_ hb; (try clear hb); (try clear hk); have dZ := cells6 g.out) | ((with_reducible refine gF_ 79 rfl ?_); refine gd_ (some 42) Tryz.func79 (shutterref14_Modify.calls af x y _ _ r o false q o bl bm aK bn bo bp _ (vC_ GC) (vL_ GC) iL.out) ?_; rintro e kx ⟨jS, rfl, aE, hb⟩; refine ⟨_, rfl, ?_⟩; replace GC := Z (Kd.V_elder' (vV GC.out) (Kd.R_base aE) hb); have W := Z (Kd.R_lower (Kd.R_newM (M := fun k_ => (w.heap.size ≤ k_)) aE (below_size bl_) (fun k_ h_ => h_)) (below_size bl_)); replace g := kb' g hb; replace m := kb' m hb; replace HB := bs_ hb; (try clear hb); (try clear hk); (try clear aE); obtain ⟨bX, b1, hL⟩ := Kd.R_slice W.out; subst hL) | ((with_reducible refine gF_ 32 rfl ?_); refine gd_ (some 43) Tryz.func32 (shutterref10_Copy.calls bl bm _ _ aK bn bo bp X Y aG aa ab ac _ (rC_ W) (rL_ W) iM.out) ?_; rintro e ky ⟨jT, rfl, aE, hb⟩; refine ⟨_, rfl, ?_⟩; replace GC := Z (Kd.V_elder' (vV GC.out) (Kd.R_base aE) hb); have an := Z (Kd.R_lower (Kd.R_new' (Kd.R_newM (M := fun k_ => (w.heap.size ≤ k_)) aE (below_size bl_) (fun k_ h_ => h_)) (Kd.R_lt (by (with_reducible repeat apply pR); exact W.out))) (below_size bl_)); replace W := Z (Kd.R_elder' (by (with_reducible repeat apply pR); exact W.out) (Kd.R_base aE) hb); replace g := kb' g hb; replace m := kb' m hb; replace HB := bs_ hb; (try clear hb); (try clear hk); (try clear aE)) | ((with_reducible refine gD_ 8 rfl ?_); (try (refine gate_guard (by rfl) ?_; dsimp only)); refine bx_ 8 24 zS_ ?_; intro E hg iY hbox hb; replace GC := ve' GC hg hb; replace W := rb' W hb; replace an := rb' an hb; have s := Z hbox; have iR := ln' w hg; replace HB := bs_ hb; have aU := nl' g hg; replace g := kb' g hb; have aW := nl' m hg; replace m := kb' m hb; clear hb hbox hg; have jx := ns_ aU; have jy := ns_ aW; have d5 := cells6 s.out; obtain ⟨bg, bi, hM⟩ := Kd.R_slice an.out; subst hM) | ((with_reducible refine gate_store (t := 24) (p := 8) rfl ?_); refine sx_ 24 8 ((((((iY.setCell ⟨E, 0, none⟩ (.int .i64 X)).setCell ⟨E, 1, none⟩ (.int .i64 Y)).setCell ⟨E, 2, none⟩ (.slice bg aG.length bi)).setCell ⟨E, 3, none⟩ (.int .i64 aa)).setCell ⟨E, 4, none⟩ (.bool ab)).setCell ⟨E, 5, none⟩ (.bool ac)) ?_; intro bJ hw; have A : Aside0 (Kd.V k55 55 bJ w.heap.size (fun k_ => (ay k_ ∨ w.heap.size ≤ k_) ∧ some k_ ≠ (.slice bX aK.length b1 : Value).ownBlock ∧ some k_ ≠ (.slice bg aG.length bi : Value).ownBlock ∧ k_ ≠ J ∧ k_ ≠ d ∧ k_ ≠ E) (.slice P r.length Q) r) := ⟨(by rw [hw]; exact (by (with_reducible repeat apply pV); exact V_off GC.out (fun k_ hk => hk.2) off2_ (fun _ hk => ⟨hk.1.1.1.1, ⟨hk.1.1.2, ⟨hk.1.2, ⟨hk.1.1.1.2.1, ⟨hk.1.1.1.2.2, hk.2⟩⟩⟩⟩⟩)))⟩; have B : Aside0 (Kd.R k55 55 bJ w.heap.size (fun k_ => (w.heap.size ≤ k_) ∧ some k_ ≠ (.slice bg aG.length bi : Value).ownBlock) (.slice bX aK.length b1) aK) := ⟨(by rw [hw]; exact (by (with_reducible repeat apply pR); exact Kd.R_mono (R_off W.out s.out (by decide) off2_) (fun _ hk => ⟨hk.1.1, hk.2⟩)))⟩; have C : Aside0 (Kd.R k55 55 bJ w.heap.size (fun k_ => (w.heap.size ≤ k_) ∧ some k_ ≠ (.slice bX aK.length b1 : Value).ownBlock) (.slice bg aG.length bi) aG) := ⟨(by rw [hw]; exact (by (with_reducible repeat apply pR); exact Kd.R_mono (R_off an.out s.out (by decide) off2_) (fun _ hk => ⟨hk.1.1, hk.2⟩)))⟩; have D : Aside0 (bJ.heap[J]? = some (.cells #[.int .i64 x, .int .i64 y, .slice P r.length Q, .int .i64 o, .bool false, .bool q] 24 (0, 0))) := ⟨by rw [hw]; exact (blk_off g.out aU.out off2_)⟩; have L : Aside0 (bJ.heap[d]? = some (.cells zS_ 24 (0, 0))) := ⟨by rw [hw]; exact (blk_off m.out aW.out off2_)⟩; have U : Aside0 (bJ.heap[E]? = some (.cells #[.int .i64 X, .int .i64 Y, .slice bg aG.length bi, .int .i64 aa, .bool ab, .bool ac] 24 (0, 0))) := ⟨by rw [hw]; exact (put6 s.out)⟩; have ah : Aside0 (Below w.heap.size w bJ) := ⟨by rw [hw]; exact bl_⟩; clear hw GC W an g m s HB; have GC := A; have W := B; have an := C; have g := D; have m := L; have s := U; have HB := ah; clear A B C D L U ah; have eb := cells6 g.out) | ((with_reducible refine gF_ 80 rfl ?_); refine gd_ (some 47) Tryz.func80 (shutterref14_Line.calls af x y _ _ r o false q o a _ (vC_ GC) (vL_ GC) iN.out) ?_; rintro e kz ⟨cS, rfl, aE, hb⟩; refine ⟨_, rfl, ?_⟩; replace GC := Z (Kd.V_elder' (vV GC.out) (Kd.R_base aE) hb); replace W := rb' W hb; replace an := rb' an hb; have fF := Z (Kd.R_lower (Kd.R_newM (M := fun k_ => (w.heap.size ≤ k_)) aE (below_size bl_) (fun k_ h_ => h_)) (below_size bl_)); replace g := kb' g hb; replace m := kb' m hb; replace s := kb' s hb; replace HB := bs_ hb; (try clear hb); (try clear hk); (try clear aE)))
  go_loopg [10] af (fun kq iV w' => ∃ (c : Int) (u : List (S55)) (b : List (S55)) (GE : Value) (GD : Value), iV = .int .i64 c ∧ Aside0 (shutterref16_Do.l0 kq a1 a c x y u o false q X Y b aa ab ac = some (r1, r2, r3, r4, r5, r6, r7, r8)) ∧ Aside0 (kq ≤ af) ∧ Aside0 (Kd.R (Kd.int .i64) 3 w' w.heap.size (fun k_ => (w.heap.size ≤ k_)) cS a) ∧ Aside0 (Kd.V k55 55 w' w.heap.size (fun k_ => (ay k_ ∨ w.heap.size ≤ k_) ∧ some k_ ≠ (cS : Value).ownBlock ∧ some k_ ≠ (GD : Value).ownBlock ∧ k_ ≠ J ∧ k_ ≠ d ∧ k_ ≠ E) GE u) ∧ Aside0 (Kd.R k55 55 w' w.heap.size (fun k_ => (w.heap.size ≤ k_)) GD b) ∧ Aside0 (w'.heap[J]? = some (.cells #[.int .i64 x, .int .i64 y, GE, .int .i64 o, .bool false, .bool q] 24 (0, 0))) ∧ Aside0 (w'.heap[d]? = some (.cells zS_ 24 (0, 0))) ∧ Aside0 (w'.heap[E]? = some (.cells #[.int .i64 X, .int .i64 Y, GD, .int .i64 aa, .bool ab, .bool ac] 24 (0, 0))) ∧ Aside0 (Below w.heap.size w w'))
  case atStart => exact ⟨(0), (r), (aG), (.slice P r.length Q), (.slice bg aG.length bi), (dn_), H', ⟨Nat.le_refl _⟩, ⟨by (with_reducible repeat apply pR); exact Kd.R_mono fF.out im_⟩, ⟨by (with_reducible repeat apply pV); exact Kd.V_mono GC.out im_⟩, ⟨by (with_reducible repeat apply pR); exact Kd.R_mono an.out im_⟩, ⟨vK g.out⟩, ⟨vK m.out⟩, ⟨vK s.out⟩, ⟨bl_⟩⟩
  case round =>
   clear H'
   try clear c7
   try clear cc
   try clear bk
   try clear cm
   try clear cn
   try clear cd
   try clear dT
   try clear dZ
   try clear d5
   try clear eb
   obtain ⟨c, u, b, GE, GD, rfl, HA, bS, GB, GC, GA, g, m, s, HB⟩ := hrel
   cases gk with
   | zero => exact absurd HA.out (by simp [shutterref16_Do.l0])
   | succ k2 =>
    have H := HA.out
    clear HA
    simp only [shutterref16_Do.l0] at H
    by_cases bT : c < (a.length : Int)
    rotate_left
    ·rw [if_neg bT] at H
     have hf := decide_eq_false bT
     clear bT
     obtain ⟨rfl, rfl, rfl, rfl, rfl, rfl, rfl, rfl⟩ := ij8_ H
     obtain ⟨fx, fT, hQ⟩ := Kd.R_slice GB.out
     subst hQ
     have jz := ns_ aU
     have jA := ns_ aW
     have hZ := cells6 s.out
     have jB := ns_ l
     have h5 := cells6 m.out
     obtain ⟨bh, bj, hR⟩ := Kd.R_slice GA.out
     subst hR
     go_wp2_with (first | ((with_reducible refine gate_store (t := 24) (p := 4) rfl ?_); refine sx_ 24 4 ((((((wr.setCell ⟨d, 0, none⟩ (.int .i64 X)).setCell ⟨d, 1, none⟩ (.int .i64 Y)).setCell ⟨d, 2, none⟩ (.slice bh b.length bj)).setCell ⟨d, 3, none⟩ (.int .i64 aa)).setCell ⟨d, 4, none⟩ (.bool ab)).setCell ⟨d, 5, none⟩ (.bool ac)) ?_; intro bK hw; have A : Aside0 (Kd.R (Kd.int .i64) 3 bK w.heap.size (fun k_ => (w.heap.size ≤ k_)) (.slice fx a.length fT) a) := ⟨(by rw [hw]; exact (by (with_reducible repeat apply pR); exact R_off GB.out m.out (by decide) off2_))⟩; have B : Aside0 (Kd.V k55 55 bK w.heap.size (fun k_ => (ay k_ ∨ w.heap.size ≤ k_) ∧ some k_ ≠ (.slice fx a.length fT : Value).ownBlock ∧ some k_ ≠ (.slice bh b.length bj : Value).ownBlock ∧ k_ ≠ J ∧ k_ ≠ d ∧ k_ ≠ E) GE u) := ⟨(by rw [hw]; exact (by (with_reducible repeat apply pV); exact V_off GC.out (fun k_ hk => hk.2.2.2.2.1) off2_ (fun _ hk => ⟨hk.1, ⟨hk.2.1, ⟨hk.2.2.1, ⟨hk.2.2.2.1, ⟨hk.2.2.2.2.1, hk.2.2.2.2.2⟩⟩⟩⟩⟩)))⟩; have C : Aside0 (Kd.R k55 55 bK w.heap.size (fun k_ => (w.heap.size ≤ k_)) (.slice bh b.length bj) b) := ⟨(by rw [hw]; exact (by (with_reducible repeat apply pR); exact R_off GA.out m.out (by decide) off2_))⟩; have D : Aside0 (bK.heap[J]? = some (.cells #[.int .i64 x, .int .i64 y, GE, .int .i64 o, .bool false, .bool q] 24 (0, 0))) := ⟨by rw [hw]; exact (blk_off g.out l.out off2_)⟩; have L : Aside0 (bK.heap[d]? = some (.cells #[.int .i64 X, .int .i64 Y, .slice bh b.length bj, .int .i64 aa, .bool ab, .bool ac] 24 (0, 0))) := ⟨by rw [hw]; exact (put6 m.out)⟩; have U : Aside0 (bK.heap[E]? = some (.cells #[.int .i64 X, .int .i64 Y, .slice bh b.length bj, .int .i64 aa, .bool ab, .bool ac] 24 (0, 0))) := ⟨by rw [hw]; exact (blk_off s.out aW.out.symm off2_)⟩; have ah : Aside0 (Below w.heap.size w bK) := ⟨by rw [hw]; exact bl_⟩; clear hw GB GC GA g m s HB; have GB := A; have GC := B; have GA := C; have g := D; have m := L; have s := U; have HB := ah; clear A B C D L U ah))
     refine rc3_ (vK m.out) Tryz.underlying24 ?_
     exact ⟨_, er_, Kd.V_mono (Kd.R_V (by (with_reducible repeat apply pR); exact GA.out)) (fun k_ hk => by first | exact ⟨(.inr (hk.1)), hk.2⟩ | exact (.inr (hk))), bl_⟩
    rw [if_pos bT] at H
    have hf := decide_eq_true bT
    clear bT
    by_cases bt : a1 = 12
    rotate_left
    ·rw [if_neg bt] at H
     obtain ⟨hh, hj⟩ := eF_ bt
     obtain ⟨cz, H⟩ := gt_ H
     have jl := decide_eq_true cz
     clear cz
     obtain ⟨cA, H⟩ := gt_ H
     have jm := decide_eq_true cA
     clear cA
     obtain ⟨cB, H⟩ := gt_ H
     have jn := decide_eq_true cB
     clear cB
     obtain ⟨cX, a9⟩ : ∃ y_ : List (S55), y_ = (b.set ((rd a c) : Int).toNat (⟨(rd_T55 b (rd a c)).f0, (⟨(rd_T55 b (rd a c)).f1.f0, (rd_T55 b (rd a c)).f1.f1, (rd_T55 b (rd a c)).f1.f2, (rd_T55 b (rd a c)).f1.f3⟩ : S53), 0⟩ : S55)) := ⟨_, rfl⟩
     replace H : (shutterref16_Do.l0 k2 a1 a (wrap64 (c + 1)) x y u o false q X Y cX aa ab ac) = some (r1, r2, r3, r4, r5, r6, r7, r8) := by first | (rw [a9]; with_reducible exact H) | (have a5 := (Option.bind_some _ _).symm.trans H; rw [a9]; with_reducible exact a5) | (have a5 := (Option.bind_some _ _).symm.trans H; with_reducible exact a5) | with_reducible exact H | (rw [a9]; exact H) | exact H
     have fL := Z a9
     clear a9
     have H' := Z H
     clear H
     obtain ⟨jX, ka, hP⟩ := Kd.R_slice GB.out
     subst hP
     try go_wp2
     replace GB := Z (Kd.R_drew GB.out)
     replace GC := Z (Kd.V_drew GC.out)
     replace GA := Z (Kd.R_drew GA.out)
     replace g := Z (blk_drew g.out)
     replace m := Z (blk_drew m.out)
     replace s := Z (blk_drew s.out)
     replace HB := Z (below_drew1 HB.out)
     have b6 : 0 ≤ (c : Int) := od_
     have cb : c < (a.length : Int) := od_
     obtain ⟨fO, hs, bF⟩ := Kd.at_int (Kd.R_reads' GB.out).2.2 c b6 cb
     cases hs
     replace b6 := eq_true b6
     replace cb := eq_true cb
     have g9 : 0 ≤ ((rd a c) : Int) := od_
     have he : ((rd a c) : Int) < ((b.length : Int) : Int) := od_
     obtain ⟨ar, fS, fX, ge, hU, j7, fE⟩ := Kd.R_form GA.out (by omega)
     (first | cases fX | (injection fX with ea_ en_ ec_; (first | subst ea_ | (injection ea_ with ea_; subst ea_)); subst ec_; clear en_))
     have hI := Z ge
     have fA := Z fE
     clear ge hU fE
     obtain ⟨j3, hv, gj, aZ, a3⟩ := Kd.R_elem GA.out z55 ((rd a c) : Int) g9 he
     obtain rfl := k55_openM gj
     have g2 : World.cell? _ ⟨ar, ((rd a c) : Int).toNat * 6, none⟩ = some (.bool ((rd_T55 b (rd a c)).f0)) := aZ 0 _ rfl
     have g3 : World.cell? _ ⟨ar, ((rd a c) : Int).toNat * 6 + 1, none⟩ = some (.bool ((rd_T55 b (rd a c)).f1.f0)) := aZ 1 _ rfl
     have g4 : World.cell? _ ⟨ar, ((rd a c) : Int).toNat * 6 + 2, none⟩ = some (.bool ((rd_T55 b (rd a c)).f1.f1)) := aZ 2 _ rfl
     have g5 : World.cell? _ ⟨ar, ((rd a c) : Int).toNat * 6 + 3, none⟩ = some (.int .i64 ((rd_T55 b (rd a c)).f1.f2)) := aZ 3 _ rfl
     have g6 : World.cell? _ ⟨ar, ((rd a c) : Int).toNat * 6 + 4, none⟩ = some (.bool ((rd_T55 b (rd a c)).f1.f3)) := aZ 4 _ rfl
     have g7 : World.cell? _ ⟨ar, ((rd a c) : Int).toNat * 6 + 5, none⟩ = some (.int .u8 ((rd_T55 b (rd a c)).f2)) := aZ 5 _ rfl
     have gE : World.frozen? _ ⟨ar, ((rd a c) : Int).toNat * 6, none⟩ = false := a3 0
     have gF : World.frozen? _ ⟨ar, ((rd a c) : Int).toNat * 6 + 1, none⟩ = false := a3 1
     have gG : World.frozen? _ ⟨ar, ((rd a c) : Int).toNat * 6 + 2, none⟩ = false := a3 2
     have gH : World.frozen? _ ⟨ar, ((rd a c) : Int).toNat * 6 + 3, none⟩ = false := a3 3
     have gI : World.frozen? _ ⟨ar, ((rd a c) : Int).toNat * 6 + 4, none⟩ = false := a3 4
     have gJ : World.frozen? _ ⟨ar, ((rd a c) : Int).toNat * 6 + 5, none⟩ = false := a3 5
     clear hv aZ a3 gj
     replace g9 := eq_true g9
     replace he := eq_true he
     obtain ⟨j4, cH, gl, cE, hz⟩ := Kd.R_elem GA.out z55 ((rd a c) : Int) (od_) (by have h_ : ((rd a c) : Int) < ((b.length : Int) : Int) := od_; first | exact h_ | (have e_ := (Kd.R_reads' GA.out).1; omega) | simpa using h_)
     obtain rfl := k55_openM gl
     have cl := (Kd.R_seg GA.out ((rd a c) : Int) (od_) (by have h_ : ((rd a c) : Int) < ((b.length : Int) : Int) := od_; first | exact h_ | (have e_ := (Kd.R_reads' GA.out).1; omega) | simpa using h_) (seg := [.int .u8 0]) (j := 5) cH cE (show 6 ≤ 6 from by decide) (x' := (⟨(rd_T55 b (rd a c)).f0, (⟨(rd_T55 b (rd a c)).f1.f0, (rd_T55 b (rd a c)).f1.f1, (rd_T55 b (rd a c)).f1.f2, (rd_T55 b (rd a c)).f1.f3⟩ : S53), 0⟩ : S55)) (k55_mkM _ _ _ (⟨(rd_T55 b (rd a c)).f0, (⟨(rd_T55 b (rd a c)).f1.f0, (rd_T55 b (rd a c)).f1.f1, (rd_T55 b (rd a c)).f1.f2, (rd_T55 b (rd a c)).f1.f3⟩ : S53), 0⟩ : S55) ) (fun _ hk => hk)).1
     rw [← fL.out] at cl
     have fI := Z cl
     clear cH cE hz gl cl
     refine start_ (n := 9) (S := fun w' => w'.cell? ⟨E, 0, none⟩ = some (.int .i64 X) ∧ w'.cell? ⟨E, 1, none⟩ = some (.int .i64 Y) ∧ w'.cell? ⟨E, 2, none⟩ = some (.slice (some ⟨ar, 0, none⟩) b.length fS) ∧ w'.cell? ⟨E, 3, none⟩ = some (.int .i64 aa) ∧ w'.cell? ⟨E, 4, none⟩ = some (.bool ab) ∧ w'.cell? ⟨E, 5, none⟩ = some (.bool ac) ∧ w'.cell? (fO.add (c).toNat) = some (.int .i64 (rd a c))) (ds := [8]) (bv 9 0) (by kernel_rfl) rfl rfl ⟨(blk_cell s.out 0).trans rfl, (blk_cell s.out 1).trans rfl, (blk_cell s.out 2).trans rfl, (blk_cell s.out 3).trans rfl, (blk_cell s.out 4).trans rfl, (blk_cell s.out 5).trans rfl, bF⟩ (fun hHeld => ?_); refine with_tabW shutterref16_Do.tab18 shutterref16_Do.bits18 (fun HT_ HW_ => ?_)
     generalize wr.drew = kB at GB GC GA g m s HB fA fI gE gF gG gH gI gJ bF g2 g3 g4 g5 g6 g7 hHeld ⊢
     refine pT_ HT_ 0 9 1 (some 81) ?_
     refine pT_ HT_ 2 9 5 (some 83) ?_
     refine pT_ HT_ 3 9 13 (some 84) ?_
     refine pT_ HT_ 4 9 29 (some 85) ?_
     refine tT_ HT_ HW_ hHeld 1 9 31 (some 82) ?_
     refine tT_ HT_ HW_ hHeld 5 9 63 (some 86) ?_
     refine pT_ HT_ 6 9 127 (some 87) ?_
     refine pT_ HT_ 7 9 255 (some 88) ?_
     refine last_ (i := 8) (N := none) (bv 9 511) rfl rfl (one_of HT_.out (by kernel_rfl)) (by decide) (fun K hK => ?_)
     refine skip_ (w1 := ?_) (by rfl) rfl ?_ ?_
     rotate_left
     ·go_simp
      rfl
     refine hK.out _ _ ?_
     clear hK K
     refine done_ (done_of HT_.out (by kernel_rfl)) ?_
     try go_wp2
     go_roundg k2
     case measure => have := bR.out; have := bS.out; omega
     case rel => exact ⟨(wrap64 (c + 1)), (u), (cX), (GE), (.slice (some ⟨ar, 0, none⟩) b.length fS), (dn_), H', ⟨by have := bR.out; have := bS.out; omega⟩, ⟨by (with_reducible repeat apply pR); exact Kd.R_mono (Kd.R_far (p := ⟨ar, ((rd a c) : Int).toNat * 6 + 5, none⟩) (Kd.R_types GB.out fA.out (by decide)) im_ (.int .u8 0)) im_⟩, ⟨by (with_reducible repeat apply pV); exact Kd.V_mono (Kd.V_far (p := ⟨ar, ((rd a c) : Int).toNat * 6 + 5, none⟩) (Kd.V_mono GC.out (fun k_ hk => (⟨hk, fun e_ => hk.2.2.1 (by rw [e_]; rfl)⟩ : _ ∧ k_ ≠ ar))) im_ (.int .u8 0)) im_⟩, ⟨by (with_reducible repeat apply pR); exact fI.out⟩, ⟨by (with_reducible repeat apply pK); refine blk_far ?_ (by have h_ := Kd.R_ne GA.out g.out (by decide); intro e_; exact h_ (by rw [e_]; rfl)) _; (with_reducible repeat apply pK); exact g.out⟩, ⟨by (with_reducible repeat apply pK); refine blk_far ?_ (by have h_ := Kd.R_ne GA.out m.out (by decide); intro e_; exact h_ (by rw [e_]; rfl)) _; (with_reducible repeat apply pK); exact m.out⟩, ⟨by (with_reducible repeat apply pK); refine blk_far ?_ (by have h_ := Kd.R_ne GA.out s.out (by decide); intro e_; exact h_ (by rw [e_]; rfl)) _; (with_reducible repeat apply pK); exact s.out⟩, ⟨by repeat (first | (with_reducible first | exact HB.out | apply below_alloc | apply pw_below_drewN | apply below_drew1 | refine below_set ?_ hI.out | refine below_set ?_ ja.out | refine below_set ?_ jb.out | refine below_set ?_ iR.out) | exact HB.out)⟩⟩
    rw [if_pos bt] at H
    obtain ⟨hh, hj⟩ := eT_ bt
    clear bt
    by_cases bU : (wrap64 (c + 1)) < (a.length : Int)
    rotate_left
    ·rw [if_neg bU] at H
     have co := decide_eq_false bU
     clear bU
     obtain ⟨cw, H⟩ := gt_ H
     have ji := decide_eq_true cw
     clear cw
     obtain ⟨cx, H⟩ := gt_ H
     have jj := decide_eq_true cx
     clear cx
     obtain ⟨cy, H⟩ := gt_ H
     have jk := decide_eq_true cy
     clear cy
     obtain ⟨cW, a8⟩ : ∃ y_ : List (S55), y_ = (b.set ((rd a c) : Int).toNat (⟨(rd_T55 b (rd a c)).f0, (⟨(rd_T55 b (rd a c)).f1.f0, (rd_T55 b (rd a c)).f1.f1, (rd_T55 b (rd a c)).f1.f2, (rd_T55 b (rd a c)).f1.f3⟩ : S53), 0⟩ : S55)) := ⟨_, rfl⟩
     replace H : (shutterref16_Do.l0 k2 a1 a (wrap64 (c + 1)) x y u o false q X Y cW aa ab ac) = some (r1, r2, r3, r4, r5, r6, r7, r8) := by first | (rw [a8]; with_reducible exact H) | (have a5 := (Option.bind_some _ _).symm.trans H; rw [a8]; with_reducible exact a5) | (have a5 := (Option.bind_some _ _).symm.trans H; with_reducible exact a5) | with_reducible exact H | (rw [a8]; exact H) | exact H
     have fK := Z a8
     clear a8
     have H' := Z H
     clear H
     obtain ⟨jW, j9, hO⟩ := Kd.R_slice GB.out
     subst hO
     try go_wp2
     replace GB := Z (Kd.R_drew GB.out)
     replace GC := Z (Kd.V_drew GC.out)
     replace GA := Z (Kd.R_drew GA.out)
     replace g := Z (blk_drew g.out)
     replace m := Z (blk_drew m.out)
     replace s := Z (blk_drew s.out)
     replace HB := Z (below_drew1 HB.out)
     have b5 : 0 ≤ (c : Int) := od_
     have ca : c < (a.length : Int) := od_
     obtain ⟨fN, hq, bE⟩ := Kd.at_int (Kd.R_reads' GB.out).2.2 c b5 ca
     cases hq
     replace b5 := eq_true b5
     replace ca := eq_true ca
     have p70 : 0 ≤ ((rd a c) : Int) := od_
     have hc : ((rd a c) : Int) < ((b.length : Int) : Int) := od_
     obtain ⟨aq, fR, fW, gd, hT, j6, fD⟩ := Kd.R_form GA.out (by omega)
     (first | cases fW | (injection fW with ea_ en_ ec_; (first | subst ea_ | (injection ea_ with ea_; subst ea_)); subst ec_; clear en_))
     have hH := Z gd
     have fz := Z fD
     clear gd hT fD
     obtain ⟨j1, hu, gh, aY, a2⟩ := Kd.R_elem GA.out z55 ((rd a c) : Int) p70 hc
     obtain rfl := k55_openM gh
     have gW : World.cell? _ ⟨aq, ((rd a c) : Int).toNat * 6, none⟩ = some (.bool ((rd_T55 b (rd a c)).f0)) := aY 0 _ rfl
     have gX : World.cell? _ ⟨aq, ((rd a c) : Int).toNat * 6 + 1, none⟩ = some (.bool ((rd_T55 b (rd a c)).f1.f0)) := aY 1 _ rfl
     have gY : World.cell? _ ⟨aq, ((rd a c) : Int).toNat * 6 + 2, none⟩ = some (.bool ((rd_T55 b (rd a c)).f1.f1)) := aY 2 _ rfl
     have gZ : World.cell? _ ⟨aq, ((rd a c) : Int).toNat * 6 + 3, none⟩ = some (.int .i64 ((rd_T55 b (rd a c)).f1.f2)) := aY 3 _ rfl
     have g0 : World.cell? _ ⟨aq, ((rd a c) : Int).toNat * 6 + 4, none⟩ = some (.bool ((rd_T55 b (rd a c)).f1.f3)) := aY 4 _ rfl
     have g1 : World.cell? _ ⟨aq, ((rd a c) : Int).toNat * 6 + 5, none⟩ = some (.int .u8 ((rd_T55 b (rd a c)).f2)) := aY 5 _ rfl
     have gy : World.frozen? _ ⟨aq, ((rd a c) : Int).toNat * 6, none⟩ = false := a2 0
     have gz : World.frozen? _ ⟨aq, ((rd a c) : Int).toNat * 6 + 1, none⟩ = false := a2 1
     have gA : World.frozen? _ ⟨aq, ((rd a c) : Int).toNat * 6 + 2, none⟩ = false := a2 2
     have gB : World.frozen? _ ⟨aq, ((rd a c) : Int).toNat * 6 + 3, none⟩ = false := a2 3
     have gC : World.frozen? _ ⟨aq, ((rd a c) : Int).toNat * 6 + 4, none⟩ = false := a2 4
     have gD : World.frozen? _ ⟨aq, ((rd a c) : Int).toNat * 6 + 5, none⟩ = false := a2 5
     clear hu aY a2 gh
     replace p70 := eq_true p70
     replace hc := eq_true hc
     obtain ⟨j2, cG, gi, cD, hy⟩ := Kd.R_elem GA.out z55 ((rd a c) : Int) (od_) (by have h_ : ((rd a c) : Int) < ((b.length : Int) : Int) := od_; first | exact h_ | (have e_ := (Kd.R_reads' GA.out).1; omega) | simpa using h_)
     obtain rfl := k55_openM gi
     have ck := (Kd.R_seg GA.out ((rd a c) : Int) (od_) (by have h_ : ((rd a c) : Int) < ((b.length : Int) : Int) := od_; first | exact h_ | (have e_ := (Kd.R_reads' GA.out).1; omega) | simpa using h_) (seg := [.int .u8 0]) (j := 5) cG cD (show 6 ≤ 6 from by decide) (x' := (⟨(rd_T55 b (rd a c)).f0, (⟨(rd_T55 b (rd a c)).f1.f0, (rd_T55 b (rd a c)).f1.f1, (rd_T55 b (rd a c)).f1.f2, (rd_T55 b (rd a c)).f1.f3⟩ : S53), 0⟩ : S55)) (k55_mkM _ _ _ (⟨(rd_T55 b (rd a c)).f0, (⟨(rd_T55 b (rd a c)).f1.f0, (rd_T55 b (rd a c)).f1.f1, (rd_T55 b (rd a c)).f1.f2, (rd_T55 b (rd a c)).f1.f3⟩ : S53), 0⟩ : S55) ) (fun _ hk => hk)).1
     rw [← fK.out] at ck
     have fH := Z ck
     clear cG cD hy gi ck
     refine start_ (n := 9) (S := fun w' => w'.cell? ⟨E, 0, none⟩ = some (.int .i64 X) ∧ w'.cell? ⟨E, 1, none⟩ = some (.int .i64 Y) ∧ w'.cell? ⟨E, 2, none⟩ = some (.slice (some ⟨aq, 0, none⟩) b.length fR) ∧ w'.cell? ⟨E, 3, none⟩ = some (.int .i64 aa) ∧ w'.cell? ⟨E, 4, none⟩ = some (.bool ab) ∧ w'.cell? ⟨E, 5, none⟩ = some (.bool ac) ∧ w'.cell? (fN.add (c).toNat) = some (.int .i64 (rd a c))) (ds := [8]) (bv 9 0) (by kernel_rfl) rfl rfl ⟨(blk_cell s.out 0).trans rfl, (blk_cell s.out 1).trans rfl, (blk_cell s.out 2).trans rfl, (blk_cell s.out 3).trans rfl, (blk_cell s.out 4).trans rfl, (blk_cell s.out 5).trans rfl, bE⟩ (fun hHeld => ?_); refine with_tabW shutterref16_Do.tab18 shutterref16_Do.bits18 (fun HT_ HW_ => ?_)
     generalize wr.drew = kA at GB GC GA g m s HB fz fH gy gz gA gB gC gD bE gW gX gY gZ g0 g1 hHeld ⊢
     refine pT_ HT_ 0 9 1 (some 81) ?_
     refine pT_ HT_ 2 9 5 (some 83) ?_
     refine pT_ HT_ 3 9 13 (some 84) ?_
     refine pT_ HT_ 4 9 29 (some 85) ?_
     refine tT_ HT_ HW_ hHeld 1 9 31 (some 82) ?_
     refine tT_ HT_ HW_ hHeld 5 9 63 (some 86) ?_
     refine pT_ HT_ 6 9 127 (some 87) ?_
     refine pT_ HT_ 7 9 255 (some 88) ?_
     refine last_ (i := 8) (N := none) (bv 9 511) rfl rfl (one_of HT_.out (by kernel_rfl)) (by decide) (fun K hK => ?_)
     refine skip_ (w1 := ?_) (by rfl) rfl ?_ ?_
     rotate_left
     ·go_simp
      rfl
     refine hK.out _ _ ?_
     clear hK K
     refine done_ (done_of HT_.out (by kernel_rfl)) ?_
     try go_wp2
     go_roundg k2
     case measure => have := bR.out; have := bS.out; omega
     case rel => exact ⟨(wrap64 (c + 1)), (u), (cW), (GE), (.slice (some ⟨aq, 0, none⟩) b.length fR), (dn_), H', ⟨by have := bR.out; have := bS.out; omega⟩, ⟨by (with_reducible repeat apply pR); exact Kd.R_mono (Kd.R_far (p := ⟨aq, ((rd a c) : Int).toNat * 6 + 5, none⟩) (Kd.R_types GB.out fz.out (by decide)) im_ (.int .u8 0)) im_⟩, ⟨by (with_reducible repeat apply pV); exact Kd.V_mono (Kd.V_far (p := ⟨aq, ((rd a c) : Int).toNat * 6 + 5, none⟩) (Kd.V_mono GC.out (fun k_ hk => (⟨hk, fun e_ => hk.2.2.1 (by rw [e_]; rfl)⟩ : _ ∧ k_ ≠ aq))) im_ (.int .u8 0)) im_⟩, ⟨by (with_reducible repeat apply pR); exact fH.out⟩, ⟨by (with_reducible repeat apply pK); refine blk_far ?_ (by have h_ := Kd.R_ne GA.out g.out (by decide); intro e_; exact h_ (by rw [e_]; rfl)) _; (with_reducible repeat apply pK); exact g.out⟩, ⟨by (with_reducible repeat apply pK); refine blk_far ?_ (by have h_ := Kd.R_ne GA.out m.out (by decide); intro e_; exact h_ (by rw [e_]; rfl)) _; (with_reducible repeat apply pK); exact m.out⟩, ⟨by (with_reducible repeat apply pK); refine blk_far ?_ (by have h_ := Kd.R_ne GA.out s.out (by decide); intro e_; exact h_ (by rw [e_]; rfl)) _; (with_reducible repeat apply pK); exact s.out⟩, ⟨by repeat (first | (with_reducible first | exact HB.out | apply below_alloc | apply pw_below_drewN | apply below_drew1 | refine below_set ?_ hH.out | refine below_set ?_ ja.out | refine below_set ?_ jb.out | refine below_set ?_ iR.out) | exact HB.out)⟩⟩
    rw [if_pos bU] at H
    have co := decide_eq_true bU
    clear bU
    obtain ⟨cp, H⟩ := gt_ H
    have jc := decide_eq_true cp
    clear cp
    obtain ⟨F, bb⟩ : ∃ j_ : Int, (wrap64 (c + 1)) = j_ := ⟨_, rfl⟩
    replace H : (if 0 ≤ (F) then (if 0 ≤ (rd a (F)) then (if (rd a (F)) < (u.length : Int) then (if 0 ≤ (rd a c) then (if (rd a c) < (b.length : Int) then (shutterref16_Do.l0 k2 a1 a F x y u o false q X Y (b.set ((rd a c) : Int).toNat (⟨(rd_T55 b (rd a c)).f0, (⟨(rd_T55 b (rd a c)).f1.f0, (rd_T55 b (rd a c)).f1.f1, (rd_T55 b (rd a c)).f1.f2, (rd_T55 b (rd a c)).f1.f3⟩ : S53), (rd_T55 u (rd a (F))).f2⟩ : S55)) aa ab ac) else (none)) else (none)) else (none)) else (none)) else (none)) = some (r1, r2, r3, r4, r5, r6, r7, r8) := by first | (rw [bb] at H; exact H) | (simp only [bb] at H ⊢; exact H)
    (try rw [bb] at co)
    have iU : (IntKind.i64.wrap (c + 1)) = F := (i64_w _).trans bb
    obtain ⟨cq, H⟩ := gt_ H
    have jd := decide_eq_true cq
    clear cq
    obtain ⟨cr, H⟩ := gt_ H
    have je := decide_eq_true cr
    clear cr
    obtain ⟨ct, H⟩ := gt_ H
    have jf := decide_eq_true ct
    clear ct
    obtain ⟨cu, H⟩ := gt_ H
    have jg := decide_eq_true cu
    clear cu
    obtain ⟨cv, H⟩ := gt_ H
    have jh := decide_eq_true cv
    clear cv
    obtain ⟨cV, a7⟩ : ∃ y_ : List (S55), y_ = (b.set ((rd a c) : Int).toNat (⟨(rd_T55 b (rd a c)).f0, (⟨(rd_T55 b (rd a c)).f1.f0, (rd_T55 b (rd a c)).f1.f1, (rd_T55 b (rd a c)).f1.f2, (rd_T55 b (rd a c)).f1.f3⟩ : S53), (rd_T55 u (rd a (F))).f2⟩ : S55)) := ⟨_, rfl⟩
    replace H : (shutterref16_Do.l0 k2 a1 a F x y u o false q X Y cV aa ab ac) = some (r1, r2, r3, r4, r5, r6, r7, r8) := by first | (rw [a7]; with_reducible exact H) | (have a5 := (Option.bind_some _ _).symm.trans H; rw [a7]; with_reducible exact a5) | (have a5 := (Option.bind_some _ _).symm.trans H; with_reducible exact a5) | with_reducible exact H | (rw [a7]; exact H) | exact H
    have fJ := Z a7
    clear a7
    have H' := Z H
    clear H
    obtain ⟨jU, j8, hN⟩ := Kd.R_slice GB.out
    subst hN
    try go_wp2
    replace GB := Z (Kd.R_drew GB.out)
    replace GC := Z (Kd.V_drew GC.out)
    replace GA := Z (Kd.R_drew GA.out)
    replace g := Z (blk_drew g.out)
    replace m := Z (blk_drew m.out)
    replace s := Z (blk_drew s.out)
    replace HB := Z (below_drew1 HB.out)
    have b2 : 0 ≤ (c : Int) := od_
    have b7 : c < (a.length : Int) := od_
    obtain ⟨bs, hl, bu⟩ := Kd.at_int (Kd.R_reads' GB.out).2.2 c b2 b7
    cases hl
    replace b2 := eq_true b2
    replace b7 := eq_true b7
    have b3 : 0 ≤ ((F) : Int) := od_
    have b8 : (F) < (a.length : Int) := od_
    obtain ⟨fM, hm, bw⟩ := Kd.at_int (Kd.R_reads' GB.out).2.2 (F) b3 b8
    obtain rfl : bs = fM := (by injection hm)
    replace b3 := eq_true b3
    replace b8 := eq_true b8
    obtain ⟨jV, fQ, fV⟩ := Kd.V_slice GC.out
    (first | subst fV | (injection fV with ce fZ cf; have ga := ce.symm; have gb := cf.symm; clear ce fZ cf; subst ga; subst gb))
    have b4 : 0 ≤ ((rd a (F)) : Int) := od_
    have b9 : (rd a (F)) < (u.length : Int) := od_
    obtain ⟨ag, hp, bx, bz, bA, bB, bC, bD⟩ := at_T55 (Kd.V_reads' GC.out).2.2 (rd a (F)) b4 b9
    cases hp
    replace b4 := eq_true b4
    replace b9 := eq_true b9
    have p62 : 0 ≤ ((rd a c) : Int) := od_
    have ha : ((rd a c) : Int) < ((b.length : Int) : Int) := od_
    obtain ⟨ap, fP, fU, gc, hS, j5, fC⟩ := Kd.R_form GA.out (by omega)
    (first | cases fU | (injection fU with ea_ en_ ec_; (first | subst ea_ | (injection ea_ with ea_; subst ea_)); subst ec_; clear en_))
    have hG := Z gc
    have fy := Z fC
    clear gc hS fC
    obtain ⟨jY, ht, gf, aX, a0⟩ := Kd.R_elem GA.out z55 ((rd a c) : Int) p62 ha
    obtain rfl := k55_openM gf
    have gQ : World.cell? _ ⟨ap, ((rd a c) : Int).toNat * 6, none⟩ = some (.bool ((rd_T55 b (rd a c)).f0)) := aX 0 _ rfl
    have gR : World.cell? _ ⟨ap, ((rd a c) : Int).toNat * 6 + 1, none⟩ = some (.bool ((rd_T55 b (rd a c)).f1.f0)) := aX 1 _ rfl
    have gS : World.cell? _ ⟨ap, ((rd a c) : Int).toNat * 6 + 2, none⟩ = some (.bool ((rd_T55 b (rd a c)).f1.f1)) := aX 2 _ rfl
    have gT : World.cell? _ ⟨ap, ((rd a c) : Int).toNat * 6 + 3, none⟩ = some (.int .i64 ((rd_T55 b (rd a c)).f1.f2)) := aX 3 _ rfl
    have gU : World.cell? _ ⟨ap, ((rd a c) : Int).toNat * 6 + 4, none⟩ = some (.bool ((rd_T55 b (rd a c)).f1.f3)) := aX 4 _ rfl
    have gV : World.cell? _ ⟨ap, ((rd a c) : Int).toNat * 6 + 5, none⟩ = some (.int .u8 ((rd_T55 b (rd a c)).f2)) := aX 5 _ rfl
    have gs : World.frozen? _ ⟨ap, ((rd a c) : Int).toNat * 6, none⟩ = false := a0 0
    have gt : World.frozen? _ ⟨ap, ((rd a c) : Int).toNat * 6 + 1, none⟩ = false := a0 1
    have gu : World.frozen? _ ⟨ap, ((rd a c) : Int).toNat * 6 + 2, none⟩ = false := a0 2
    have gv : World.frozen? _ ⟨ap, ((rd a c) : Int).toNat * 6 + 3, none⟩ = false := a0 3
    have gw : World.frozen? _ ⟨ap, ((rd a c) : Int).toNat * 6 + 4, none⟩ = false := a0 4
    have gx : World.frozen? _ ⟨ap, ((rd a c) : Int).toNat * 6 + 5, none⟩ = false := a0 5
    clear ht aX a0 gf
    replace p62 := eq_true p62
    replace ha := eq_true ha
    obtain ⟨jZ, cF, gg, cC, hx⟩ := Kd.R_elem GA.out z55 ((rd a c) : Int) (od_) (by have h_ : ((rd a c) : Int) < ((b.length : Int) : Int) := od_; first | exact h_ | (have e_ := (Kd.R_reads' GA.out).1; omega) | simpa using h_)
    obtain rfl := k55_openM gg
    have cj := (Kd.R_seg GA.out ((rd a c) : Int) (od_) (by have h_ : ((rd a c) : Int) < ((b.length : Int) : Int) := od_; first | exact h_ | (have e_ := (Kd.R_reads' GA.out).1; omega) | simpa using h_) (seg := [.int .u8 ((rd_T55 u (rd a (F))).f2)]) (j := 5) cF cC (show 6 ≤ 6 from by decide) (x' := (⟨(rd_T55 b (rd a c)).f0, (⟨(rd_T55 b (rd a c)).f1.f0, (rd_T55 b (rd a c)).f1.f1, (rd_T55 b (rd a c)).f1.f2, (rd_T55 b (rd a c)).f1.f3⟩ : S53), (rd_T55 u (rd a (F))).f2⟩ : S55)) (k55_mkM _ _ _ (⟨(rd_T55 b (rd a c)).f0, (⟨(rd_T55 b (rd a c)).f1.f0, (rd_T55 b (rd a c)).f1.f1, (rd_T55 b (rd a c)).f1.f2, (rd_T55 b (rd a c)).f1.f3⟩ : S53), (rd_T55 u (rd a (F))).f2⟩ : S55) ) (fun _ hk => hk)).1
    rw [← fJ.out] at cj
    have fG := Z cj
    clear cF cC hx gg cj
    refine start_ (n := 19) (S := fun w' => w'.cell? ⟨E, 0, none⟩ = some (.int .i64 X) ∧ w'.cell? ⟨E, 1, none⟩ = some (.int .i64 Y) ∧ w'.cell? ⟨E, 2, none⟩ = some (.slice (some ⟨ap, 0, none⟩) b.length fP) ∧ w'.cell? ⟨E, 3, none⟩ = some (.int .i64 aa) ∧ w'.cell? ⟨E, 4, none⟩ = some (.bool ab) ∧ w'.cell? ⟨E, 5, none⟩ = some (.bool ac) ∧ w'.cell? ⟨J, 0, none⟩ = some (.int .i64 x) ∧ w'.cell? ⟨J, 1, none⟩ = some (.int .i64 y) ∧ w'.cell? ⟨J, 2, none⟩ = some (.slice (some ag) u.length fQ) ∧ w'.cell? ⟨J, 3, none⟩ = some (.int .i64 o) ∧ w'.cell? ⟨J, 4, none⟩ = some (.bool false) ∧ w'.cell? ⟨J, 5, none⟩ = some (.bool q) ∧ w'.cell? (bs.add (c).toNat) = some (.int .i64 (rd a c)) ∧ w'.cell? (bs.add ((F)).toNat) = some (.int .i64 (rd a (F))) ∧ w'.cell? (ag.add (((rd a (F))).toNat * 6)) = some (.bool ((rd_T55 u (rd a (F))).f0)) ∧ w'.cell? ⟨(ag.add (((rd a (F))).toNat * 6)).block, (ag.add (((rd a (F))).toNat * 6)).off + 1, none⟩ = some (.bool ((rd_T55 u (rd a (F))).f1.f0)) ∧ w'.cell? ⟨(ag.add (((rd a (F))).toNat * 6)).block, (ag.add (((rd a (F))).toNat * 6)).off + 2, none⟩ = some (.bool ((rd_T55 u (rd a (F))).f1.f1)) ∧ w'.cell? ⟨(ag.add (((rd a (F))).toNat * 6)).block, (ag.add (((rd a (F))).toNat * 6)).off + 3, none⟩ = some (.int .i64 ((rd_T55 u (rd a (F))).f1.f2)) ∧ w'.cell? ⟨(ag.add (((rd a (F))).toNat * 6)).block, (ag.add (((rd a (F))).toNat * 6)).off + 4, none⟩ = some (.bool ((rd_T55 u (rd a (F))).f1.f3)) ∧ w'.cell? ⟨(ag.add (((rd a (F))).toNat * 6)).block, (ag.add (((rd a (F))).toNat * 6)).off + 5, none⟩ = some (.int .u8 ((rd_T55 u (rd a (F))).f2))) (ds := [18]) (bv 19 0) (by kernel_rfl) rfl rfl ⟨(blk_cell s.out 0).trans rfl, (blk_cell s.out 1).trans rfl, (blk_cell s.out 2).trans rfl, (blk_cell s.out 3).trans rfl, (blk_cell s.out 4).trans rfl, (blk_cell s.out 5).trans rfl, (blk_cell g.out 0).trans rfl, (blk_cell g.out 1).trans rfl, (blk_cell g.out 2).trans rfl, (blk_cell g.out 3).trans rfl, (blk_cell g.out 4).trans rfl, (blk_cell g.out 5).trans rfl, bu, bw, bx, bz, bA, bB, bC, bD⟩ (fun hHeld => ?_); refine with_tabW shutterref16_Do.tab17 shutterref16_Do.bits17 (fun HT_ HW_ => ?_)
    generalize wr.drew = w64 at GB GC GA g m s HB fy fG gs gt gu gv gw gx bu bw bx bz bA bB bC bD gQ gR gS gT gU gV hHeld ⊢
    refine pT_ HT_ 0 19 1 (some 63) ?_
    refine pT_ HT_ 2 19 5 (some 65) ?_
    refine pT_ HT_ 3 19 13 (some 66) ?_
    refine pT_ HT_ 4 19 29 (some 67) ?_
    refine pT_ HT_ 6 19 93 (some 69) ?_
    refine pT_ HT_ 8 19 349 (some 71) ?_
    refine pT_ HT_ 9 19 861 (some 72) ?_
    refine pT_ HT_ 10 19 1885 (some 73) ?_
    refine pT_ HT_ 11 19 3933 (some 74) ?_
    refine tT_ HT_ HW_ hHeld 1 19 3935 (some 64) ?_
    refine tT_ HT_ HW_ hHeld 5 19 3967 (some 68) ?_
    refine tT_ HT_ HW_ hHeld 7 19 4095 (some 70) ?_
    refine tT_ HT_ HW_ hHeld 12 19 8191 (some 75) ?_
    refine pT_ HT_ 13 19 16383 (some 76) ?_
    refine pT_ HT_ 14 19 32767 (some 77) ?_
    refine tT_ HT_ HW_ hHeld 15 19 65535 (some 78) ?_
    refine pT_ HT_ 16 19 131071 (some 79) ?_
    refine pT_ HT_ 17 19 262143 (some 80) ?_
    refine last_ (i := 18) (N := none) (bv 19 524287) rfl rfl (one_of HT_.out (by kernel_rfl)) (by decide) (fun K hK => ?_)
    refine skip_ (w1 := ?_) (by rfl) rfl ?_ ?_
    rotate_left
    ·go_simp
     rfl
    refine hK.out _ _ ?_
    clear hK K
    refine done_ (done_of HT_.out (by kernel_rfl)) ?_
    try go_wp2
    go_roundg k2
    case measure => have := bR.out; have := bS.out; omega
    case rel => exact ⟨(F), (u), (cV), (.slice (some ag) u.length fQ), (.slice (some ⟨ap, 0, none⟩) b.length fP), (by first | rfl | (simp; done) | (simp only [← bb, i64_w]; rfl) | (simp only [← bb] <;> (first | rfl | simp)) | (simp [*]; done)), H', ⟨by have := bR.out; have := bS.out; omega⟩, ⟨by (with_reducible repeat apply pR); exact Kd.R_mono (Kd.R_far (p := ⟨ap, ((rd a c) : Int).toNat * 6 + 5, none⟩) (Kd.R_types GB.out fy.out (by decide)) im_ (.int .u8 ((rd_T55 u (rd a (F))).f2))) im_⟩, ⟨by (with_reducible repeat apply pV); exact Kd.V_mono (Kd.V_far (p := ⟨ap, ((rd a c) : Int).toNat * 6 + 5, none⟩) (Kd.V_mono GC.out (fun k_ hk => (⟨hk, fun e_ => hk.2.2.1 (by rw [e_]; rfl)⟩ : _ ∧ k_ ≠ ap))) im_ (.int .u8 ((rd_T55 u (rd a (F))).f2))) im_⟩, ⟨by (with_reducible repeat apply pR); exact fG.out⟩, ⟨by (with_reducible repeat apply pK); refine blk_far ?_ (by have h_ := Kd.R_ne GA.out g.out (by decide); intro e_; exact h_ (by rw [e_]; rfl)) _; (with_reducible repeat apply pK); exact g.out⟩, ⟨by (with_reducible repeat apply pK); refine blk_far ?_ (by have h_ := Kd.R_ne GA.out m.out (by decide); intro e_; exact h_ (by rw [e_]; rfl)) _; (with_reducible repeat apply pK); exact m.out⟩, ⟨by (with_reducible repeat apply pK); refine blk_far ?_ (by have h_ := Kd.R_ne GA.out s.out (by decide); intro e_; exact h_ (by rw [e_]; rfl)) _; (with_reducible repeat apply pK); exact s.out⟩, ⟨by repeat (first | (with_reducible first | exact HB.out | apply below_alloc | apply pw_below_drewN | apply below_drew1 | refine below_set ?_ hG.out | refine below_set ?_ ja.out | refine below_set ?_ jb.out | refine below_set ?_ iR.out) | exact HB.out)⟩⟩

end Go.Proofs.YtjpedimndkibnaaGreatDoor.P
