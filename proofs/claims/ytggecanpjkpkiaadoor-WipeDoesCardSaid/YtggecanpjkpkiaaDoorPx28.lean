/- pp.py and press2.py (wip/tools) wrote this text. -/
import Derived.Test.YtggecanpjkpkiaaDoorPx0
import Derived.Test.YtggecanpjkpkiaaDoorPxS
import Derived.Test.YtggecanpjkpkiaaDoorPx0L
import Derived.Test.YtggecanpjkpkiaaDoorPx10
import Derived.Test.YtggecanpjkpkiaaDoorPx11
import Derived.Test.YtggecanpjkpkiaaDoorPx14
import Derived.Test.YtggecanpjkpkiaaDoorPx27
namespace Go.Proofs.YtggecanpjkpkiaaDoor.P
open Go.RowKit Go.Proofs.YtggecanpjkpkiaaDoorW.PrintWords Go.Proofs.YtggecanpjkpkiaaDoorW.PrintLast Go.Proofs.YtggecanpjkpkiaaDoorW.PrintMore
attribute [local go_sem] max2_int min2_int max_two min_two max_three min_three max_four min_four
attribute [local go_sem] Instr.field asAgg
set_option linter.unusedVariables false
set_option linter.unusedSimpArgs false

/-! ### shutterref16_Do: function 27 -/
mutual
def shutterref16_Do.j0 : Nat → Int → Bool → Int → Int → List (S35) → Int → Bool → Bool → Option (Int × Int × (List (S35)) × Int × Bool × Bool × Int × Int)
 | 0, _, _, _, _, _, _, _, _ => none
 | k + 1, o, x16, d, e, g, a, b, c => if x16 = true then (some (d, e, g, a, b, c, 1, (-1))) else (if b = true then (some (d, e, g, a, b, c, 7, (-1))) else (if o = 14 then ((shutterref13_Do.f k d e g a b c 111 false false false ([] : List (S128))).bind fun l => (some (l.1, l.2.1, l.2.2.1, l.2.2.2.1, l.2.2.2.2.1, c, 0, (-1)))) else ((shutterref11_Open.f k d e g a b c a).bind fun m => (if m = true then ((shutterref14_Modify.f k d e g a b c a).bind fun i => ((shutterref10_Copy.f i.1 i.2.1 i.2.2.1 i.2.2.2.1 i.2.2.2.2.1 i.2.2.2.2.2).bind fun j => ((shutterref14_Line.f k d e g a b c a).bind fun n => (shutterref16_Do.l0 k o n 0 d e g a b c j.1 j.2.1 j.2.2.1 j.2.2.2.1 j.2.2.2.2.1 j.2.2.2.2.2)))) else ((shutterref14_Deny.f d e g a b c).bind fun h => (some (h.1, h.2.1, h.2.2.1, h.2.2.2.1, h.2.2.2.2.1, h.2.2.2.2.2, 8, a)))))))
def shutterref16_Do.l0 : Nat → Int → List Int → Int → Int → Int → List (S35) → Int → Bool → Bool → Int → Int → List (S35) → Int → Bool → Bool → Option (Int × Int × (List (S35)) × Int × Bool × Bool × Int × Int)
 | 0, _, _, _, _, _, _, _, _, _, _, _, _, _, _, _ => none
 | k + 1, o, b, x10, i, j, c, l, m, n, d, e, a, f, g, h => if x10 < (b.length : Int) then (if o = 12 then (if (wrap64 (x10 + 1)) < (b.length : Int) then (if 0 ≤ x10 then (if 0 ≤ (wrap64 (x10 + 1)) then (if 0 ≤ (rd b (wrap64 (x10 + 1))) then (if (rd b (wrap64 (x10 + 1))) < (c.length : Int) then (if 0 ≤ (rd b x10) then (if (rd b x10) < (a.length : Int) then (shutterref16_Do.l0 k o b (wrap64 (x10 + 1)) i j c l m n d e (a.set ((rd b x10) : Int).toNat (⟨(rd_T35 a (rd b x10)).f0, (⟨(rd_T35 a (rd b x10)).f1.f0, (rd_T35 a (rd b x10)).f1.f1, (rd_T35 a (rd b x10)).f1.f2, (rd_T35 a (rd b x10)).f1.f3⟩ : S33), (rd_T35 c (rd b (wrap64 (x10 + 1)))).f2⟩ : S35)) f g h) else (none)) else (none)) else (none)) else (none)) else (none)) else (none)) else (if 0 ≤ x10 then (if 0 ≤ (rd b x10) then (if (rd b x10) < (a.length : Int) then (shutterref16_Do.l0 k o b (wrap64 (x10 + 1)) i j c l m n d e (a.set ((rd b x10) : Int).toNat (⟨(rd_T35 a (rd b x10)).f0, (⟨(rd_T35 a (rd b x10)).f1.f0, (rd_T35 a (rd b x10)).f1.f1, (rd_T35 a (rd b x10)).f1.f2, (rd_T35 a (rd b x10)).f1.f3⟩ : S33), 0⟩ : S35)) f g h) else (none)) else (none)) else (none))) else (if 0 ≤ x10 then (if 0 ≤ (rd b x10) then (if (rd b x10) < (a.length : Int) then (shutterref16_Do.l0 k o b (wrap64 (x10 + 1)) i j c l m n d e (a.set ((rd b x10) : Int).toNat (⟨(rd_T35 a (rd b x10)).f0, (⟨(rd_T35 a (rd b x10)).f1.f0, (rd_T35 a (rd b x10)).f1.f1, (rd_T35 a (rd b x10)).f1.f2, (rd_T35 a (rd b x10)).f1.f3⟩ : S33), 0⟩ : S35)) f g h) else (none)) else (none)) else (none))) else (some (d, e, a, f, g, h, 0, (-1)))
end
def shutterref16_Do.f (k : Nat) (a : Int) (b : Int) (g : List (S35)) (c : Int) (d : Bool) (e : Bool) (a1 : Int) : Option (Int × Int × (List (S35)) × Int × Bool × Bool × Int × Int) := if a1 < 12 then (shutterref16_Do.j0 k a1 true a b g c d e) else (shutterref16_Do.j0 k a1 (decide (a1 > 14)) a b g c d e)
theorem shutterref16_Do.mono_l : ∀ k, (∀ a b c d e f g i, LeO (shutterref16_Do.j0 k a b c d e f g i) (shutterref16_Do.j0 (k + 1) a b c d e f g i)) ∧ (∀ a b c d e f g i s t m n o p q, LeO (shutterref16_Do.l0 k a b c d e f g i s t m n o p q) (shutterref16_Do.l0 (k + 1) a b c d e f g i s t m n o p q))
 | 0 => ⟨fun _ _ _ _ _ _ _ _ r h => by simp [shutterref16_Do.j0] at h, fun _ _ _ _ _ _ _ _ _ _ _ _ _ _ _ r h => by simp [shutterref16_Do.l0] at h⟩
 | k + 1 => by
  obtain ⟨j, l⟩ := shutterref16_Do.mono_l k
  refine ⟨?_, ?_⟩
  ·intro a b c d e f g i
   unfold shutterref16_Do.j0
   repeat' first
   | (with_reducible exact j _ _ _ _ _ _ _ _)
   | (with_reducible exact l _ _ _ _ _ _ _ _ _ _ _ _ _ _ _)
   | (with_reducible exact shutterref11_Open.mono _ _ _ _ _ _ _ _)
   | (with_reducible exact shutterref13_Do.mono _ _ _ _ _ _ _ _ _ _ _ _)
   | (with_reducible exact shutterref14_Line.mono _ _ _ _ _ _ _ _)
   | (with_reducible exact shutterref14_Modify.mono _ _ _ _ _ _ _ _)
   | (with_reducible exact LeO.refl _)
   | (with_reducible exact LeO.none _)
   | (with_reducible refine LeO.ite ?_ ?_)
   | (with_reducible refine LeO.bind ?_ (fun _ => ?_))
   | exact j _ _ _ _ _ _ _ _
   | exact l _ _ _ _ _ _ _ _ _ _ _ _ _ _ _
   | exact shutterref11_Open.mono _ _ _ _ _ _ _ _
   | exact shutterref13_Do.mono _ _ _ _ _ _ _ _ _ _ _ _
   | exact shutterref14_Line.mono _ _ _ _ _ _ _ _
   | exact shutterref14_Modify.mono _ _ _ _ _ _ _ _
   | exact LeO.none _
   | refine LeO.ite ?_ ?_
   | refine LeO.bind ?_ (fun _ => ?_)
  ·intro a b c d e f g i s t m n o p q
   unfold shutterref16_Do.l0
   repeat' first
   | (with_reducible exact j _ _ _ _ _ _ _ _)
   | (with_reducible exact l _ _ _ _ _ _ _ _ _ _ _ _ _ _ _)
   | (with_reducible exact shutterref11_Open.mono _ _ _ _ _ _ _ _)
   | (with_reducible exact shutterref13_Do.mono _ _ _ _ _ _ _ _ _ _ _ _)
   | (with_reducible exact shutterref14_Line.mono _ _ _ _ _ _ _ _)
   | (with_reducible exact shutterref14_Modify.mono _ _ _ _ _ _ _ _)
   | (with_reducible exact LeO.refl _)
   | (with_reducible exact LeO.none _)
   | (with_reducible refine LeO.ite ?_ ?_)
   | (with_reducible refine LeO.bind ?_ (fun _ => ?_))
   | exact j _ _ _ _ _ _ _ _
   | exact l _ _ _ _ _ _ _ _ _ _ _ _ _ _ _
   | exact shutterref11_Open.mono _ _ _ _ _ _ _ _
   | exact shutterref13_Do.mono _ _ _ _ _ _ _ _ _ _ _ _
   | exact shutterref14_Line.mono _ _ _ _ _ _ _ _
   | exact shutterref14_Modify.mono _ _ _ _ _ _ _ _
   | exact LeO.none _
   | refine LeO.ite ?_ ?_
   | refine LeO.bind ?_ (fun _ => ?_)
theorem shutterref16_Do.mono : ∀ a0 a1 c d a4 e g k, LeO (shutterref16_Do.f k a0 a1 c d a4 e g) (shutterref16_Do.f (k + 1) a0 a1 c d a4 e g) := by
 intro a0 a1 c d a4 e g k
 obtain ⟨a, b⟩ := shutterref16_Do.mono_l k
 unfold shutterref16_Do.f
 repeat' first
   | (with_reducible exact a _ _ _ _ _ _ _ _)
   | (with_reducible exact b _ _ _ _ _ _ _ _ _ _ _ _ _ _ _)
   | (with_reducible exact shutterref11_Open.mono _ _ _ _ _ _ _ _)
   | (with_reducible exact shutterref13_Do.mono _ _ _ _ _ _ _ _ _ _ _ _)
   | (with_reducible exact shutterref14_Line.mono _ _ _ _ _ _ _ _)
   | (with_reducible exact shutterref14_Modify.mono _ _ _ _ _ _ _ _)
   | (with_reducible exact LeO.refl _)
   | (with_reducible exact LeO.none _)
   | (with_reducible refine LeO.ite ?_ ?_)
   | (with_reducible refine LeO.bind ?_ (fun _ => ?_))
   | exact a _ _ _ _ _ _ _ _
   | exact b _ _ _ _ _ _ _ _ _ _ _ _ _ _ _
   | exact shutterref11_Open.mono _ _ _ _ _ _ _ _
   | exact shutterref13_Do.mono _ _ _ _ _ _ _ _ _ _ _ _
   | exact shutterref14_Line.mono _ _ _ _ _ _ _ _
   | exact shutterref14_Modify.mono _ _ _ _ _ _ _ _
   | exact LeO.none _
   | refine LeO.ite ?_ ?_
   | refine LeO.bind ?_ (fun _ => ?_)
def shutterref16_Do.T17 : Bool × List (List Nat × List Nat) := (true, [([], []), ([0], [0]), ([], []), ([], []), ([2, 3], [2, 3]), ([4], [4]), ([], []), ([6], [6]), ([], []), ([], []), ([9], [9]), ([8, 10], [8, 10]), ([11], [11]), ([7, 12], [7, 12]), ([13], [13]), ([14], [14]), ([1, 5, 0, 1, 2, 3, 4, 5, 6, 7, 8, 9, 10, 11, 12, 13, 14, 15], [1, 5]), ([16, 0, 1, 2, 3, 4, 5, 6, 7, 8, 9, 10, 11, 12, 13, 14, 15], [16]), ([17, 15, 0, 1, 2, 3, 4, 5, 6, 7, 8, 9, 10, 11, 12, 13, 14, 15], [15, 17])])
def shutterref16_Do.B17 : List Nat := [0, 1, 0, 0, 12, 28, 0, 64, 0, 0, 512, 1792, 3840, 8128, 16320, 32704, 65535, 131071, 262143]
theorem shutterref16_Do.tab17 : rtab .any (opsOf Tryd.f27 17) = shutterref16_Do.T17 := by kernel_rfl
theorem shutterref16_Do.bits17 : waitsOk shutterref16_Do.T17.2 shutterref16_Do.B17 = true := by kernel_rfl
def shutterref16_Do.T18 : Bool × List (List Nat × List Nat) := (true, [([], []), ([0], [0]), ([], []), ([], []), ([2, 3], [2, 3]), ([4], [4]), ([1, 5, 0, 1, 2, 3, 4, 5], [1, 5]), ([6, 0, 1, 2, 3, 4, 5], [6]), ([7, 0, 1, 2, 3, 4, 5], [7])])
def shutterref16_Do.B18 : List Nat := [0, 1, 0, 0, 12, 28, 63, 127, 255]
theorem shutterref16_Do.tab18 : rtab .any (opsOf Tryd.f27 18) = shutterref16_Do.T18 := by kernel_rfl
theorem shutterref16_Do.bits18 : waitsOk shutterref16_Do.T18.2 shutterref16_Do.B18 = true := by kernel_rfl
set_option maxHeartbeats 8000000 in
set_option maxRecDepth 100000 in
theorem shutterref16_Do.calls (k : Nat) (x : Int) (y : Int) (az : Nat → Prop) (Q : Option Addr) (T : Nat) (s : List (S35)) (o : Int) (ag : Bool) (q : Bool) (a1 : Int) (r1 : Int) (r2 : Int) (r3 : List (S35)) (r4 : Int) (r5 : Bool) (r6 : Bool) (r7 : Int) (r8 : Int) (w : World) (hB : Kd.V k35 35 w w.heap.size (fun k_ => az k_) (.slice Q s.length T) s) (h : shutterref16_Do.f k x y s o ag q a1 = some (r1, r2, r3, r4, r5, r6, r7, r8)) :
  Calls Tryd.prog 27 #[.agg #[.int .i64 x, .int .i64 y, .slice Q s.length T, .int .i64 o, .bool ag, .bool q], .int .i64 a1] w fun e w' => ∃ hG : Value, e = .returned (.tuple #[.agg #[.int .i64 r1, .int .i64 r2, hG, .int .i64 r4, .bool r5, .bool r6], .int .i64 r7, .int .i64 r8]) ∧ Kd.V k35 35 w' w.heap.size (fun k_ => (az k_ ∨ w.heap.size ≤ k_)) hG r3 ∧ Below w.heap.size w w' := by
 have kj := Tryd.underlying24
 have kk := Tryd.underlying75
 have aB := Z (show Kd.V k35 35 w w.heap.size (fun k_ => (az k_ ∨ w.heap.size ≤ k_)) (.slice Q s.length T) s from Kd.V_mono hB (fun k_ hk => .inl hk))
 have HB := Z (Below.refl w.heap.size w)
 have H : (if a1 < 12 then (shutterref16_Do.j0 k a1 true x y s o ag q) else (shutterref16_Do.j0 k a1 (decide (a1 > 14)) x y s o ag q)) = some (r1, r2, r3, r4, r5, r6, r7, r8) := h
 clear h
 have fB := Z H
 clear H
 go_enter Tryd.func27, Tryd.ntmps27
 go_upto_region 1 with (first | ((with_reducible refine gate_dst (N := 2) rfl ?_); (try (refine gate_guard (by rfl) ?_; dsimp only)); refine bx_ 2 24 #[.int .i64 x, .int .i64 y, .slice Q s.length T, .int .i64 o, .bool ag, .bool q] ?_; intro F hg w4 hbox hb; replace aB := Z (ve aB.out hg hb); have g := Z (hbox); have iR := Z (ln_ hg : w.heap.size ≤ F); have bn := Z (ln_ hg : w.heap.size ≤ F); replace HB := Z (below_step bl_ hb); clear hb hbox hg) | ((with_reducible refine gate_dst (N := 4) rfl ?_); (try (refine gate_guard (by rfl) ?_; dsimp only)); refine bx_ 4 24 #[.int .i64 0, .int .i64 0, .slice none 0 0, .int .i64 0, .bool false, .bool false] ?_; intro d hg w5 hbox hb; replace aB := Z (ve aB.out hg hb); have m := Z (hbox); have iS := Z (ln_ hg : w.heap.size ≤ d); have bo := Z (ln_ hg : w.heap.size ≤ d); replace HB := Z (below_step bl_ hb); have l := Z (nl g.out hg); have O := Z (ng g.out hg); replace g := Z (kb g.out hb); clear hb hbox hg))
 (try simp only [Act.put, sA, sB, sC])
 go_cut [16] (fun iZ wc => ∃ (kq : Nat) (bm : Bool), iZ = .bool bm ∧ Aside0 (shutterref16_Do.j0 kq a1 bm x y s o ag q = some (r1, r2, r3, r4, r5, r6, r7, r8)) ∧ Aside0 (kq ≤ k) ∧ Aside0 (Kd.V k35 35 wc w.heap.size (fun k_ => (az k_ ∨ w.heap.size ≤ k_) ∧ k_ ≠ F ∧ k_ ≠ d) (.slice Q s.length T) s) ∧ Aside0 (wc.heap[F]? = some (.cells #[.int .i64 x, .int .i64 y, (.slice Q s.length T), .int .i64 o, .bool ag, .bool q] 24 (0, 0))) ∧ Aside0 (wc.heap[d]? = some (.cells #[.int .i64 0, .int .i64 0, (.slice none 0 0), .int .i64 0, .bool false, .bool false] 24 (0, 0))) ∧ Aside0 (Below w.heap.size w wc))
 case first =>
  have H := fB.out
  clear fB
  by_cases c6 : a1 < 12
  ·rw [if_pos c6] at H
   have a3 : decide (a1 < 12) = true := decide_eq_true c6
   clear c6
   (first | rw [a3] | (simp only [i64_w, i32_w]; rw [a3]) | skip)
   have H' := Z H
   clear H
   go_wp2
   go_meet
   case rel => exact ⟨_, (true), (dn_), H', ⟨by first | omega | exact Nat.le_refl _⟩, ⟨by (with_reducible repeat apply pV); exact Kd.V_mono aB.out (fun _ hk => ⟨hk.1.1, ⟨hk.1.2, hk.2⟩⟩)⟩, ⟨vK g.out⟩, ⟨vK m.out⟩, ⟨bl_⟩⟩
  ·rw [if_neg c6] at H
   have a3 : decide (a1 < 12) = false := decide_eq_false c6
   clear c6
   (first | rw [a3] | (simp only [i64_w, i32_w]; rw [a3]) | skip)
   have H' := Z H
   clear H
   go_wp2
   go_meet
   case rel => exact ⟨_, (decide (a1 > 14)), (dn_), H', ⟨by first | omega | exact Nat.le_refl _⟩, ⟨by (with_reducible repeat apply pV); exact Kd.V_mono aB.out (fun _ hk => ⟨hk.1.1, ⟨hk.1.2, hk.2⟩⟩)⟩, ⟨vK g.out⟩, ⟨vK m.out⟩, ⟨bl_⟩⟩
 case rest =>
  clear fB
  try clear c2
  try clear p2
  try clear c6
  try clear a3
  obtain ⟨kq, bm, rfl, HA, bQ, HO_1043002, g, m, HB⟩ := hcut
  cases kq with
  | zero => exact absurd HA.out (by simp [shutterref16_Do.j0])
  | succ ah =>
   have H := HA.out
   clear HA
   simp only [shutterref16_Do.j0] at H
   by_cases c7 : bm = true
   ·subst c7
    have H1 : (some (x, y, s, o, ag, q, 1, (-1))) = some (r1, r2, r3, r4, r5, r6, r7, r8) := by rw [if_pos rfl] at H; exact H
    clear H
    have H := H1
    clear H1
    simp only [Option.some.injEq, Prod.mk.injEq] at H
    obtain ⟨rfl, rfl, rfl, rfl, rfl, rfl, rfl, rfl⟩ := H
    have kd := l.out
    have ke := O.out
    obtain ⟨gn, go, gp, gq, gr, gs, gL, gM, gN, gO, gP, gQ⟩ := cells6 g.out
    obtain ⟨cW, cX, cY, cZ, c0, c9, eg, eh, ei, ej, ek, el⟩ := cells6 m.out
    go_wp2_with (first | ((with_reducible refine gate_store (t := 24) (p := 4) rfl ?_); refine sx_ 24 4 ((((((wc.setCell ⟨d, 0, none⟩ (.int .i64 x)).setCell ⟨d, 1, none⟩ (.int .i64 y)).setCell ⟨d, 2, none⟩ (.slice Q s.length T)).setCell ⟨d, 3, none⟩ (.int .i64 o)).setCell ⟨d, 4, none⟩ (.bool ag)).setCell ⟨d, 5, none⟩ (.bool q)) ?_; intro cR hw; replace HO_1043002 : Aside0 (Kd.V k35 35 cR w.heap.size (fun k_ => (az k_ ∨ w.heap.size ≤ k_) ∧ k_ ≠ F ∧ k_ ≠ d) (.slice Q s.length T) s) := ⟨(by rw [hw]; exact (by (with_reducible repeat apply pV); exact V_off HO_1043002.out (fun k_ hk => hk.2.2) off2_ (fun _ hk => ⟨hk.1, ⟨hk.2.1, hk.2.2⟩⟩)))⟩; replace g := Z (sM hw (blk_off g.out l.out off2_)); replace m : Aside0 (cR.heap[d]? = some (.cells #[.int .i64 x, .int .i64 y, .slice Q s.length T, .int .i64 o, .bool ag, .bool q] 24 (0, 0))) := ⟨by rw [hw]; exact (put6 m.out)⟩; replace HB : Aside0 (Below w.heap.size w cR) := ⟨by rw [hw]; exact bl_⟩; clear hw))
    refine bodyPost_ret (results_ctt rfl _ _ d 24 #[.int .i64 x, .int .i64 y, .slice Q s.length T, .int .i64 o, .bool ag, .bool q] (0, 0) _ rfl (vK m.out) Tryd.underlying24 rfl (by kernel_rfl)) rfl ?_
    exact ⟨_, er_, by (with_reducible repeat apply pV); exact Kd.V_mono HO_1043002.out (fun _ hk => hk.1), bl_⟩
   ·replace c7 := Bool.eq_false_iff.mpr c7
    subst c7
    have H1 : (if ag = true then (some (x, y, s, o, ag, q, 7, (-1))) else (if a1 = 14 then ((shutterref13_Do.f ah x y s o ag q 111 false false false ([] : List (S128))).bind fun ap => (some (ap.1, ap.2.1, ap.2.2.1, ap.2.2.2.1, ap.2.2.2.2.1, q, 0, (-1)))) else ((shutterref11_Open.f ah x y s o ag q o).bind fun a0 => (if a0 = true then ((shutterref14_Modify.f ah x y s o ag q o).bind fun J => ((shutterref10_Copy.f J.1 J.2.1 J.2.2.1 J.2.2.2.1 J.2.2.2.2.1 J.2.2.2.2.2).bind fun z => ((shutterref14_Line.f ah x y s o ag q o).bind fun a => (shutterref16_Do.l0 ah a1 a 0 x y s o ag q z.1 z.2.1 z.2.2.1 z.2.2.2.1 z.2.2.2.2.1 z.2.2.2.2.2)))) else ((shutterref14_Deny.f x y s o ag q).bind fun I => (some (I.1, I.2.1, I.2.2.1, I.2.2.2.1, I.2.2.2.2.1, I.2.2.2.2.2, 8, o))))))) = some (r1, r2, r3, r4, r5, r6, r7, r8) := by rw [if_neg (show ¬ (false = true) by decide)] at H; exact H
    clear H
    have H := H1
    clear H1
    by_cases ca : ag = true
    ·subst ca
     have H1 : (some (x, y, s, o, true, q, 7, (-1))) = some (r1, r2, r3, r4, r5, r6, r7, r8) := by rw [if_pos rfl] at H; exact H
     clear H
     have H := H1
     clear H1
     simp only [Option.some.injEq, Prod.mk.injEq] at H
     obtain ⟨rfl, rfl, rfl, rfl, rfl, rfl, rfl, rfl⟩ := H
     have jt := l.out
     have jE := O.out
     obtain ⟨da, db, dc, dd, de, df, em, en, eo, ep, eq, er⟩ := cells6 g.out
     obtain ⟨dg, dh, di, dj, dk, dl, es, et, eu, ev, ew, ex⟩ := cells6 m.out
     go_wp2_with (first | ((with_reducible refine gate_store (t := 24) (p := 4) rfl ?_); refine sx_ 24 4 ((((((wc.setCell ⟨d, 0, none⟩ (.int .i64 x)).setCell ⟨d, 1, none⟩ (.int .i64 y)).setCell ⟨d, 2, none⟩ (.slice Q s.length T)).setCell ⟨d, 3, none⟩ (.int .i64 o)).setCell ⟨d, 4, none⟩ (.bool true)).setCell ⟨d, 5, none⟩ (.bool q)) ?_; intro cS hw; replace HO_1043002 : Aside0 (Kd.V k35 35 cS w.heap.size (fun k_ => (az k_ ∨ w.heap.size ≤ k_) ∧ k_ ≠ F ∧ k_ ≠ d) (.slice Q s.length T) s) := ⟨(by rw [hw]; exact (by (with_reducible repeat apply pV); exact V_off HO_1043002.out (fun k_ hk => hk.2.2) off2_ (fun _ hk => ⟨hk.1, ⟨hk.2.1, hk.2.2⟩⟩)))⟩; replace g := Z (sM hw (blk_off g.out l.out off2_)); replace m : Aside0 (cS.heap[d]? = some (.cells #[.int .i64 x, .int .i64 y, .slice Q s.length T, .int .i64 o, .bool true, .bool q] 24 (0, 0))) := ⟨by rw [hw]; exact (put6 m.out)⟩; replace HB : Aside0 (Below w.heap.size w cS) := ⟨by rw [hw]; exact bl_⟩; clear hw))
     refine bodyPost_ret (results_ctt rfl _ _ d 24 #[.int .i64 x, .int .i64 y, .slice Q s.length T, .int .i64 o, .bool true, .bool q] (0, 0) _ rfl (vK m.out) Tryd.underlying24 rfl (by kernel_rfl)) rfl ?_
     exact ⟨_, er_, by (with_reducible repeat apply pV); exact Kd.V_mono HO_1043002.out (fun _ hk => hk.1), bl_⟩
    ·replace ca := Bool.eq_false_iff.mpr ca
     subst ca
     have H1 : (if a1 = 14 then ((shutterref13_Do.f ah x y s o false q 111 false false false ([] : List (S128))).bind fun ap => (some (ap.1, ap.2.1, ap.2.2.1, ap.2.2.2.1, ap.2.2.2.2.1, q, 0, (-1)))) else ((shutterref11_Open.f ah x y s o false q o).bind fun a0 => (if a0 = true then ((shutterref14_Modify.f ah x y s o false q o).bind fun J => ((shutterref10_Copy.f J.1 J.2.1 J.2.2.1 J.2.2.2.1 J.2.2.2.2.1 J.2.2.2.2.2).bind fun z => ((shutterref14_Line.f ah x y s o false q o).bind fun a => (shutterref16_Do.l0 ah a1 a 0 x y s o false q z.1 z.2.1 z.2.2.1 z.2.2.2.1 z.2.2.2.2.1 z.2.2.2.2.2)))) else ((shutterref14_Deny.f x y s o false q).bind fun I => (some (I.1, I.2.1, I.2.2.1, I.2.2.2.1, I.2.2.2.2.1, I.2.2.2.2.2, 8, o)))))) = some (r1, r2, r3, r4, r5, r6, r7, r8) := by rw [if_neg (show ¬ (false = true) by decide)] at H; exact H
     clear H
     have H := H1
     clear H1
     by_cases ba : a1 = 14
     ·rw [if_pos ba] at H
      have ck : (a1 == 14) = true := beq_iff_eq.mpr ba
      have cl : (a1 != 14) = false := bne_eq_false_iff_eq.mpr ba
      clear ba
      replace H := Option.bind_eq_some_iff.mp H
      obtain ⟨⟨ae, ai, U, al, aw, a5⟩, fq, H⟩ := H
      replace H : (some (ae, ai, U, al, aw, q, 0, (-1))) = some (r1, r2, r3, r4, r5, r6, r7, r8) := H
      have iL := Z fq
      clear fq
      simp only [Option.some.injEq, Prod.mk.injEq] at H
      obtain ⟨rfl, rfl, rfl, rfl, rfl, rfl, rfl, rfl⟩ := H
      have ju := l.out
      have jF := O.out
      obtain ⟨dm, dn, dp, dq, dr, dt, ey, ez, eA, eB, eC, eD⟩ := cells6 g.out
      go_wp2_with (first | ((with_reducible refine gate_callee (f := 52) rfl ?_); refine goesL_ (some 25) rfl rfl Tryd.func52 (by kernel_rfl) rfl #[.agg #[.int .i64 x, .int .i64 y, .slice Q s.length T, .int .i64 o, .bool false, .bool q], .agg #[.int .i64 111, .bool false, .bool false, .bool false, .slice none 0 0]] rfl ag_ ?_; (refine (shutterref13_Do.calls ah x y _ _ s o false q 111 false false false _ _ ([] : List (S128)) ae ai U al aw a5 _ ?side1 ?side2 ?side3 ?side4 iL.out).mono ?_); (case side1 => repeat (first | exact (Kd.V_reads' HO_1043002.out).2.2 | (with_reducible apply pC))); (case side2 => exact (Kd.V_reads' HO_1043002.out).2.1); (case side3 => exact Kd.C_nil _ _); (case side4 => exact Nat.le_refl _); rintro e kv ⟨jR, rfl, ay, hb⟩; refine ⟨_, rfl, ?_⟩; replace HO_1043002 := Z (Kd.V_elder' (vV HO_1043002.out) (Kd.R_base ay) hb); have an := Z (Kd.R_lower (Kd.R_newM (M := fun k_ => (w.heap.size ≤ k_)) ay (below_size bl_) (fun k_ h_ => h_)) (below_size bl_)); replace g := Z (kb g.out hb); replace m := Z (kb m.out hb); replace HB := Z (below_step bl_ hb); (try clear hb); (try clear bU); (try clear hk); (try clear hi); (try clear ay)) | ((with_reducible refine gate_dst (N := 7) rfl ?_); (try (refine gate_guard (by rfl) ?_; dsimp only)); refine bx_ 7 24 #[.int .i64 0, .int .i64 0, .slice none 0 0, .int .i64 0, .bool false, .bool false] ?_; intro P hg ja hbox hb; replace HO_1043002 := Z (ve HO_1043002.out hg hb); replace an := Z (rb an.out hb); have ax := Z (hbox); have iT := Z (ln_ hg : w.heap.size ≤ P); have iQ := Z (ln_ hg : w.heap.size ≤ P); replace HB := Z (below_step bl_ hb); have aD := Z (nl g.out hg); have bJ := Z (ng g.out hg); replace g := Z (kb g.out hb); have aF := Z (nl m.out hg); have af := Z (ng m.out hg); replace m := Z (kb m.out hb); clear hb hbox hg; have jv := bJ.out; have jG := aD.out; have jw := af.out; have jH := aF.out; obtain ⟨du, dv, dw, dx, dy, dz, eE, eF, eG, eH, eI, eJ⟩ := cells6 ax.out; obtain ⟨am, aq, hL⟩ := Kd.R_slice an.out; subst hL) | ((with_reducible refine gate_store (t := 24) (p := 7) rfl ?_); refine sx_ 24 7 ((((((ja.setCell ⟨P, 0, none⟩ (.int .i64 ae)).setCell ⟨P, 1, none⟩ (.int .i64 ai)).setCell ⟨P, 2, none⟩ (.slice am U.length aq)).setCell ⟨P, 3, none⟩ (.int .i64 al)).setCell ⟨P, 4, none⟩ (.bool aw)).setCell ⟨P, 5, none⟩ (.bool a5)) ?_; intro bG hw; have B : Aside0 (Kd.V k35 35 bG w.heap.size (fun k_ => (az k_ ∨ w.heap.size ≤ k_) ∧ some k_ ≠ (.slice am U.length aq : Value).ownBlock ∧ k_ ≠ F ∧ k_ ≠ d ∧ k_ ≠ P) (.slice Q s.length T) s) := ⟨(by rw [hw]; exact (by (with_reducible repeat apply pV); exact V_off HO_1043002.out (fun k_ hk => hk.2) off2_ (fun _ hk => ⟨hk.1.1.1, ⟨hk.1.2, ⟨hk.1.1.2.1, ⟨hk.1.1.2.2, hk.2⟩⟩⟩⟩)))⟩; have C : Aside0 (Kd.R k35 35 bG w.heap.size (fun k_ => (w.heap.size ≤ k_)) (.slice am U.length aq) U) := ⟨(by rw [hw]; exact (by (with_reducible repeat apply pR); exact Kd.R_mono (f6R P (Kd.R_types an.out ax.out (by decide)) (fun _ hk => hk.2)) (fun _ hk => hk.1.1)))⟩; have D : Aside0 (bG.heap[F]? = some (.cells #[.int .i64 x, .int .i64 y, .slice Q s.length T, .int .i64 o, .bool false, .bool q] 24 (0, 0))) := ⟨by rw [hw]; exact (blk_off g.out aD.out off2_)⟩; have E : Aside0 (bG.heap[d]? = some (.cells #[.int .i64 0, .int .i64 0, .slice none 0 0, .int .i64 0, .bool false, .bool false] 24 (0, 0))) := ⟨by rw [hw]; exact (blk_off m.out aF.out off2_)⟩; have L : Aside0 (bG.heap[P]? = some (.cells #[.int .i64 ae, .int .i64 ai, .slice am U.length aq, .int .i64 al, .bool aw, .bool a5] 24 (0, 0))) := ⟨by rw [hw]; exact (put6 ax.out)⟩; have W : Aside0 (Below w.heap.size w bG) := ⟨by rw [hw]; exact bl_⟩; clear hw HO_1043002 an g m ax HB; have HO_1043002 := B; have an := C; have g := D; have m := E; have ax := L; have HB := W; clear B C D E L W; obtain ⟨dA, dB, dC, dD, dE, dF, eK, eL, eM, eN, eO, eP⟩ := cells6 g.out; obtain ⟨dG, dH, dI, dJ, dK, dL, eQ, eR, eS, eT, eU, eV⟩ := cells6 ax.out; obtain ⟨dM, dN, dO, dP, dQ, dR, eW, eX, eY, eZ, e0, e1⟩ := cells6 m.out) | ((with_reducible refine gate_store (t := 24) (p := 4) rfl ?_); refine sx_ 24 4 (((((((bG.setCell ⟨P, 5, none⟩ (.bool q)).setCell ⟨d, 0, none⟩ (.int .i64 ae)).setCell ⟨d, 1, none⟩ (.int .i64 ai)).setCell ⟨d, 2, none⟩ (.slice am U.length aq)).setCell ⟨d, 3, none⟩ (.int .i64 al)).setCell ⟨d, 4, none⟩ (.bool aw)).setCell ⟨d, 5, none⟩ (.bool q)) ?_; intro bV hw; have B : Aside0 (Kd.V k35 35 bV w.heap.size (fun k_ => (az k_ ∨ w.heap.size ≤ k_) ∧ some k_ ≠ (.slice am U.length aq : Value).ownBlock ∧ k_ ≠ F ∧ k_ ≠ d ∧ k_ ≠ P) (.slice Q s.length T) s) := ⟨(by rw [hw]; exact (by (with_reducible repeat apply pV); exact Kd.V_mono (f6V d (Kd.V_far (p := ⟨P, 5, none⟩) (Kd.V_mono (Kd.V_mono HO_1043002.out (fun k_ hk => (⟨hk, hk.2.2.2.2⟩ : _ ∧ k_ ≠ P))) (fun k_ hk => (⟨hk, hk.1.2.2.2.1⟩ : _ ∧ k_ ≠ d))) (fun _ hk => hk.1.2) (.bool q)) (fun _ hk => hk.2)) (fun _ hk => ⟨hk.1.1.1, ⟨hk.1.1.2.1, ⟨hk.1.1.2.2.1, ⟨hk.1.1.2.2.2.1, hk.1.1.2.2.2.2⟩⟩⟩⟩)))⟩; have C : Aside0 (Kd.R k35 35 bV w.heap.size (fun k_ => (w.heap.size ≤ k_)) (.slice am U.length aq) U) := ⟨(by rw [hw]; exact (by (with_reducible repeat apply pR); exact Kd.R_mono (f6R d (Kd.R_far (p := ⟨P, 5, none⟩) (Kd.R_types (Kd.R_types an.out ax.out (by decide)) m.out (by decide)) (fun _ hk => hk.1.2) (.bool q)) (fun _ hk => hk.2)) (fun _ hk => hk.1.1)))⟩; have D : Aside0 (bV.heap[F]? = some (.cells #[.int .i64 x, .int .i64 y, .slice Q s.length T, .int .i64 o, .bool false, .bool q] 24 (0, 0))) := ⟨(by rw [hw]; exact (by (with_reducible repeat apply pK); refine blk_far ?_ l.out _; (with_reducible repeat apply pK); refine blk_far ?_ l.out _; (with_reducible repeat apply pK); refine blk_far ?_ l.out _; (with_reducible repeat apply pK); refine blk_far ?_ l.out _; (with_reducible repeat apply pK); refine blk_far ?_ l.out _; (with_reducible repeat apply pK); refine blk_far ?_ l.out _; (with_reducible repeat apply pK); refine blk_far ?_ aD.out _; (with_reducible repeat apply pK); exact g.out))⟩; have E : Aside0 (bV.heap[d]? = some (.cells #[.int .i64 ae, .int .i64 ai, .slice am U.length aq, .int .i64 al, .bool aw, .bool q] 24 (0, 0))) := ⟨(by rw [hw]; exact (by (with_reducible repeat apply pK); refine blk_put (cs := #[.int .i64 ae, .int .i64 ai, .slice am U.length aq, .int .i64 al, .bool aw, .bool false]) ?_ 5 _ rfl; (with_reducible repeat apply pK); refine blk_put (cs := #[.int .i64 ae, .int .i64 ai, .slice am U.length aq, .int .i64 al, .bool false, .bool false]) ?_ 4 _ rfl; (with_reducible repeat apply pK); refine blk_put (cs := #[.int .i64 ae, .int .i64 ai, .slice am U.length aq, .int .i64 0, .bool false, .bool false]) ?_ 3 _ rfl; (with_reducible repeat apply pK); refine blk_put (cs := #[.int .i64 ae, .int .i64 ai, .slice none 0 0, .int .i64 0, .bool false, .bool false]) ?_ 2 _ rfl; (with_reducible repeat apply pK); refine blk_put (cs := #[.int .i64 ae, .int .i64 0, .slice none 0 0, .int .i64 0, .bool false, .bool false]) ?_ 1 _ rfl; (with_reducible repeat apply pK); refine blk_put (cs := #[.int .i64 0, .int .i64 0, .slice none 0 0, .int .i64 0, .bool false, .bool false]) ?_ 0 _ rfl; (with_reducible repeat apply pK); refine blk_far ?_ aF.out _; (with_reducible repeat apply pK); exact m.out))⟩; have L : Aside0 (bV.heap[P]? = some (.cells #[.int .i64 ae, .int .i64 ai, .slice am U.length aq, .int .i64 al, .bool aw, .bool q] 24 (0, 0))) := ⟨(by rw [hw]; exact (by (with_reducible repeat apply pK); refine blk_far ?_ af.out _; (with_reducible repeat apply pK); refine blk_far ?_ af.out _; (with_reducible repeat apply pK); refine blk_far ?_ af.out _; (with_reducible repeat apply pK); refine blk_far ?_ af.out _; (with_reducible repeat apply pK); refine blk_far ?_ af.out _; (with_reducible repeat apply pK); refine blk_far ?_ af.out _; (with_reducible repeat apply pK); refine blk_put (cs := #[.int .i64 ae, .int .i64 ai, .slice am U.length aq, .int .i64 al, .bool aw, .bool a5]) ?_ 5 _ rfl; (with_reducible repeat apply pK); exact ax.out))⟩; have W : Aside0 (Below w.heap.size w bV) := ⟨by rw [hw]; exact bl_⟩; clear hw HO_1043002 an g m ax HB; have HO_1043002 := B; have an := C; have g := D; have m := E; have ax := L; have HB := W; clear B C D E L W))
      refine bodyPost_ret (results_ctt rfl _ _ d 24 #[.int .i64 ae, .int .i64 ai, .slice am U.length aq, .int .i64 al, .bool aw, .bool q] (0, 0) _ rfl (vK m.out) Tryd.underlying24 rfl (by kernel_rfl)) rfl ?_
      exact ⟨_, er_, Kd.V_mono (Kd.R_V (by (with_reducible repeat apply pR); exact an.out)) (fun k_ hk => by first | exact ⟨(.inr (hk.1)), hk.2⟩ | exact (.inr (hk))), bl_⟩
     ·rw [if_neg ba] at H
      have ck : (a1 == 14) = false := beq_eq_false_iff_ne.mpr ba
      have cl : (a1 != 14) = true := bne_iff_ne.mpr ba
      replace H := Option.bind_eq_some_iff.mp H
      obtain ⟨a0, fr, H⟩ := H
      replace H : (if a0 = true then ((shutterref14_Modify.f ah x y s o false q o).bind fun J => ((shutterref10_Copy.f J.1 J.2.1 J.2.2.1 J.2.2.2.1 J.2.2.2.2.1 J.2.2.2.2.2).bind fun z => ((shutterref14_Line.f ah x y s o false q o).bind fun a => (shutterref16_Do.l0 ah a1 a 0 x y s o false q z.1 z.2.1 z.2.2.1 z.2.2.2.1 z.2.2.2.2.1 z.2.2.2.2.2)))) else ((shutterref14_Deny.f x y s o false q).bind fun I => (some (I.1, I.2.1, I.2.2.1, I.2.2.2.1, I.2.2.2.2.1, I.2.2.2.2.2, 8, o)))) = some (r1, r2, r3, r4, r5, r6, r7, r8) := H
      have hF := Z fr
      clear fr
      by_cases cb : a0 = true
      ·subst cb
       have H1 : ((shutterref14_Modify.f ah x y s o false q o).bind fun J => ((shutterref10_Copy.f J.1 J.2.1 J.2.2.1 J.2.2.2.1 J.2.2.2.2.1 J.2.2.2.2.2).bind fun z => ((shutterref14_Line.f ah x y s o false q o).bind fun a => (shutterref16_Do.l0 ah a1 a 0 x y s o false q z.1 z.2.1 z.2.2.1 z.2.2.2.1 z.2.2.2.2.1 z.2.2.2.2.2)))) = some (r1, r2, r3, r4, r5, r6, r7, r8) := by rw [if_pos rfl] at H; exact H
       clear H
       have H := H1
       clear H1
       replace H := Option.bind_eq_some_iff.mp H
       obtain ⟨⟨bh, bi, aC, bj, bk, bl⟩, fs, H⟩ := H
       replace H : ((shutterref10_Copy.f bh bi aC bj bk bl).bind fun z => ((shutterref14_Line.f ah x y s o false q o).bind fun a => (shutterref16_Do.l0 ah a1 a 0 x y s o false q z.1 z.2.1 z.2.2.1 z.2.2.2.1 z.2.2.2.2.1 z.2.2.2.2.2))) = some (r1, r2, r3, r4, r5, r6, r7, r8) := H
       have iM := Z fs
       clear fs
       replace H := Option.bind_eq_some_iff.mp H
       obtain ⟨⟨Y, aa, aA, ab, ac, ad⟩, ft, H⟩ := H
       replace H : ((shutterref14_Line.f ah x y s o false q o).bind fun a => (shutterref16_Do.l0 ah a1 a 0 x y s o false q Y aa aA ab ac ad)) = some (r1, r2, r3, r4, r5, r6, r7, r8) := H
       have iN := Z ft
       clear ft
       replace H := Option.bind_eq_some_iff.mp H
       obtain ⟨a, fu, H⟩ := H
       replace H : (shutterref16_Do.l0 ah a1 a 0 x y s o false q Y aa aA ab ac ad) = some (r1, r2, r3, r4, r5, r6, r7, r8) := H
       have iO := Z fu
       clear fu
       have H' := Z H
       clear H
       have jx := l.out
       have jI := O.out
       obtain ⟨dS, dT, dU, dV, dW, dX, e2, e3, e4, e5, e6, e7⟩ := cells6 g.out
       go_wp2_with (first | ((with_reducible refine gate_callee (f := 22) rfl ?_); refine goesL_ (some 33) rfl rfl Tryd.func22 (by kernel_rfl) rfl #[.agg #[.int .i64 x, .int .i64 y, .slice Q s.length T, .int .i64 o, .bool false, .bool q], .int .i64 o] rfl ag_ ?_; (with_reducible refine (shutterref11_Open.calls ah x y _ _ s o false q o true _ ?side1 ?side2 hF.out).mono ?_); (case side1 => repeat (first | exact (Kd.V_reads' HO_1043002.out).2.2 | (with_reducible apply pC))); (case side2 => exact (Kd.V_reads' HO_1043002.out).2.1); rintro e kw ⟨rfl, hb⟩; refine ⟨_, rfl, ?_⟩; replace HO_1043002 := Z (vb HO_1043002.out hb); replace g := Z (kb g.out hb); replace m := Z (kb m.out hb); replace HB := Z (below_step bl_ hb); (try clear hb); (try clear bU); (try clear hk); (try clear hi); obtain ⟨dY, dZ, d0, d1, d2, d3, e8, e9, fa, fb, fc, fd⟩ := cells6 g.out) | ((with_reducible refine gate_callee (f := 37) rfl ?_); refine goesL_ (some 42) rfl rfl Tryd.func37 (by kernel_rfl) rfl #[.agg #[.int .i64 x, .int .i64 y, .slice Q s.length T, .int .i64 o, .bool false, .bool q], .int .i64 o] rfl ag_ ?_; (with_reducible refine (shutterref14_Modify.calls ah x y _ _ s o false q o bh bi aC bj bk bl _ ?side1 ?side2 iM.out).mono ?_); (case side1 => repeat (first | exact (Kd.V_reads' HO_1043002.out).2.2 | (with_reducible apply pC))); (case side2 => exact (Kd.V_reads' HO_1043002.out).2.1); rintro e kx ⟨jT, rfl, ay, hb⟩; refine ⟨_, rfl, ?_⟩; replace HO_1043002 := Z (Kd.V_elder' (vV HO_1043002.out) (Kd.R_base ay) hb); have X := Z (Kd.R_lower (Kd.R_newM (M := fun k_ => (w.heap.size ≤ k_)) ay (below_size bl_) (fun k_ h_ => h_)) (below_size bl_)); replace g := Z (kb g.out hb); replace m := Z (kb m.out hb); replace HB := Z (below_step bl_ hb); (try clear hb); (try clear bU); (try clear hk); (try clear hi); (try clear ay); obtain ⟨bX, bY, hM⟩ := Kd.R_slice X.out; subst hM) | ((with_reducible refine gate_callee (f := 23) rfl ?_); refine goesL_ (some 43) rfl rfl Tryd.func23 (by kernel_rfl) rfl #[.agg #[.int .i64 bh, .int .i64 bi, .slice bX aC.length bY, .int .i64 bj, .bool bk, .bool bl]] rfl ag_ ?_; (with_reducible refine (shutterref10_Copy.calls bh bi _ _ aC bj bk bl Y aa aA ab ac ad _ ?side1 ?side2 iN.out).mono ?_); (case side1 => repeat (first | exact (Kd.R_reads' X.out).2.2 | (with_reducible apply pC))); (case side2 => exact (Kd.R_reads' X.out).2.1); rintro e ky ⟨jU, rfl, ay, hb⟩; refine ⟨_, rfl, ?_⟩; replace HO_1043002 := Z (Kd.V_elder' (vV HO_1043002.out) (Kd.R_base ay) hb); have ao := Z (Kd.R_lower (Kd.R_new' (Kd.R_newM (M := fun k_ => (w.heap.size ≤ k_)) ay (below_size bl_) (fun k_ h_ => h_)) (Kd.R_lt (by (with_reducible repeat apply pR); exact X.out))) (below_size bl_)); replace X := Z (Kd.R_elder' (by (with_reducible repeat apply pR); exact X.out) (Kd.R_base ay) hb); replace g := Z (kb g.out hb); replace m := Z (kb m.out hb); replace HB := Z (below_step bl_ hb); (try clear hb); (try clear bU); (try clear hk); (try clear hi); (try clear ay)) | ((with_reducible refine gate_dst (N := 8) rfl ?_); (try (refine gate_guard (by rfl) ?_; dsimp only)); refine bx_ 8 24 #[.int .i64 0, .int .i64 0, .slice none 0 0, .int .i64 0, .bool false, .bool false] ?_; intro A hg jb hbox hb; replace HO_1043002 := Z (ve HO_1043002.out hg hb); replace X := Z (rb X.out hb); replace ao := Z (rb ao.out hb); have r := Z (hbox); have iU := Z (ln_ hg : w.heap.size ≤ A); have bp := Z (ln_ hg : w.heap.size ≤ A); replace HB := Z (below_step bl_ hb); have aE := Z (nl g.out hg); have a2 := Z (ng g.out hg); replace g := Z (kb g.out hb); have aG := Z (nl m.out hg); have aH := Z (ng m.out hg); replace m := Z (kb m.out hb); clear hb hbox hg; have jy := a2.out; have jJ := aE.out; have jz := aH.out; have jK := aG.out; obtain ⟨d4, d5, d6, d7, d8, d9, fe, ff, fg, fh, fi, fj⟩ := cells6 r.out; obtain ⟨a6, a8, hN⟩ := Kd.R_slice ao.out; subst hN) | ((with_reducible refine gate_store (t := 24) (p := 8) rfl ?_); refine sx_ 24 8 ((((((jb.setCell ⟨A, 0, none⟩ (.int .i64 Y)).setCell ⟨A, 1, none⟩ (.int .i64 aa)).setCell ⟨A, 2, none⟩ (.slice a6 aA.length a8)).setCell ⟨A, 3, none⟩ (.int .i64 ab)).setCell ⟨A, 4, none⟩ (.bool ac)).setCell ⟨A, 5, none⟩ (.bool ad)) ?_; intro bH hw; have B : Aside0 (Kd.V k35 35 bH w.heap.size (fun k_ => (az k_ ∨ w.heap.size ≤ k_) ∧ some k_ ≠ (.slice bX aC.length bY : Value).ownBlock ∧ some k_ ≠ (.slice a6 aA.length a8 : Value).ownBlock ∧ k_ ≠ F ∧ k_ ≠ d ∧ k_ ≠ A) (.slice Q s.length T) s) := ⟨(by rw [hw]; exact (by (with_reducible repeat apply pV); exact V_off HO_1043002.out (fun k_ hk => hk.2) off2_ (fun _ hk => ⟨hk.1.1.1.1, ⟨hk.1.1.2, ⟨hk.1.2, ⟨hk.1.1.1.2.1, ⟨hk.1.1.1.2.2, hk.2⟩⟩⟩⟩⟩)))⟩; have C : Aside0 (Kd.R k35 35 bH w.heap.size (fun k_ => (w.heap.size ≤ k_) ∧ some k_ ≠ (.slice a6 aA.length a8 : Value).ownBlock) (.slice bX aC.length bY) aC) := ⟨(by rw [hw]; exact (by (with_reducible repeat apply pR); exact Kd.R_mono (R_off X.out r.out (by decide) off2_) (fun _ hk => ⟨hk.1.1, hk.2⟩)))⟩; have D : Aside0 (Kd.R k35 35 bH w.heap.size (fun k_ => (w.heap.size ≤ k_) ∧ some k_ ≠ (.slice bX aC.length bY : Value).ownBlock) (.slice a6 aA.length a8) aA) := ⟨(by rw [hw]; exact (by (with_reducible repeat apply pR); exact Kd.R_mono (R_off ao.out r.out (by decide) off2_) (fun _ hk => ⟨hk.1.1, hk.2⟩)))⟩; have E : Aside0 (bH.heap[F]? = some (.cells #[.int .i64 x, .int .i64 y, .slice Q s.length T, .int .i64 o, .bool false, .bool q] 24 (0, 0))) := ⟨by rw [hw]; exact (blk_off g.out aE.out off2_)⟩; have L : Aside0 (bH.heap[d]? = some (.cells #[.int .i64 0, .int .i64 0, .slice none 0 0, .int .i64 0, .bool false, .bool false] 24 (0, 0))) := ⟨by rw [hw]; exact (blk_off m.out aG.out off2_)⟩; have W : Aside0 (bH.heap[A]? = some (.cells #[.int .i64 Y, .int .i64 aa, .slice a6 aA.length a8, .int .i64 ab, .bool ac, .bool ad] 24 (0, 0))) := ⟨by rw [hw]; exact (put6 r.out)⟩; have ak : Aside0 (Below w.heap.size w bH) := ⟨by rw [hw]; exact bl_⟩; clear hw HO_1043002 X ao g m r HB; have HO_1043002 := B; have X := C; have ao := D; have g := E; have m := L; have r := W; have HB := ak; clear B C D E L W ak; obtain ⟨ea, eb, ec, ed, ee, ef, fk, fl, fm, fn, fo, fp⟩ := cells6 g.out) | ((with_reducible refine gate_callee (f := 32) rfl ?_); refine goesL_ (some 47) rfl rfl Tryd.func32 (by kernel_rfl) rfl #[.agg #[.int .i64 x, .int .i64 y, .slice Q s.length T, .int .i64 o, .bool false, .bool q], .int .i64 o] rfl ag_ ?_; (with_reducible refine (shutterref14_Line.calls ah x y _ _ s o false q o a _ ?side1 ?side2 iO.out).mono ?_); (case side1 => repeat (first | exact (Kd.V_reads' HO_1043002.out).2.2 | (with_reducible apply pC))); (case side2 => exact (Kd.V_reads' HO_1043002.out).2.1); rintro e kz ⟨cQ, rfl, ay, hb⟩; refine ⟨_, rfl, ?_⟩; replace HO_1043002 := Z (Kd.V_elder' (vV HO_1043002.out) (Kd.R_base ay) hb); replace X := Z (rb X.out hb); replace ao := Z (rb ao.out hb); have fF := Z (Kd.R_lower (Kd.R_newM (M := fun k_ => (w.heap.size ≤ k_)) ay (below_size bl_) (fun k_ h_ => h_)) (below_size bl_)); replace g := Z (kb g.out hb); replace m := Z (kb m.out hb); replace r := Z (kb r.out hb); replace HB := Z (below_step bl_ hb); (try clear hb); (try clear bU); (try clear hk); (try clear hi); (try clear ay)))
       go_loopg [10] ah (fun kq iY w' => ∃ (c : Int) (u : List (S35)) (b : List (S35)) (u1043002 : Value) (u1079002 : Value), iY = .int .i64 c ∧ Aside0 (shutterref16_Do.l0 kq a1 a c x y u o false q Y aa b ab ac ad = some (r1, r2, r3, r4, r5, r6, r7, r8)) ∧ Aside0 (kq ≤ ah) ∧ Aside0 (Kd.R (Kd.int .i64) 3 w' w.heap.size (fun k_ => (w.heap.size ≤ k_)) cQ a) ∧ Aside0 (Kd.V k35 35 w' w.heap.size (fun k_ => (az k_ ∨ w.heap.size ≤ k_) ∧ some k_ ≠ (cQ : Value).ownBlock ∧ some k_ ≠ (u1079002 : Value).ownBlock ∧ k_ ≠ F ∧ k_ ≠ d ∧ k_ ≠ A) u1043002 u) ∧ Aside0 (Kd.R k35 35 w' w.heap.size (fun k_ => (w.heap.size ≤ k_)) u1079002 b) ∧ Aside0 (w'.heap[F]? = some (.cells #[.int .i64 x, .int .i64 y, u1043002, .int .i64 o, .bool false, .bool q] 24 (0, 0))) ∧ Aside0 (w'.heap[d]? = some (.cells #[.int .i64 0, .int .i64 0, (.slice none 0 0), .int .i64 0, .bool false, .bool false] 24 (0, 0))) ∧ Aside0 (w'.heap[A]? = some (.cells #[.int .i64 Y, .int .i64 aa, u1079002, .int .i64 ab, .bool ac, .bool ad] 24 (0, 0))) ∧ Aside0 (Below w.heap.size w w'))
       case atStart => exact ⟨(0), (s), (aA), (.slice Q s.length T), (.slice a6 aA.length a8), (dn_), H', ⟨Nat.le_refl _⟩, ⟨by (with_reducible repeat apply pR); exact Kd.R_mono fF.out (fun _ hk => hk.1)⟩, ⟨by (with_reducible repeat apply pV); exact Kd.V_mono HO_1043002.out (fun _ hk => ⟨hk.1.1, ⟨hk.2, ⟨hk.1.2.2.1, ⟨hk.1.2.2.2.1, ⟨hk.1.2.2.2.2.1, hk.1.2.2.2.2.2⟩⟩⟩⟩⟩)⟩, ⟨by (with_reducible repeat apply pR); exact Kd.R_mono ao.out (fun _ hk => hk.1)⟩, ⟨vK g.out⟩, ⟨vK m.out⟩, ⟨vK r.out⟩, ⟨bl_⟩⟩
       case round =>
        clear H'
        try clear c1
        try clear c2
        try clear p2
        try clear c3
        try clear c4
        try clear c5
        try clear c6
        try clear a3
        try clear c7
        try clear c8
        try clear ca
        try clear kl
        try clear ba
        try clear ck
        try clear cl
        try clear km
        try clear kn
        try clear ko
        try clear c24
        try clear kp
        try clear kr
        try clear cb
        try clear ks
        try clear kt
        try clear ku
        try clear cW
        try clear cX
        try clear cY
        try clear cZ
        try clear c0
        try clear c9
        try clear da
        try clear db
        try clear dc
        try clear dd
        try clear de
        try clear df
        try clear dg
        try clear dh
        try clear di
        try clear dj
        try clear dk
        try clear dl
        try clear dm
        try clear dn
        try clear dp
        try clear dq
        try clear dr
        try clear dt
        try clear du
        try clear dv
        try clear dw
        try clear dx
        try clear dy
        try clear dz
        try clear dA
        try clear dB
        try clear dC
        try clear dD
        try clear dE
        try clear dF
        try clear dG
        try clear dH
        try clear dI
        try clear dJ
        try clear dK
        try clear dL
        try clear dM
        try clear dN
        try clear dO
        try clear dP
        try clear dQ
        try clear dR
        try clear dS
        try clear dT
        try clear dU
        try clear dV
        try clear dW
        try clear dX
        try clear dY
        try clear dZ
        try clear d0
        try clear d1
        try clear d2
        try clear d3
        try clear d4
        try clear d5
        try clear d6
        try clear d7
        try clear d8
        try clear d9
        try clear ea
        try clear eb
        try clear ec
        try clear ed
        try clear ee
        try clear ef
        try clear gn
        try clear go
        try clear gp
        try clear gq
        try clear gr
        try clear gs
        try clear eg
        try clear eh
        try clear ei
        try clear ej
        try clear ek
        try clear el
        try clear em
        try clear en
        try clear eo
        try clear ep
        try clear eq
        try clear er
        try clear es
        try clear et
        try clear eu
        try clear ev
        try clear ew
        try clear ex
        try clear ey
        try clear ez
        try clear eA
        try clear eB
        try clear eC
        try clear eD
        try clear eE
        try clear eF
        try clear eG
        try clear eH
        try clear eI
        try clear eJ
        try clear eK
        try clear eL
        try clear eM
        try clear eN
        try clear eO
        try clear eP
        try clear eQ
        try clear eR
        try clear eS
        try clear eT
        try clear eU
        try clear eV
        try clear eW
        try clear eX
        try clear eY
        try clear eZ
        try clear e0
        try clear e1
        try clear e2
        try clear e3
        try clear e4
        try clear e5
        try clear e6
        try clear e7
        try clear e8
        try clear e9
        try clear fa
        try clear fb
        try clear fc
        try clear fd
        try clear fe
        try clear ff
        try clear fg
        try clear fh
        try clear fi
        try clear fj
        try clear fk
        try clear fl
        try clear fm
        try clear fn
        try clear fo
        try clear fp
        try clear gL
        try clear gM
        try clear gN
        try clear gO
        try clear gP
        try clear gQ
        try clear p2
        obtain ⟨c, u, b, u1043002, u1079002, rfl, HA, bR, HO_9, HO_1043002, HO_1079002, g, m, r, HB⟩ := hrel
        cases gk with
        | zero => exact absurd HA.out (by simp [shutterref16_Do.l0])
        | succ k2 =>
         have H := HA.out
         clear HA
         simp only [shutterref16_Do.l0] at H
         by_cases bS : c < (a.length : Int)
         ·rw [if_pos bS] at H
          have hh : decide (c < (a.length : Int)) = true := decide_eq_true bS
          clear bS
          by_cases br : a1 = 12
          ·rw [if_pos br] at H
           have hj : (a1 == 12) = true := beq_iff_eq.mpr br
           have hl : (a1 != 12) = false := bne_eq_false_iff_eq.mpr br
           clear br
           by_cases bT : (wrap64 (c + 1)) < (a.length : Int)
           ·rw [if_pos bT] at H
            have cm : decide ((wrap64 (c + 1)) < (a.length : Int)) = true := decide_eq_true bT
            clear bT
            by_cases cn : 0 ≤ c
            ·rw [if_pos cn] at H
             have jd : decide (0 ≤ c) = true := decide_eq_true cn
             clear cn
             obtain ⟨G, a4⟩ : ∃ j_ : Int, (wrap64 (c + 1)) = j_ := ⟨_, rfl⟩
             replace H : (if 0 ≤ (G) then (if 0 ≤ (rd a (G)) then (if (rd a (G)) < (u.length : Int) then (if 0 ≤ (rd a c) then (if (rd a c) < (b.length : Int) then (shutterref16_Do.l0 k2 a1 a G x y u o false q Y aa (b.set ((rd a c) : Int).toNat (⟨(rd_T35 b (rd a c)).f0, (⟨(rd_T35 b (rd a c)).f1.f0, (rd_T35 b (rd a c)).f1.f1, (rd_T35 b (rd a c)).f1.f2, (rd_T35 b (rd a c)).f1.f3⟩ : S33), (rd_T35 u (rd a (G))).f2⟩ : S35)) ab ac ad) else (none)) else (none)) else (none)) else (none)) else (none)) = some (r1, r2, r3, r4, r5, r6, r7, r8) := by first | (rw [a4] at H; exact H) | (simp only [a4] at H ⊢; exact H)
             (try rw [a4] at cm)
             have iX : (IntKind.i64.wrap (c + 1)) = G := (i64_w _).trans a4
             by_cases co : 0 ≤ (G)
             ·rw [if_pos co] at H
              have je : decide (0 ≤ (G)) = true := decide_eq_true co
              clear co
              by_cases cp : 0 ≤ (rd a (G))
              ·rw [if_pos cp] at H
               have jf : decide (0 ≤ (rd a (G))) = true := decide_eq_true cp
               clear cp
               by_cases cq : (rd a (G)) < (u.length : Int)
               ·rw [if_pos cq] at H
                have jg : decide ((rd a (G)) < (u.length : Int)) = true := decide_eq_true cq
                clear cq
                by_cases cr : 0 ≤ (rd a c)
                ·rw [if_pos cr] at H
                 have jh : decide (0 ≤ (rd a c)) = true := decide_eq_true cr
                 clear cr
                 by_cases ct : (rd a c) < (b.length : Int)
                 ·rw [if_pos ct] at H
                  have ji : decide ((rd a c) < (b.length : Int)) = true := decide_eq_true ct
                  clear ct
                  obtain ⟨cT, aW⟩ : ∃ y_ : List (S35), y_ = (b.set ((rd a c) : Int).toNat (⟨(rd_T35 b (rd a c)).f0, (⟨(rd_T35 b (rd a c)).f1.f0, (rd_T35 b (rd a c)).f1.f1, (rd_T35 b (rd a c)).f1.f2, (rd_T35 b (rd a c)).f1.f3⟩ : S33), (rd_T35 u (rd a (G))).f2⟩ : S35)) := ⟨_, rfl⟩
                  replace H : (shutterref16_Do.l0 k2 a1 a G x y u o false q Y aa cT ab ac ad) = some (r1, r2, r3, r4, r5, r6, r7, r8) := by first | (rw [aW]; with_reducible exact H) | (have aV := (Option.bind_some _ _).symm.trans H; rw [aW]; with_reducible exact aV) | (have aV := (Option.bind_some _ _).symm.trans H; with_reducible exact aV) | with_reducible exact H | (rw [aW]; exact H) | exact H
                  have fJ := Z aW
                  clear aW
                  have H' := Z H
                  clear H
                  obtain ⟨jV, j9, hO⟩ := Kd.R_slice HO_9.out
                  subst hO
                  try go_wp2
                  have B := Z (Kd.R_drew HO_9.out)
                  have C := Z (Kd.V_drew HO_1043002.out)
                  have D := Z (Kd.R_drew HO_1079002.out)
                  have E := Z (blk_drew g.out)
                  have L := Z (blk_drew m.out)
                  have W := Z (blk_drew r.out)
                  have ak := Z (below_drew1 HB.out)
                  clear HO_9
                  clear HO_1043002
                  clear HO_1079002
                  clear g
                  clear m
                  clear r
                  clear HB
                  have HO_9 := B
                  have HO_1043002 := C
                  have HO_1079002 := D
                  have g := E
                  have m := L
                  have r := W
                  have HB := ak
                  clear B C D E L W ak
                  have bZ : 0 ≤ (c : Int) := od_
                  have b4 : c < (a.length : Int) := od_
                  obtain ⟨bq, hm, bs⟩ := Kd.at_int (Kd.R_reads' HO_9.out).2.2 c bZ b4
                  cases hm
                  replace bZ := eq_true bZ
                  replace b4 := eq_true b4
                  have b0 : 0 ≤ ((G) : Int) := od_
                  have b5 : (G) < (a.length : Int) := od_
                  obtain ⟨fM, hp, bt⟩ := Kd.at_int (Kd.R_reads' HO_9.out).2.2 (G) b0 b5
                  obtain rfl : bq = fM := (by injection hp)
                  replace b0 := eq_true b0
                  replace b5 := eq_true b5
                  obtain ⟨jW, fQ, fW⟩ := Kd.V_slice HO_1043002.out
                  (first | subst fW | (injection fW with cc ga cd; have gb := cc.symm; have gc := cd.symm; clear cc ga cd; subst gb; subst gc))
                  have b1 : 0 ≤ ((rd a (G)) : Int) := od_
                  have b6 : (rd a (G)) < (u.length : Int) := od_
                  obtain ⟨aj, hq, bu, bw, bx, bz, bA, bB⟩ := at_T35 (Kd.V_reads' HO_1043002.out).2.2 (rd a (G)) b1 b6
                  cases hq
                  replace b1 := eq_true b1
                  replace b6 := eq_true b6
                  have p62 : 0 ≤ ((rd a c) : Int) := od_
                  have hc : ((rd a c) : Int) < ((b.length : Int) : Int) := od_
                  obtain ⟨ar, fP, fV, gd, hT, j6, fC⟩ := Kd.R_form HO_1079002.out (by omega)
                  (first | cases fV | (injection fV with ea_ en_ ec_; (first | subst ea_ | (injection ea_ with ea_; subst ea_)); subst ec_; clear en_))
                  have hH := Z gd
                  have fy := Z fC
                  clear gd hT fC
                  obtain ⟨jZ, hu, gg, aP, aS⟩ := Kd.R_elem HO_1079002.out z35 ((rd a c) : Int) p62 hc
                  obtain rfl := k35_openM gg
                  have gR : World.cell? _ ⟨ar, ((rd a c) : Int).toNat * 6, none⟩ = some (.bool ((rd_T35 b (rd a c)).f0)) := aP 0 _ rfl
                  have gS : World.cell? _ ⟨ar, ((rd a c) : Int).toNat * 6 + 1, none⟩ = some (.bool ((rd_T35 b (rd a c)).f1.f0)) := aP 1 _ rfl
                  have gT : World.cell? _ ⟨ar, ((rd a c) : Int).toNat * 6 + 2, none⟩ = some (.bool ((rd_T35 b (rd a c)).f1.f1)) := aP 2 _ rfl
                  have gU : World.cell? _ ⟨ar, ((rd a c) : Int).toNat * 6 + 3, none⟩ = some (.int .i64 ((rd_T35 b (rd a c)).f1.f2)) := aP 3 _ rfl
                  have gV : World.cell? _ ⟨ar, ((rd a c) : Int).toNat * 6 + 4, none⟩ = some (.bool ((rd_T35 b (rd a c)).f1.f3)) := aP 4 _ rfl
                  have gW : World.cell? _ ⟨ar, ((rd a c) : Int).toNat * 6 + 5, none⟩ = some (.int .u8 ((rd_T35 b (rd a c)).f2)) := aP 5 _ rfl
                  have gt : World.frozen? _ ⟨ar, ((rd a c) : Int).toNat * 6, none⟩ = false := aS 0
                  have gu : World.frozen? _ ⟨ar, ((rd a c) : Int).toNat * 6 + 1, none⟩ = false := aS 1
                  have gv : World.frozen? _ ⟨ar, ((rd a c) : Int).toNat * 6 + 2, none⟩ = false := aS 2
                  have gw : World.frozen? _ ⟨ar, ((rd a c) : Int).toNat * 6 + 3, none⟩ = false := aS 3
                  have gx : World.frozen? _ ⟨ar, ((rd a c) : Int).toNat * 6 + 4, none⟩ = false := aS 4
                  have gy : World.frozen? _ ⟨ar, ((rd a c) : Int).toNat * 6 + 5, none⟩ = false := aS 5
                  clear hu aP aS gg
                  replace p62 := eq_true p62
                  replace hc := eq_true hc
                  obtain ⟨j1, cD, gh, cA, hy⟩ := Kd.R_elem HO_1079002.out z35 ((rd a c) : Int) (od_) (by have h_ : ((rd a c) : Int) < ((b.length : Int) : Int) := od_; first | exact h_ | (have e_ := (Kd.R_reads' HO_1079002.out).1; omega) | simpa using h_)
                  obtain rfl := k35_openM gh
                  have ch := (Kd.R_seg HO_1079002.out ((rd a c) : Int) (od_) (by have h_ : ((rd a c) : Int) < ((b.length : Int) : Int) := od_; first | exact h_ | (have e_ := (Kd.R_reads' HO_1079002.out).1; omega) | simpa using h_) (seg := [.int .u8 ((rd_T35 u (rd a (G))).f2)]) (j := 5) cD cA (show 6 ≤ 6 from by decide) (x' := (⟨(rd_T35 b (rd a c)).f0, (⟨(rd_T35 b (rd a c)).f1.f0, (rd_T35 b (rd a c)).f1.f1, (rd_T35 b (rd a c)).f1.f2, (rd_T35 b (rd a c)).f1.f3⟩ : S33), (rd_T35 u (rd a (G))).f2⟩ : S35)) (k35_mkM _ _ _ (⟨(rd_T35 b (rd a c)).f0, (⟨(rd_T35 b (rd a c)).f1.f0, (rd_T35 b (rd a c)).f1.f1, (rd_T35 b (rd a c)).f1.f2, (rd_T35 b (rd a c)).f1.f3⟩ : S33), (rd_T35 u (rd a (G))).f2⟩ : S35) ) (fun _ hk => hk)).1
                  rw [← fJ.out] at ch
                  have fG := Z ch
                  clear cD cA hy gh ch
                  refine start_ (n := 19) (S := fun w' => w'.cell? ⟨A, 0, none⟩ = some (.int .i64 Y) ∧ w'.cell? ⟨A, 1, none⟩ = some (.int .i64 aa) ∧ w'.cell? ⟨A, 2, none⟩ = some (.slice (some ⟨ar, 0, none⟩) b.length fP) ∧ w'.cell? ⟨A, 3, none⟩ = some (.int .i64 ab) ∧ w'.cell? ⟨A, 4, none⟩ = some (.bool ac) ∧ w'.cell? ⟨A, 5, none⟩ = some (.bool ad) ∧ w'.cell? ⟨F, 0, none⟩ = some (.int .i64 x) ∧ w'.cell? ⟨F, 1, none⟩ = some (.int .i64 y) ∧ w'.cell? ⟨F, 2, none⟩ = some (.slice (some aj) u.length fQ) ∧ w'.cell? ⟨F, 3, none⟩ = some (.int .i64 o) ∧ w'.cell? ⟨F, 4, none⟩ = some (.bool false) ∧ w'.cell? ⟨F, 5, none⟩ = some (.bool q) ∧ w'.cell? (bq.add (c).toNat) = some (.int .i64 (rd a c)) ∧ w'.cell? (bq.add ((G)).toNat) = some (.int .i64 (rd a (G))) ∧ w'.cell? (aj.add (((rd a (G))).toNat * 6)) = some (.bool ((rd_T35 u (rd a (G))).f0)) ∧ w'.cell? ⟨(aj.add (((rd a (G))).toNat * 6)).block, (aj.add (((rd a (G))).toNat * 6)).off + 1, none⟩ = some (.bool ((rd_T35 u (rd a (G))).f1.f0)) ∧ w'.cell? ⟨(aj.add (((rd a (G))).toNat * 6)).block, (aj.add (((rd a (G))).toNat * 6)).off + 2, none⟩ = some (.bool ((rd_T35 u (rd a (G))).f1.f1)) ∧ w'.cell? ⟨(aj.add (((rd a (G))).toNat * 6)).block, (aj.add (((rd a (G))).toNat * 6)).off + 3, none⟩ = some (.int .i64 ((rd_T35 u (rd a (G))).f1.f2)) ∧ w'.cell? ⟨(aj.add (((rd a (G))).toNat * 6)).block, (aj.add (((rd a (G))).toNat * 6)).off + 4, none⟩ = some (.bool ((rd_T35 u (rd a (G))).f1.f3)) ∧ w'.cell? ⟨(aj.add (((rd a (G))).toNat * 6)).block, (aj.add (((rd a (G))).toNat * 6)).off + 5, none⟩ = some (.int .u8 ((rd_T35 u (rd a (G))).f2))) (ds := [18]) (bv 19 0) (by kernel_rfl) rfl rfl ⟨(blk_cell r.out 0).trans rfl, (blk_cell r.out 1).trans rfl, (blk_cell r.out 2).trans rfl, (blk_cell r.out 3).trans rfl, (blk_cell r.out 4).trans rfl, (blk_cell r.out 5).trans rfl, (blk_cell g.out 0).trans rfl, (blk_cell g.out 1).trans rfl, (blk_cell g.out 2).trans rfl, (blk_cell g.out 3).trans rfl, (blk_cell g.out 4).trans rfl, (blk_cell g.out 5).trans rfl, bs, bt, bu, bw, bx, bz, bA, bB⟩ (fun hHeld => ?_); refine with_tabW shutterref16_Do.tab17 shutterref16_Do.bits17 (fun HT_ HW_ => ?_)
                  generalize wr.drew = w64 at HO_9 HO_1043002 HO_1079002 g m r HB fy fG gt gu gv gw gx gy bs bt bu bw bx bz bA bB gR gS gT gU gV gW hHeld ⊢
                  refine pure_ (i := 0) (N := some 63) (v := ?_) (a' := ?_) (bv 19 1) rfl rfl (any_of HT_.out (by kernel_rfl)) (fun _ _ _ h => h) (Or.inl ⟨by rfl, ?_⟩) ?_ ?_
                  rotate_left
                  ·intro w'
                   go_simp
                   with_reducible rfl
                  rotate_left
                  ·simp only [Act.put, sA, sB, sC, i64_w, i32_w]
                   rfl
                  refine pure_ (i := 2) (N := some 65) (v := ?_) (a' := ?_) (bv 19 5) rfl rfl (any_of HT_.out (by kernel_rfl)) (fun _ _ _ h => h) (Or.inl ⟨by rfl, ?_⟩) ?_ ?_
                  rotate_left
                  ·intro w'
                   go_simp
                   with_reducible rfl
                  rotate_left
                  ·simp only [Act.put, sA, sB, sC, i64_w, i32_w]
                   rfl
                  refine pure_ (i := 3) (N := some 66) (v := ?_) (a' := ?_) (bv 19 13) rfl rfl (any_of HT_.out (by kernel_rfl)) (fun _ _ _ h => h) (Or.inl ⟨by rfl, ?_⟩) ?_ ?_
                  rotate_left
                  ·intro w'
                   go_simp
                   with_reducible rfl
                  rotate_left
                  ·simp only [Act.put, sA, sB, sC, i64_w, i32_w]
                   rfl
                  refine pure_ (i := 4) (N := some 67) (v := ?_) (a' := ?_) (bv 19 29) rfl rfl (any_of HT_.out (by kernel_rfl)) (fun _ _ _ h => h) (Or.inl ⟨by rfl, ?_⟩) ?_ ?_
                  rotate_left
                  ·intro w'
                   go_simp
                   with_reducible rfl
                  rotate_left
                  ·simp only [Act.put, sA, sB, sC, i64_w, i32_w]
                   rfl
                  refine pure_ (i := 6) (N := some 69) (v := ?_) (a' := ?_) (bv 19 93) rfl rfl (any_of HT_.out (by kernel_rfl)) (fun _ _ _ h => h) (Or.inl ⟨by rfl, ?_⟩) ?_ ?_
                  rotate_left
                  ·intro w'
                   go_simp
                   with_reducible rfl
                  rotate_left
                  ·simp only [Act.put, sA, sB, sC, i64_w, i32_w]
                   rfl
                  refine pure_ (i := 8) (N := some 71) (v := ?_) (a' := ?_) (bv 19 349) rfl rfl (any_of HT_.out (by kernel_rfl)) (fun _ _ _ h => h) (Or.inl ⟨by rfl, ?_⟩) ?_ ?_
                  rotate_left
                  ·intro w'
                   go_simp
                   with_reducible rfl
                  rotate_left
                  ·simp only [Act.put, sA, sB, sC, i64_w, i32_w]
                   rfl
                  refine pure_ (i := 9) (N := some 72) (v := ?_) (a' := ?_) (bv 19 861) rfl rfl (any_of HT_.out (by kernel_rfl)) (fun _ _ _ h => h) (Or.inl ⟨by rfl, ?_⟩) ?_ ?_
                  rotate_left
                  ·intro w'
                   go_simp
                   with_reducible rfl
                  rotate_left
                  ·simp only [Act.put, sA, sB, sC, i64_w, i32_w]
                   rfl
                  refine pure_ (i := 10) (N := some 73) (v := ?_) (a' := ?_) (bv 19 1885) rfl rfl (any_of HT_.out (by kernel_rfl)) (fun _ _ _ h => h) (Or.inl ⟨by rfl, ?_⟩) ?_ ?_
                  rotate_left
                  ·intro w'
                   go_simp
                   with_reducible rfl
                  rotate_left
                  ·simp only [Act.put, sA, sB, sC, i64_w, i32_w]
                   rfl
                  refine pure_ (i := 11) (N := some 74) (v := ?_) (a' := ?_) (bv 19 3933) rfl rfl (any_of HT_.out (by kernel_rfl)) (fun _ _ _ h => h) (Or.inl ⟨by rfl, ?_⟩) ?_ ?_
                  rotate_left
                  ·intro w'
                   go_simp
                   with_reducible rfl
                  rotate_left
                  ·simp only [Act.put, sA, sB, sC, i64_w, i32_w]
                   rfl
                  refine take_ (i := 1) (N := some 64) (v := ?_) (a' := ?_) (bv 19 3935) rfl rfl (take_ofW HT_.out HW_.out (by kernel_rfl)) (fun _ _ _ h => h) (Or.inl ⟨by rfl, ?_⟩) hHeld ?_ ?_
                  rotate_left
                  ·rintro w' ⟨s0, s1, s2, s3, s4, s5, s6, s7, s8, s9, cG, cH, cI, cJ, cK, cL, cM, cN, cO, cP⟩
                   go_simp
                   with_reducible rfl
                  rotate_left
                  ·simp only [Act.put, sA, sB, sC, i64_w, i32_w]
                   rfl
                  refine take_ (i := 5) (N := some 68) (v := ?_) (a' := ?_) (bv 19 3967) rfl rfl (take_ofW HT_.out HW_.out (by kernel_rfl)) (fun _ _ _ h => h) (Or.inl ⟨by rfl, ?_⟩) hHeld ?_ ?_
                  rotate_left
                  ·rintro w' ⟨s0, s1, s2, s3, s4, s5, s6, s7, s8, s9, cG, cH, cI, cJ, cK, cL, cM, cN, cO, cP⟩
                   go_simp
                   with_reducible rfl
                  rotate_left
                  ·simp only [Act.put, sA, sB, sC, i64_w, i32_w]
                   rfl
                  refine take_ (i := 7) (N := some 70) (v := ?_) (a' := ?_) (bv 19 4095) rfl rfl (take_ofW HT_.out HW_.out (by kernel_rfl)) (fun _ _ _ h => h) (Or.inl ⟨by rfl, ?_⟩) hHeld ?_ ?_
                  rotate_left
                  ·rintro w' ⟨s0, s1, s2, s3, s4, s5, s6, s7, s8, s9, cG, cH, cI, cJ, cK, cL, cM, cN, cO, cP⟩
                   go_simp
                   with_reducible rfl
                  rotate_left
                  ·simp only [Act.put, sA, sB, sC, i64_w, i32_w]
                   rfl
                  refine take_ (i := 12) (N := some 75) (v := ?_) (a' := ?_) (bv 19 8191) rfl rfl (take_ofW HT_.out HW_.out (by kernel_rfl)) (fun _ _ _ h => h) (Or.inl ⟨by rfl, ?_⟩) hHeld ?_ ?_
                  rotate_left
                  ·rintro w' ⟨s0, s1, s2, s3, s4, s5, s6, s7, s8, s9, cG, cH, cI, cJ, cK, cL, cM, cN, cO, cP⟩
                   go_simp
                   with_reducible rfl
                  rotate_left
                  ·simp only [Act.put, sA, sB, sC, i64_w, i32_w]
                   rfl
                  refine pure_ (i := 13) (N := some 76) (v := ?_) (a' := ?_) (bv 19 16383) rfl rfl (any_of HT_.out (by kernel_rfl)) (fun _ _ _ h => h) (Or.inl ⟨by rfl, ?_⟩) ?_ ?_
                  rotate_left
                  ·intro w'
                   go_simp
                   with_reducible rfl
                  rotate_left
                  ·simp only [Act.put, sA, sB, sC, i64_w, i32_w]
                   rfl
                  refine pure_ (i := 14) (N := some 77) (v := ?_) (a' := ?_) (bv 19 32767) rfl rfl (any_of HT_.out (by kernel_rfl)) (fun _ _ _ h => h) (Or.inl ⟨by rfl, ?_⟩) ?_ ?_
                  rotate_left
                  ·intro w'
                   go_simp
                   with_reducible rfl
                  rotate_left
                  ·simp only [Act.put, sA, sB, sC, i64_w, i32_w]
                   rfl
                  refine take_ (i := 15) (N := some 78) (v := ?_) (a' := ?_) (bv 19 65535) rfl rfl (take_ofW HT_.out HW_.out (by kernel_rfl)) (fun _ _ _ h => h) (Or.inl ⟨by rfl, ?_⟩) hHeld ?_ ?_
                  rotate_left
                  ·rintro w' ⟨s0, s1, s2, s3, s4, s5, s6, s7, s8, s9, cG, cH, cI, cJ, cK, cL, cM, cN, cO, cP⟩
                   go_simp
                   with_reducible rfl
                  rotate_left
                  ·simp only [Act.put, sA, sB, sC, i64_w, i32_w]
                   rfl
                  refine pure_ (i := 16) (N := some 79) (v := ?_) (a' := ?_) (bv 19 131071) rfl rfl (any_of HT_.out (by kernel_rfl)) (fun _ _ _ h => h) (Or.inl ⟨by rfl, ?_⟩) ?_ ?_
                  rotate_left
                  ·intro w'
                   go_simp
                   with_reducible rfl
                  rotate_left
                  ·simp only [Act.put, sA, sB, sC, i64_w, i32_w]
                   rfl
                  refine pure_ (i := 17) (N := some 80) (v := ?_) (a' := ?_) (bv 19 262143) rfl rfl (any_of HT_.out (by kernel_rfl)) (fun _ _ _ h => h) (Or.inl ⟨by rfl, ?_⟩) ?_ ?_
                  rotate_left
                  ·intro w'
                   go_simp
                   with_reducible rfl
                  rotate_left
                  ·simp only [Act.put, sA, sB, sC, i64_w, i32_w]
                   rfl
                  refine last_ (i := 18) (N := none) (bv 19 524287) rfl rfl (one_of HT_.out (by kernel_rfl)) (by decide) (fun K hK => ?_)
                  refine skip_ (w1 := ?_) (by rfl) rfl ?_ ?_
                  rotate_left
                  ·go_simp
                   rfl
                  refine hK.out _ _ ?_
                  clear hK K
                  refine done_ (done_of HT_.out (by kernel_rfl)) ?_
                  try go_wp2
                  go_roundg k2
                  case measure => have := bQ.out; have := bR.out; omega
                  case rel => exact ⟨(G), (u), (cT), (.slice (some aj) u.length fQ), (.slice (some ⟨ar, 0, none⟩) b.length fP), (by first | rfl | (simp; done) | (simp only [← a4] <;> (first | rfl | simp)) | (simp [*]; done)), H', ⟨by have := bQ.out; have := bR.out; omega⟩, ⟨by (with_reducible repeat apply pR); exact Kd.R_mono (Kd.R_far (p := ⟨ar, ((rd a c) : Int).toNat * 6 + 5, none⟩) (Kd.R_types HO_9.out fy.out (by decide)) (fun _ hk => hk.2) (.int .u8 ((rd_T35 u (rd a (G))).f2))) (fun _ hk => hk.1)⟩, ⟨by (with_reducible repeat apply pV); exact Kd.V_mono (Kd.V_far (p := ⟨ar, ((rd a c) : Int).toNat * 6 + 5, none⟩) (Kd.V_mono HO_1043002.out (fun k_ hk => (⟨hk, fun e_ => hk.2.2.1 (by rw [e_]; rfl)⟩ : _ ∧ k_ ≠ ar))) (fun _ hk => hk.2) (.int .u8 ((rd_T35 u (rd a (G))).f2))) (fun _ hk => ⟨hk.1.1, ⟨hk.1.2.1, ⟨hk.1.2.2.1, ⟨hk.1.2.2.2.1, ⟨hk.1.2.2.2.2.1, hk.1.2.2.2.2.2⟩⟩⟩⟩⟩)⟩, ⟨by (with_reducible repeat apply pR); exact fG.out⟩, ⟨by (with_reducible repeat apply pK); refine blk_far ?_ (by have h_ := Kd.R_ne HO_1079002.out g.out (by decide); intro e_; exact h_ (by rw [e_]; rfl)) _; (with_reducible repeat apply pK); exact g.out⟩, ⟨by (with_reducible repeat apply pK); refine blk_far ?_ (by have h_ := Kd.R_ne HO_1079002.out m.out (by decide); intro e_; exact h_ (by rw [e_]; rfl)) _; (with_reducible repeat apply pK); exact m.out⟩, ⟨by (with_reducible repeat apply pK); refine blk_far ?_ (by have h_ := Kd.R_ne HO_1079002.out r.out (by decide); intro e_; exact h_ (by rw [e_]; rfl)) _; (with_reducible repeat apply pK); exact r.out⟩, ⟨by repeat (first | (with_reducible first | exact HB.out | apply below_alloc | apply pw_below_drewN | apply below_drew1 | refine below_set ?_ hH.out | refine below_set ?_ bn.out | refine below_set ?_ bo.out | refine below_set ?_ bp.out) | exact HB.out)⟩⟩
                 ·rw [if_neg ct] at H
                  exact absurd H (by simp)
                ·rw [if_neg cr] at H
                 exact absurd H (by simp)
               ·rw [if_neg cq] at H
                exact absurd H (by simp)
              ·rw [if_neg cp] at H
               exact absurd H (by simp)
             ·rw [if_neg co] at H
              exact absurd H (by simp)
            ·rw [if_neg cn] at H
             exact absurd H (by simp)
           ·rw [if_neg bT] at H
            have cm : decide ((wrap64 (c + 1)) < (a.length : Int)) = false := decide_eq_false bT
            clear bT
            by_cases cu : 0 ≤ c
            ·rw [if_pos cu] at H
             have jj : decide (0 ≤ c) = true := decide_eq_true cu
             clear cu
             by_cases cv : 0 ≤ (rd a c)
             ·rw [if_pos cv] at H
              have jk : decide (0 ≤ (rd a c)) = true := decide_eq_true cv
              clear cv
              by_cases cw : (rd a c) < (b.length : Int)
              ·rw [if_pos cw] at H
               have jl : decide ((rd a c) < (b.length : Int)) = true := decide_eq_true cw
               clear cw
               obtain ⟨cU, aX⟩ : ∃ y_ : List (S35), y_ = (b.set ((rd a c) : Int).toNat (⟨(rd_T35 b (rd a c)).f0, (⟨(rd_T35 b (rd a c)).f1.f0, (rd_T35 b (rd a c)).f1.f1, (rd_T35 b (rd a c)).f1.f2, (rd_T35 b (rd a c)).f1.f3⟩ : S33), 0⟩ : S35)) := ⟨_, rfl⟩
               replace H : (shutterref16_Do.l0 k2 a1 a (wrap64 (c + 1)) x y u o false q Y aa cU ab ac ad) = some (r1, r2, r3, r4, r5, r6, r7, r8) := by first | (rw [aX]; with_reducible exact H) | (have aV := (Option.bind_some _ _).symm.trans H; rw [aX]; with_reducible exact aV) | (have aV := (Option.bind_some _ _).symm.trans H; with_reducible exact aV) | with_reducible exact H | (rw [aX]; exact H) | exact H
               have fK := Z aX
               clear aX
               have H' := Z H
               clear H
               obtain ⟨jX, ka, hP⟩ := Kd.R_slice HO_9.out
               subst hP
               try go_wp2
               have B := Z (Kd.R_drew HO_9.out)
               have C := Z (Kd.V_drew HO_1043002.out)
               have D := Z (Kd.R_drew HO_1079002.out)
               have E := Z (blk_drew g.out)
               have L := Z (blk_drew m.out)
               have W := Z (blk_drew r.out)
               have ak := Z (below_drew1 HB.out)
               clear HO_9
               clear HO_1043002
               clear HO_1079002
               clear g
               clear m
               clear r
               clear HB
               have HO_9 := B
               have HO_1043002 := C
               have HO_1079002 := D
               have g := E
               have m := L
               have r := W
               have HB := ak
               clear B C D E L W ak
               have b2 : 0 ≤ (c : Int) := od_
               have b7 : c < (a.length : Int) := od_
               obtain ⟨fN, hs, bC⟩ := Kd.at_int (Kd.R_reads' HO_9.out).2.2 c b2 b7
               cases hs
               replace b2 := eq_true b2
               replace b7 := eq_true b7
               have p70 : 0 ≤ ((rd a c) : Int) := od_
               have he : ((rd a c) : Int) < ((b.length : Int) : Int) := od_
               obtain ⟨au, fR, fX, ge, hU, j7, fD⟩ := Kd.R_form HO_1079002.out (by omega)
               (first | cases fX | (injection fX with ea_ en_ ec_; (first | subst ea_ | (injection ea_ with ea_; subst ea_)); subst ec_; clear en_))
               have hI := Z ge
               have fz := Z fD
               clear ge hU fD
               obtain ⟨j2, hv, gi, aQ, aT⟩ := Kd.R_elem HO_1079002.out z35 ((rd a c) : Int) p70 he
               obtain rfl := k35_openM gi
               have gX : World.cell? _ ⟨au, ((rd a c) : Int).toNat * 6, none⟩ = some (.bool ((rd_T35 b (rd a c)).f0)) := aQ 0 _ rfl
               have gY : World.cell? _ ⟨au, ((rd a c) : Int).toNat * 6 + 1, none⟩ = some (.bool ((rd_T35 b (rd a c)).f1.f0)) := aQ 1 _ rfl
               have gZ : World.cell? _ ⟨au, ((rd a c) : Int).toNat * 6 + 2, none⟩ = some (.bool ((rd_T35 b (rd a c)).f1.f1)) := aQ 2 _ rfl
               have g0 : World.cell? _ ⟨au, ((rd a c) : Int).toNat * 6 + 3, none⟩ = some (.int .i64 ((rd_T35 b (rd a c)).f1.f2)) := aQ 3 _ rfl
               have g1 : World.cell? _ ⟨au, ((rd a c) : Int).toNat * 6 + 4, none⟩ = some (.bool ((rd_T35 b (rd a c)).f1.f3)) := aQ 4 _ rfl
               have g2 : World.cell? _ ⟨au, ((rd a c) : Int).toNat * 6 + 5, none⟩ = some (.int .u8 ((rd_T35 b (rd a c)).f2)) := aQ 5 _ rfl
               have gz : World.frozen? _ ⟨au, ((rd a c) : Int).toNat * 6, none⟩ = false := aT 0
               have gA : World.frozen? _ ⟨au, ((rd a c) : Int).toNat * 6 + 1, none⟩ = false := aT 1
               have gB : World.frozen? _ ⟨au, ((rd a c) : Int).toNat * 6 + 2, none⟩ = false := aT 2
               have gC : World.frozen? _ ⟨au, ((rd a c) : Int).toNat * 6 + 3, none⟩ = false := aT 3
               have gD : World.frozen? _ ⟨au, ((rd a c) : Int).toNat * 6 + 4, none⟩ = false := aT 4
               have gE : World.frozen? _ ⟨au, ((rd a c) : Int).toNat * 6 + 5, none⟩ = false := aT 5
               clear hv aQ aT gi
               replace p70 := eq_true p70
               replace he := eq_true he
               obtain ⟨j3, cE, gj, cB, hz⟩ := Kd.R_elem HO_1079002.out z35 ((rd a c) : Int) (od_) (by have h_ : ((rd a c) : Int) < ((b.length : Int) : Int) := od_; first | exact h_ | (have e_ := (Kd.R_reads' HO_1079002.out).1; omega) | simpa using h_)
               obtain rfl := k35_openM gj
               have ci := (Kd.R_seg HO_1079002.out ((rd a c) : Int) (od_) (by have h_ : ((rd a c) : Int) < ((b.length : Int) : Int) := od_; first | exact h_ | (have e_ := (Kd.R_reads' HO_1079002.out).1; omega) | simpa using h_) (seg := [.int .u8 0]) (j := 5) cE cB (show 6 ≤ 6 from by decide) (x' := (⟨(rd_T35 b (rd a c)).f0, (⟨(rd_T35 b (rd a c)).f1.f0, (rd_T35 b (rd a c)).f1.f1, (rd_T35 b (rd a c)).f1.f2, (rd_T35 b (rd a c)).f1.f3⟩ : S33), 0⟩ : S35)) (k35_mkM _ _ _ (⟨(rd_T35 b (rd a c)).f0, (⟨(rd_T35 b (rd a c)).f1.f0, (rd_T35 b (rd a c)).f1.f1, (rd_T35 b (rd a c)).f1.f2, (rd_T35 b (rd a c)).f1.f3⟩ : S33), 0⟩ : S35) ) (fun _ hk => hk)).1
               rw [← fK.out] at ci
               have fH := Z ci
               clear cE cB hz gj ci
               refine start_ (n := 9) (S := fun w' => w'.cell? ⟨A, 0, none⟩ = some (.int .i64 Y) ∧ w'.cell? ⟨A, 1, none⟩ = some (.int .i64 aa) ∧ w'.cell? ⟨A, 2, none⟩ = some (.slice (some ⟨au, 0, none⟩) b.length fR) ∧ w'.cell? ⟨A, 3, none⟩ = some (.int .i64 ab) ∧ w'.cell? ⟨A, 4, none⟩ = some (.bool ac) ∧ w'.cell? ⟨A, 5, none⟩ = some (.bool ad) ∧ w'.cell? (fN.add (c).toNat) = some (.int .i64 (rd a c))) (ds := [8]) (bv 9 0) (by kernel_rfl) rfl rfl ⟨(blk_cell r.out 0).trans rfl, (blk_cell r.out 1).trans rfl, (blk_cell r.out 2).trans rfl, (blk_cell r.out 3).trans rfl, (blk_cell r.out 4).trans rfl, (blk_cell r.out 5).trans rfl, bC⟩ (fun hHeld => ?_); refine with_tabW shutterref16_Do.tab18 shutterref16_Do.bits18 (fun HT_ HW_ => ?_)
               generalize wr.drew = kA at HO_9 HO_1043002 HO_1079002 g m r HB fz fH gz gA gB gC gD gE bC gX gY gZ g0 g1 g2 hHeld ⊢
               refine pure_ (i := 0) (N := some 81) (v := ?_) (a' := ?_) (bv 9 1) rfl rfl (any_of HT_.out (by kernel_rfl)) (fun _ _ _ h => h) (Or.inl ⟨by rfl, ?_⟩) ?_ ?_
               rotate_left
               ·intro w'
                go_simp
                with_reducible rfl
               rotate_left
               ·simp only [Act.put, sA, sB, sC, i64_w, i32_w]
                rfl
               refine pure_ (i := 2) (N := some 83) (v := ?_) (a' := ?_) (bv 9 5) rfl rfl (any_of HT_.out (by kernel_rfl)) (fun _ _ _ h => h) (Or.inl ⟨by rfl, ?_⟩) ?_ ?_
               rotate_left
               ·intro w'
                go_simp
                with_reducible rfl
               rotate_left
               ·simp only [Act.put, sA, sB, sC, i64_w, i32_w]
                rfl
               refine pure_ (i := 3) (N := some 84) (v := ?_) (a' := ?_) (bv 9 13) rfl rfl (any_of HT_.out (by kernel_rfl)) (fun _ _ _ h => h) (Or.inl ⟨by rfl, ?_⟩) ?_ ?_
               rotate_left
               ·intro w'
                go_simp
                with_reducible rfl
               rotate_left
               ·simp only [Act.put, sA, sB, sC, i64_w, i32_w]
                rfl
               refine pure_ (i := 4) (N := some 85) (v := ?_) (a' := ?_) (bv 9 29) rfl rfl (any_of HT_.out (by kernel_rfl)) (fun _ _ _ h => h) (Or.inl ⟨by rfl, ?_⟩) ?_ ?_
               rotate_left
               ·intro w'
                go_simp
                with_reducible rfl
               rotate_left
               ·simp only [Act.put, sA, sB, sC, i64_w, i32_w]
                rfl
               refine take_ (i := 1) (N := some 82) (v := ?_) (a' := ?_) (bv 9 31) rfl rfl (take_ofW HT_.out HW_.out (by kernel_rfl)) (fun _ _ _ h => h) (Or.inl ⟨by rfl, ?_⟩) hHeld ?_ ?_
               rotate_left
               ·rintro w' ⟨s0, s1, s2, s3, s4, s5, s6⟩
                go_simp
                with_reducible rfl
               rotate_left
               ·simp only [Act.put, sA, sB, sC, i64_w, i32_w]
                rfl
               refine take_ (i := 5) (N := some 86) (v := ?_) (a' := ?_) (bv 9 63) rfl rfl (take_ofW HT_.out HW_.out (by kernel_rfl)) (fun _ _ _ h => h) (Or.inl ⟨by rfl, ?_⟩) hHeld ?_ ?_
               rotate_left
               ·rintro w' ⟨s0, s1, s2, s3, s4, s5, s6⟩
                go_simp
                with_reducible rfl
               rotate_left
               ·simp only [Act.put, sA, sB, sC, i64_w, i32_w]
                rfl
               refine pure_ (i := 6) (N := some 87) (v := ?_) (a' := ?_) (bv 9 127) rfl rfl (any_of HT_.out (by kernel_rfl)) (fun _ _ _ h => h) (Or.inl ⟨by rfl, ?_⟩) ?_ ?_
               rotate_left
               ·intro w'
                go_simp
                with_reducible rfl
               rotate_left
               ·simp only [Act.put, sA, sB, sC, i64_w, i32_w]
                rfl
               refine pure_ (i := 7) (N := some 88) (v := ?_) (a' := ?_) (bv 9 255) rfl rfl (any_of HT_.out (by kernel_rfl)) (fun _ _ _ h => h) (Or.inl ⟨by rfl, ?_⟩) ?_ ?_
               rotate_left
               ·intro w'
                go_simp
                with_reducible rfl
               rotate_left
               ·simp only [Act.put, sA, sB, sC, i64_w, i32_w]
                rfl
               refine last_ (i := 8) (N := none) (bv 9 511) rfl rfl (one_of HT_.out (by kernel_rfl)) (by decide) (fun K hK => ?_)
               refine skip_ (w1 := ?_) (by rfl) rfl ?_ ?_
               rotate_left
               ·go_simp
                rfl
               refine hK.out _ _ ?_
               clear hK K
               refine done_ (done_of HT_.out (by kernel_rfl)) ?_
               try go_wp2
               go_roundg k2
               case measure => have := bQ.out; have := bR.out; omega
               case rel => exact ⟨(wrap64 (c + 1)), (u), (cU), (u1043002), (.slice (some ⟨au, 0, none⟩) b.length fR), (dn_), H', ⟨by have := bQ.out; have := bR.out; omega⟩, ⟨by (with_reducible repeat apply pR); exact Kd.R_mono (Kd.R_far (p := ⟨au, ((rd a c) : Int).toNat * 6 + 5, none⟩) (Kd.R_types HO_9.out fz.out (by decide)) (fun _ hk => hk.2) (.int .u8 0)) (fun _ hk => hk.1)⟩, ⟨by (with_reducible repeat apply pV); exact Kd.V_mono (Kd.V_far (p := ⟨au, ((rd a c) : Int).toNat * 6 + 5, none⟩) (Kd.V_mono HO_1043002.out (fun k_ hk => (⟨hk, fun e_ => hk.2.2.1 (by rw [e_]; rfl)⟩ : _ ∧ k_ ≠ au))) (fun _ hk => hk.2) (.int .u8 0)) (fun _ hk => ⟨hk.1.1, ⟨hk.1.2.1, ⟨hk.1.2.2.1, ⟨hk.1.2.2.2.1, ⟨hk.1.2.2.2.2.1, hk.1.2.2.2.2.2⟩⟩⟩⟩⟩)⟩, ⟨by (with_reducible repeat apply pR); exact fH.out⟩, ⟨by (with_reducible repeat apply pK); refine blk_far ?_ (by have h_ := Kd.R_ne HO_1079002.out g.out (by decide); intro e_; exact h_ (by rw [e_]; rfl)) _; (with_reducible repeat apply pK); exact g.out⟩, ⟨by (with_reducible repeat apply pK); refine blk_far ?_ (by have h_ := Kd.R_ne HO_1079002.out m.out (by decide); intro e_; exact h_ (by rw [e_]; rfl)) _; (with_reducible repeat apply pK); exact m.out⟩, ⟨by (with_reducible repeat apply pK); refine blk_far ?_ (by have h_ := Kd.R_ne HO_1079002.out r.out (by decide); intro e_; exact h_ (by rw [e_]; rfl)) _; (with_reducible repeat apply pK); exact r.out⟩, ⟨by repeat (first | (with_reducible first | exact HB.out | apply below_alloc | apply pw_below_drewN | apply below_drew1 | refine below_set ?_ hI.out | refine below_set ?_ bn.out | refine below_set ?_ bo.out | refine below_set ?_ bp.out) | exact HB.out)⟩⟩
              ·rw [if_neg cw] at H
               exact absurd H (by simp)
             ·rw [if_neg cv] at H
              exact absurd H (by simp)
            ·rw [if_neg cu] at H
             exact absurd H (by simp)
          ·rw [if_neg br] at H
           have hj : (a1 == 12) = false := beq_eq_false_iff_ne.mpr br
           have hl : (a1 != 12) = true := bne_iff_ne.mpr br
           by_cases cx : 0 ≤ c
           ·rw [if_pos cx] at H
            have jm : decide (0 ≤ c) = true := decide_eq_true cx
            clear cx
            by_cases cy : 0 ≤ (rd a c)
            ·rw [if_pos cy] at H
             have jn : decide (0 ≤ (rd a c)) = true := decide_eq_true cy
             clear cy
             by_cases cz : (rd a c) < (b.length : Int)
             ·rw [if_pos cz] at H
              have jo : decide ((rd a c) < (b.length : Int)) = true := decide_eq_true cz
              clear cz
              obtain ⟨cV, aY⟩ : ∃ y_ : List (S35), y_ = (b.set ((rd a c) : Int).toNat (⟨(rd_T35 b (rd a c)).f0, (⟨(rd_T35 b (rd a c)).f1.f0, (rd_T35 b (rd a c)).f1.f1, (rd_T35 b (rd a c)).f1.f2, (rd_T35 b (rd a c)).f1.f3⟩ : S33), 0⟩ : S35)) := ⟨_, rfl⟩
              replace H : (shutterref16_Do.l0 k2 a1 a (wrap64 (c + 1)) x y u o false q Y aa cV ab ac ad) = some (r1, r2, r3, r4, r5, r6, r7, r8) := by first | (rw [aY]; with_reducible exact H) | (have aV := (Option.bind_some _ _).symm.trans H; rw [aY]; with_reducible exact aV) | (have aV := (Option.bind_some _ _).symm.trans H; with_reducible exact aV) | with_reducible exact H | (rw [aY]; exact H) | exact H
              have fL := Z aY
              clear aY
              have H' := Z H
              clear H
              obtain ⟨jY, kc, hQ⟩ := Kd.R_slice HO_9.out
              subst hQ
              try go_wp2
              have B := Z (Kd.R_drew HO_9.out)
              have C := Z (Kd.V_drew HO_1043002.out)
              have D := Z (Kd.R_drew HO_1079002.out)
              have E := Z (blk_drew g.out)
              have L := Z (blk_drew m.out)
              have W := Z (blk_drew r.out)
              have ak := Z (below_drew1 HB.out)
              clear HO_9
              clear HO_1043002
              clear HO_1079002
              clear g
              clear m
              clear r
              clear HB
              have HO_9 := B
              have HO_1043002 := C
              have HO_1079002 := D
              have g := E
              have m := L
              have r := W
              have HB := ak
              clear B C D E L W ak
              have b3 : 0 ≤ (c : Int) := od_
              have b8 : c < (a.length : Int) := od_
              obtain ⟨fO, ht, bD⟩ := Kd.at_int (Kd.R_reads' HO_9.out).2.2 c b3 b8
              cases ht
              replace b3 := eq_true b3
              replace b8 := eq_true b8
              have ha : 0 ≤ ((rd a c) : Int) := od_
              have hf : ((rd a c) : Int) < ((b.length : Int) : Int) := od_
              obtain ⟨av, fS, fY, gf, hV, j8, fE⟩ := Kd.R_form HO_1079002.out (by omega)
              (first | cases fY | (injection fY with ea_ en_ ec_; (first | subst ea_ | (injection ea_ with ea_; subst ea_)); subst ec_; clear en_))
              have hJ := Z gf
              have fA := Z fE
              clear gf hV fE
              obtain ⟨j4, hx, gl, aR, aU⟩ := Kd.R_elem HO_1079002.out z35 ((rd a c) : Int) ha hf
              obtain rfl := k35_openM gl
              have g3 : World.cell? _ ⟨av, ((rd a c) : Int).toNat * 6, none⟩ = some (.bool ((rd_T35 b (rd a c)).f0)) := aR 0 _ rfl
              have g4 : World.cell? _ ⟨av, ((rd a c) : Int).toNat * 6 + 1, none⟩ = some (.bool ((rd_T35 b (rd a c)).f1.f0)) := aR 1 _ rfl
              have g5 : World.cell? _ ⟨av, ((rd a c) : Int).toNat * 6 + 2, none⟩ = some (.bool ((rd_T35 b (rd a c)).f1.f1)) := aR 2 _ rfl
              have g6 : World.cell? _ ⟨av, ((rd a c) : Int).toNat * 6 + 3, none⟩ = some (.int .i64 ((rd_T35 b (rd a c)).f1.f2)) := aR 3 _ rfl
              have g7 : World.cell? _ ⟨av, ((rd a c) : Int).toNat * 6 + 4, none⟩ = some (.bool ((rd_T35 b (rd a c)).f1.f3)) := aR 4 _ rfl
              have g8 : World.cell? _ ⟨av, ((rd a c) : Int).toNat * 6 + 5, none⟩ = some (.int .u8 ((rd_T35 b (rd a c)).f2)) := aR 5 _ rfl
              have gF : World.frozen? _ ⟨av, ((rd a c) : Int).toNat * 6, none⟩ = false := aU 0
              have gG : World.frozen? _ ⟨av, ((rd a c) : Int).toNat * 6 + 1, none⟩ = false := aU 1
              have gH : World.frozen? _ ⟨av, ((rd a c) : Int).toNat * 6 + 2, none⟩ = false := aU 2
              have gI : World.frozen? _ ⟨av, ((rd a c) : Int).toNat * 6 + 3, none⟩ = false := aU 3
              have gJ : World.frozen? _ ⟨av, ((rd a c) : Int).toNat * 6 + 4, none⟩ = false := aU 4
              have gK : World.frozen? _ ⟨av, ((rd a c) : Int).toNat * 6 + 5, none⟩ = false := aU 5
              clear hx aR aU gl
              replace ha := eq_true ha
              replace hf := eq_true hf
              obtain ⟨j5, cF, gm, cC, hA⟩ := Kd.R_elem HO_1079002.out z35 ((rd a c) : Int) (od_) (by have h_ : ((rd a c) : Int) < ((b.length : Int) : Int) := od_; first | exact h_ | (have e_ := (Kd.R_reads' HO_1079002.out).1; omega) | simpa using h_)
              obtain rfl := k35_openM gm
              have cj := (Kd.R_seg HO_1079002.out ((rd a c) : Int) (od_) (by have h_ : ((rd a c) : Int) < ((b.length : Int) : Int) := od_; first | exact h_ | (have e_ := (Kd.R_reads' HO_1079002.out).1; omega) | simpa using h_) (seg := [.int .u8 0]) (j := 5) cF cC (show 6 ≤ 6 from by decide) (x' := (⟨(rd_T35 b (rd a c)).f0, (⟨(rd_T35 b (rd a c)).f1.f0, (rd_T35 b (rd a c)).f1.f1, (rd_T35 b (rd a c)).f1.f2, (rd_T35 b (rd a c)).f1.f3⟩ : S33), 0⟩ : S35)) (k35_mkM _ _ _ (⟨(rd_T35 b (rd a c)).f0, (⟨(rd_T35 b (rd a c)).f1.f0, (rd_T35 b (rd a c)).f1.f1, (rd_T35 b (rd a c)).f1.f2, (rd_T35 b (rd a c)).f1.f3⟩ : S33), 0⟩ : S35) ) (fun _ hk => hk)).1
              rw [← fL.out] at cj
              have fI := Z cj
              clear cF cC hA gm cj
              refine start_ (n := 9) (S := fun w' => w'.cell? ⟨A, 0, none⟩ = some (.int .i64 Y) ∧ w'.cell? ⟨A, 1, none⟩ = some (.int .i64 aa) ∧ w'.cell? ⟨A, 2, none⟩ = some (.slice (some ⟨av, 0, none⟩) b.length fS) ∧ w'.cell? ⟨A, 3, none⟩ = some (.int .i64 ab) ∧ w'.cell? ⟨A, 4, none⟩ = some (.bool ac) ∧ w'.cell? ⟨A, 5, none⟩ = some (.bool ad) ∧ w'.cell? (fO.add (c).toNat) = some (.int .i64 (rd a c))) (ds := [8]) (bv 9 0) (by kernel_rfl) rfl rfl ⟨(blk_cell r.out 0).trans rfl, (blk_cell r.out 1).trans rfl, (blk_cell r.out 2).trans rfl, (blk_cell r.out 3).trans rfl, (blk_cell r.out 4).trans rfl, (blk_cell r.out 5).trans rfl, bD⟩ (fun hHeld => ?_); refine with_tabW shutterref16_Do.tab18 shutterref16_Do.bits18 (fun HT_ HW_ => ?_)
              generalize wr.drew = kB at HO_9 HO_1043002 HO_1079002 g m r HB fA fI gF gG gH gI gJ gK bD g3 g4 g5 g6 g7 g8 hHeld ⊢
              refine pure_ (i := 0) (N := some 81) (v := ?_) (a' := ?_) (bv 9 1) rfl rfl (any_of HT_.out (by kernel_rfl)) (fun _ _ _ h => h) (Or.inl ⟨by rfl, ?_⟩) ?_ ?_
              rotate_left
              ·intro w'
               go_simp
               with_reducible rfl
              rotate_left
              ·simp only [Act.put, sA, sB, sC, i64_w, i32_w]
               rfl
              refine pure_ (i := 2) (N := some 83) (v := ?_) (a' := ?_) (bv 9 5) rfl rfl (any_of HT_.out (by kernel_rfl)) (fun _ _ _ h => h) (Or.inl ⟨by rfl, ?_⟩) ?_ ?_
              rotate_left
              ·intro w'
               go_simp
               with_reducible rfl
              rotate_left
              ·simp only [Act.put, sA, sB, sC, i64_w, i32_w]
               rfl
              refine pure_ (i := 3) (N := some 84) (v := ?_) (a' := ?_) (bv 9 13) rfl rfl (any_of HT_.out (by kernel_rfl)) (fun _ _ _ h => h) (Or.inl ⟨by rfl, ?_⟩) ?_ ?_
              rotate_left
              ·intro w'
               go_simp
               with_reducible rfl
              rotate_left
              ·simp only [Act.put, sA, sB, sC, i64_w, i32_w]
               rfl
              refine pure_ (i := 4) (N := some 85) (v := ?_) (a' := ?_) (bv 9 29) rfl rfl (any_of HT_.out (by kernel_rfl)) (fun _ _ _ h => h) (Or.inl ⟨by rfl, ?_⟩) ?_ ?_
              rotate_left
              ·intro w'
               go_simp
               with_reducible rfl
              rotate_left
              ·simp only [Act.put, sA, sB, sC, i64_w, i32_w]
               rfl
              refine take_ (i := 1) (N := some 82) (v := ?_) (a' := ?_) (bv 9 31) rfl rfl (take_ofW HT_.out HW_.out (by kernel_rfl)) (fun _ _ _ h => h) (Or.inl ⟨by rfl, ?_⟩) hHeld ?_ ?_
              rotate_left
              ·rintro w' ⟨s0, s1, s2, s3, s4, s5, s6⟩
               go_simp
               with_reducible rfl
              rotate_left
              ·simp only [Act.put, sA, sB, sC, i64_w, i32_w]
               rfl
              refine take_ (i := 5) (N := some 86) (v := ?_) (a' := ?_) (bv 9 63) rfl rfl (take_ofW HT_.out HW_.out (by kernel_rfl)) (fun _ _ _ h => h) (Or.inl ⟨by rfl, ?_⟩) hHeld ?_ ?_
              rotate_left
              ·rintro w' ⟨s0, s1, s2, s3, s4, s5, s6⟩
               go_simp
               with_reducible rfl
              rotate_left
              ·simp only [Act.put, sA, sB, sC, i64_w, i32_w]
               rfl
              refine pure_ (i := 6) (N := some 87) (v := ?_) (a' := ?_) (bv 9 127) rfl rfl (any_of HT_.out (by kernel_rfl)) (fun _ _ _ h => h) (Or.inl ⟨by rfl, ?_⟩) ?_ ?_
              rotate_left
              ·intro w'
               go_simp
               with_reducible rfl
              rotate_left
              ·simp only [Act.put, sA, sB, sC, i64_w, i32_w]
               rfl
              refine pure_ (i := 7) (N := some 88) (v := ?_) (a' := ?_) (bv 9 255) rfl rfl (any_of HT_.out (by kernel_rfl)) (fun _ _ _ h => h) (Or.inl ⟨by rfl, ?_⟩) ?_ ?_
              rotate_left
              ·intro w'
               go_simp
               with_reducible rfl
              rotate_left
              ·simp only [Act.put, sA, sB, sC, i64_w, i32_w]
               rfl
              refine last_ (i := 8) (N := none) (bv 9 511) rfl rfl (one_of HT_.out (by kernel_rfl)) (by decide) (fun K hK => ?_)
              refine skip_ (w1 := ?_) (by rfl) rfl ?_ ?_
              rotate_left
              ·go_simp
               rfl
              refine hK.out _ _ ?_
              clear hK K
              refine done_ (done_of HT_.out (by kernel_rfl)) ?_
              try go_wp2
              go_roundg k2
              case measure => have := bQ.out; have := bR.out; omega
              case rel => exact ⟨(wrap64 (c + 1)), (u), (cV), (u1043002), (.slice (some ⟨av, 0, none⟩) b.length fS), (dn_), H', ⟨by have := bQ.out; have := bR.out; omega⟩, ⟨by (with_reducible repeat apply pR); exact Kd.R_mono (Kd.R_far (p := ⟨av, ((rd a c) : Int).toNat * 6 + 5, none⟩) (Kd.R_types HO_9.out fA.out (by decide)) (fun _ hk => hk.2) (.int .u8 0)) (fun _ hk => hk.1)⟩, ⟨by (with_reducible repeat apply pV); exact Kd.V_mono (Kd.V_far (p := ⟨av, ((rd a c) : Int).toNat * 6 + 5, none⟩) (Kd.V_mono HO_1043002.out (fun k_ hk => (⟨hk, fun e_ => hk.2.2.1 (by rw [e_]; rfl)⟩ : _ ∧ k_ ≠ av))) (fun _ hk => hk.2) (.int .u8 0)) (fun _ hk => ⟨hk.1.1, ⟨hk.1.2.1, ⟨hk.1.2.2.1, ⟨hk.1.2.2.2.1, ⟨hk.1.2.2.2.2.1, hk.1.2.2.2.2.2⟩⟩⟩⟩⟩)⟩, ⟨by (with_reducible repeat apply pR); exact fI.out⟩, ⟨by (with_reducible repeat apply pK); refine blk_far ?_ (by have h_ := Kd.R_ne HO_1079002.out g.out (by decide); intro e_; exact h_ (by rw [e_]; rfl)) _; (with_reducible repeat apply pK); exact g.out⟩, ⟨by (with_reducible repeat apply pK); refine blk_far ?_ (by have h_ := Kd.R_ne HO_1079002.out m.out (by decide); intro e_; exact h_ (by rw [e_]; rfl)) _; (with_reducible repeat apply pK); exact m.out⟩, ⟨by (with_reducible repeat apply pK); refine blk_far ?_ (by have h_ := Kd.R_ne HO_1079002.out r.out (by decide); intro e_; exact h_ (by rw [e_]; rfl)) _; (with_reducible repeat apply pK); exact r.out⟩, ⟨by repeat (first | (with_reducible first | exact HB.out | apply below_alloc | apply pw_below_drewN | apply below_drew1 | refine below_set ?_ hJ.out | refine below_set ?_ bn.out | refine below_set ?_ bo.out | refine below_set ?_ bp.out) | exact HB.out)⟩⟩
             ·rw [if_neg cz] at H
              exact absurd H (by simp)
            ·rw [if_neg cy] at H
             exact absurd H (by simp)
           ·rw [if_neg cx] at H
            exact absurd H (by simp)
         ·rw [if_neg bS] at H
          have hh : decide (c < (a.length : Int)) = false := decide_eq_false bS
          clear bS
          simp only [Option.some.injEq, Prod.mk.injEq] at H
          obtain ⟨rfl, rfl, rfl, rfl, rfl, rfl, rfl, rfl⟩ := H
          obtain ⟨fw, fT, hR⟩ := Kd.R_slice HO_9.out
          subst hR
          have jA := a2.out
          have jL := aE.out
          have jB := aH.out
          have jM := aG.out
          obtain ⟨h0, h1, h2, h3, h4, h5, ij, ik, il, im, io, ip⟩ := cells6 r.out
          have jC := O.out
          have jN := l.out
          obtain ⟨h6, h7, h8, h9, ia, ib, iq, ir, it, iu, iv, iw⟩ := cells6 m.out
          obtain ⟨a7, a9, hS⟩ := Kd.R_slice HO_1079002.out
          subst hS
          go_wp2_with (first | ((with_reducible refine gate_store (t := 24) (p := 4) rfl ?_); refine sx_ 24 4 ((((((wr.setCell ⟨d, 0, none⟩ (.int .i64 Y)).setCell ⟨d, 1, none⟩ (.int .i64 aa)).setCell ⟨d, 2, none⟩ (.slice a7 b.length a9)).setCell ⟨d, 3, none⟩ (.int .i64 ab)).setCell ⟨d, 4, none⟩ (.bool ac)).setCell ⟨d, 5, none⟩ (.bool ad)) ?_; intro bI hw; have B : Aside0 (Kd.R (Kd.int .i64) 3 bI w.heap.size (fun k_ => (w.heap.size ≤ k_)) (.slice fw a.length fT) a) := ⟨(by rw [hw]; exact (by (with_reducible repeat apply pR); exact R_off HO_9.out m.out (by decide) off2_))⟩; have C : Aside0 (Kd.V k35 35 bI w.heap.size (fun k_ => (az k_ ∨ w.heap.size ≤ k_) ∧ some k_ ≠ (.slice fw a.length fT : Value).ownBlock ∧ some k_ ≠ (.slice a7 b.length a9 : Value).ownBlock ∧ k_ ≠ F ∧ k_ ≠ d ∧ k_ ≠ A) u1043002 u) := ⟨(by rw [hw]; exact (by (with_reducible repeat apply pV); exact V_off HO_1043002.out (fun k_ hk => hk.2.2.2.2.1) off2_ (fun _ hk => ⟨hk.1, ⟨hk.2.1, ⟨hk.2.2.1, ⟨hk.2.2.2.1, ⟨hk.2.2.2.2.1, hk.2.2.2.2.2⟩⟩⟩⟩⟩)))⟩; have D : Aside0 (Kd.R k35 35 bI w.heap.size (fun k_ => (w.heap.size ≤ k_)) (.slice a7 b.length a9) b) := ⟨(by rw [hw]; exact (by (with_reducible repeat apply pR); exact R_off HO_1079002.out m.out (by decide) off2_))⟩; have E : Aside0 (bI.heap[F]? = some (.cells #[.int .i64 x, .int .i64 y, u1043002, .int .i64 o, .bool false, .bool q] 24 (0, 0))) := ⟨by rw [hw]; exact (blk_off g.out l.out off2_)⟩; have L : Aside0 (bI.heap[d]? = some (.cells #[.int .i64 Y, .int .i64 aa, .slice a7 b.length a9, .int .i64 ab, .bool ac, .bool ad] 24 (0, 0))) := ⟨by rw [hw]; exact (put6 m.out)⟩; have W : Aside0 (bI.heap[A]? = some (.cells #[.int .i64 Y, .int .i64 aa, .slice a7 b.length a9, .int .i64 ab, .bool ac, .bool ad] 24 (0, 0))) := ⟨by rw [hw]; exact (blk_off r.out aH.out off2_)⟩; have ak : Aside0 (Below w.heap.size w bI) := ⟨by rw [hw]; exact bl_⟩; clear hw HO_9 HO_1043002 HO_1079002 g m r HB; have HO_9 := B; have HO_1043002 := C; have HO_1079002 := D; have g := E; have m := L; have r := W; have HB := ak; clear B C D E L W ak))
          refine bodyPost_ret (results_ctt rfl _ _ d 24 #[.int .i64 Y, .int .i64 aa, .slice a7 b.length a9, .int .i64 ab, .bool ac, .bool ad] (0, 0) _ rfl (vK m.out) Tryd.underlying24 rfl (by kernel_rfl)) rfl ?_
          exact ⟨_, er_, Kd.V_mono (Kd.R_V (by (with_reducible repeat apply pR); exact HO_1079002.out)) (fun k_ hk => by first | exact ⟨(.inr (hk.1)), hk.2⟩ | exact (.inr (hk))), bl_⟩
      ·replace cb := Bool.eq_false_iff.mpr cb
       subst cb
       have H1 : ((shutterref14_Deny.f x y s o false q).bind fun I => (some (I.1, I.2.1, I.2.2.1, I.2.2.2.1, I.2.2.2.2.1, I.2.2.2.2.2, 8, o))) = some (r1, r2, r3, r4, r5, r6, r7, r8) := by rw [if_neg (show ¬ (false = true) by decide)] at H; exact H
       clear H
       have H := H1
       clear H1
       replace H := Option.bind_eq_some_iff.mp H
       obtain ⟨⟨bb, bc, bd, be, bf, bg⟩, fv, H⟩ := H
       replace H : (some (bb, bc, bd, be, bf, bg, 8, o)) = some (r1, r2, r3, r4, r5, r6, r7, r8) := H
       have iP := Z fv
       clear fv
       simp only [Option.some.injEq, Prod.mk.injEq] at H
       obtain ⟨rfl, rfl, rfl, rfl, rfl, rfl, rfl, rfl⟩ := H
       have jD := l.out
       have jO := O.out
       obtain ⟨ic, id, ie, ig, ih, ii, ix, iy, iz, iA, iB, iC⟩ := cells6 g.out
       try go_wp2_with (first | ((with_reducible refine gate_callee (f := 22) rfl ?_); refine goesL_ (some 33) rfl rfl Tryd.func22 (by kernel_rfl) rfl #[.agg #[.int .i64 x, .int .i64 y, .slice Q s.length T, .int .i64 o, .bool false, .bool q], .int .i64 o] rfl ag_ ?_; (with_reducible refine (shutterref11_Open.calls ah x y _ _ s o false q o false _ ?side1 ?side2 hF.out).mono ?_); (case side1 => repeat (first | exact (Kd.V_reads' HO_1043002.out).2.2 | (with_reducible apply pC))); (case side2 => exact (Kd.V_reads' HO_1043002.out).2.1); rintro e jc ⟨rfl, hb⟩; refine ⟨_, rfl, ?_⟩; replace HO_1043002 := Z (vb HO_1043002.out hb); replace g := Z (kb g.out hb); replace m := Z (kb m.out hb); replace HB := Z (below_step bl_ hb); (try clear hb); (try clear bU); (try clear hk); (try clear hi)))
       have B := Z (Kd.V_drew HO_1043002.out)
       have C := Z (blk_drew g.out)
       have D := Z (blk_drew m.out)
       have E := Z (below_drew1 HB.out)
       clear HO_1043002
       clear g
       clear m
       clear HB
       have HO_1043002 := B
       have g := C
       have m := D
       have HB := E
       clear B C D E
       refine start_ (n := 7) (S := fun w' => w'.cell? ⟨F, 0, none⟩ = some (.int .i64 x) ∧ w'.cell? ⟨F, 1, none⟩ = some (.int .i64 y) ∧ w'.cell? ⟨F, 2, none⟩ = some (.slice Q s.length T) ∧ w'.cell? ⟨F, 3, none⟩ = some (.int .i64 o) ∧ w'.cell? ⟨F, 4, none⟩ = some (.bool false) ∧ w'.cell? ⟨F, 5, none⟩ = some (.bool q)) (ds := []) (bv 7 0) (by kernel_rfl) rfl rfl ⟨(blk_cell g.out 0).trans rfl, (blk_cell g.out 1).trans rfl, (blk_cell g.out 2).trans rfl, (blk_cell g.out 3).trans rfl, (blk_cell g.out 4).trans rfl, (blk_cell g.out 5).trans rfl⟩ (fun hHeld => ?_)
       generalize jc.drew = kC at HO_1043002 g m HB hHeld ⊢
       refine pure_ (i := 2) (N := some 37) (v := ?_) (a' := ?_) (bv 7 4) rfl rfl (by kernel_rfl) (fun _ _ _ h => h) (Or.inl ⟨by rfl, ?_⟩) ?_ ?_
       rotate_left
       ·intro w'
        go_simp
        with_reducible rfl
       rotate_left
       ·simp only [Act.put, sA, sB, sC, i64_w, i32_w]
        rfl
       refine take_ (i := 0) (N := some 35) (v := ?_) (a' := ?_) (bv 7 5) rfl rfl (by kernel_rfl) (fun _ _ _ h => h) (Or.inl ⟨by rfl, ?_⟩) hHeld ?_ ?_
       rotate_left
       ·rintro w' ⟨s0, s1, s2, s3, s4, s5⟩
        go_simp
        with_reducible rfl
       rotate_left
       ·simp only [Act.put, sA, sB, sC, i64_w, i32_w]
        rfl
       refine take_ (i := 3) (N := some 38) (v := ?_) (a' := ?_) (bv 7 13) rfl rfl (by kernel_rfl) (fun _ _ _ h => h) (Or.inl ⟨by rfl, ?_⟩) hHeld ?_ ?_
       rotate_left
       ·rintro w' ⟨s0, s1, s2, s3, s4, s5⟩
        go_simp
        with_reducible rfl
       rotate_left
       ·simp only [Act.put, sA, sB, sC, i64_w, i32_w]
        rfl
       refine one_ (i := 1) (N := some 36) (bv 7 15) rfl rfl (by kernel_rfl) (by decide) (fun K hK => ?_)
       refine goes_ Tryd.func40 (by kernel_rfl) rfl #[.agg #[.int .i64 x, .int .i64 y, .slice Q s.length T, .int .i64 o, .bool false, .bool q]] (by rfl) rfl rfl ag_ ?_
       with_reducible refine (shutterref14_Deny.calls x y _ _ s o false q bb bc bd be bf bg _ ?side1 ?side2 iP.out).mono ?_
       (case side1 => repeat (first | exact (Kd.V_reads' HO_1043002.out).2.2 | (with_reducible apply pC)))
       (case side2 => exact (Kd.V_reads' HO_1043002.out).2.1)
       rintro e bW ⟨jS, rfl, ay, hb⟩
       refine ⟨_, rfl, ?_⟩
       have B := Z (Kd.V_elder' (vV HO_1043002.out) (Kd.R_base ay) hb)
       have C := Z (Kd.R_lower (Kd.R_newM (M := fun k_ => (w.heap.size ≤ k_)) ay (below_size bl_) (fun k_ h_ => h_)) (below_size bl_))
       have D := Z (kb g.out hb)
       have E := Z (kb m.out hb)
       have L := Z (below_step bl_ hb)
       clear HO_1043002
       clear g
       clear m
       clear HB
       have HO_1043002 := B
       have b9 := C
       have g := D
       have m := E
       have HB := L
       clear B C D E L
       (try clear hb)
       (try clear bU)
       (try clear hk)
       (try clear hi)
       (try clear ay)
       obtain ⟨fx, fU, fZ⟩ := Kd.R_slice b9.out
       (first | subst fZ | (injection fZ with cc ga cd; have gb := cc.symm; have gc := cd.symm; clear cc ga cd; subst gb; subst gc))
       refine hK.out _ _ ⟨(blk_cell g.out 0).trans rfl, (blk_cell g.out 1).trans rfl, (blk_cell g.out 2).trans rfl, (blk_cell g.out 3).trans rfl, (blk_cell g.out 4).trans rfl, (blk_cell g.out 5).trans rfl⟩ (fun hHeld => ?_)
       clear hK K
       refine norm_ (a' := ?_) ?_ ?_
       rotate_left
       ·show Act.put _ (some 36) _ = _
        simp only [Act.put, sA, sB, sC, i64_w, i32_w]
        rfl
       refine one_ (i := 4) (N := none) (bv 7 31) rfl rfl (by kernel_rfl) (by decide) (fun K hK => ?_)
       have kf : bW.cell? ⟨d, 0, none⟩ = some (.int .i64 0) := (blk_cell m.out 0).trans rfl
       have jp := blk_frozen m.out 0
       have iH := l.out
       have iD := O.out
       have kg : bW.cell? ⟨d, 1, none⟩ = some (.int .i64 0) := (blk_cell m.out 1).trans rfl
       have jq := blk_frozen m.out 1
       have iI := l.out
       have iE := O.out
       have kh : bW.cell? ⟨d, 2, none⟩ = some (.slice none 0 0) := (blk_cell m.out 2).trans rfl
       have jr := blk_frozen m.out 2
       have iJ := l.out
       have iF := O.out
       have ki : bW.cell? ⟨d, 3, none⟩ = some (.int .i64 0) := (blk_cell m.out 3).trans rfl
       have js := blk_frozen m.out 3
       have iK := l.out
       have iG := O.out
       have jP : bW.cell? ⟨d, 4, none⟩ = some (.bool false) := (blk_cell m.out 4).trans rfl
       have iV := blk_frozen m.out 4
       have hY := l.out
       have hW := O.out
       have jQ : bW.cell? ⟨d, 5, none⟩ = some (.bool false) := (blk_cell m.out 5).trans rfl
       have iW := blk_frozen m.out 5
       have hZ := l.out
       have hX := O.out
       refine skip_ (w1 := ?_) (by rfl) rfl ?_ ?_
       rotate_left
       ·go_simp
        rfl
       refine hK.out _ _ ⟨((cell_far (p := ⟨d, _, none⟩) l.out _).trans (((cell_far (p := ⟨d, _, none⟩) l.out _).trans (((cell_far (p := ⟨d, _, none⟩) l.out _).trans (((cell_far (p := ⟨d, _, none⟩) l.out _).trans (((cell_far (p := ⟨d, _, none⟩) l.out _).trans (((cell_far (p := ⟨d, _, none⟩) l.out _).trans (hHeld.1)))))))))))), ((cell_far (p := ⟨d, _, none⟩) l.out _).trans (((cell_far (p := ⟨d, _, none⟩) l.out _).trans (((cell_far (p := ⟨d, _, none⟩) l.out _).trans (((cell_far (p := ⟨d, _, none⟩) l.out _).trans (((cell_far (p := ⟨d, _, none⟩) l.out _).trans (((cell_far (p := ⟨d, _, none⟩) l.out _).trans (hHeld.2.1)))))))))))), ((cell_far (p := ⟨d, _, none⟩) l.out _).trans (((cell_far (p := ⟨d, _, none⟩) l.out _).trans (((cell_far (p := ⟨d, _, none⟩) l.out _).trans (((cell_far (p := ⟨d, _, none⟩) l.out _).trans (((cell_far (p := ⟨d, _, none⟩) l.out _).trans (((cell_far (p := ⟨d, _, none⟩) l.out _).trans (hHeld.2.2.1)))))))))))), ((cell_far (p := ⟨d, _, none⟩) l.out _).trans (((cell_far (p := ⟨d, _, none⟩) l.out _).trans (((cell_far (p := ⟨d, _, none⟩) l.out _).trans (((cell_far (p := ⟨d, _, none⟩) l.out _).trans (((cell_far (p := ⟨d, _, none⟩) l.out _).trans (((cell_far (p := ⟨d, _, none⟩) l.out _).trans (hHeld.2.2.2.1)))))))))))), ((cell_far (p := ⟨d, _, none⟩) l.out _).trans (((cell_far (p := ⟨d, _, none⟩) l.out _).trans (((cell_far (p := ⟨d, _, none⟩) l.out _).trans (((cell_far (p := ⟨d, _, none⟩) l.out _).trans (((cell_far (p := ⟨d, _, none⟩) l.out _).trans (((cell_far (p := ⟨d, _, none⟩) l.out _).trans (hHeld.2.2.2.2.1)))))))))))), ((cell_far (p := ⟨d, _, none⟩) l.out _).trans (((cell_far (p := ⟨d, _, none⟩) l.out _).trans (((cell_far (p := ⟨d, _, none⟩) l.out _).trans (((cell_far (p := ⟨d, _, none⟩) l.out _).trans (((cell_far (p := ⟨d, _, none⟩) l.out _).trans (((cell_far (p := ⟨d, _, none⟩) l.out _).trans (hHeld.2.2.2.2.2))))))))))))⟩ (fun hHeld => ?_)
       clear hK K
       refine pure_ (i := 5) (N := some 5) (v := ?_) (a' := ?_) (bv 7 63) rfl rfl (by kernel_rfl) (fun _ _ _ h => h) (Or.inl ⟨by rfl, ?_⟩) ?_ ?_
       rotate_left
       ·intro w'
        go_simp
        with_reducible rfl
       rotate_left
       ·simp only [Act.put, sA, sB, sC, i64_w, i32_w]
        rfl
       refine pure_ (i := 6) (N := some 6) (v := ?_) (a' := ?_) (bv 7 127) rfl rfl (by kernel_rfl) (fun _ _ _ h => h) (Or.inl ⟨by rfl, ?_⟩) ?_ ?_
       rotate_left
       ·intro w'
        go_simp
        with_reducible rfl
       rotate_left
       ·simp only [Act.put, sA, sB, sC, i64_w, i32_w]
        rfl
       refine done_ (by kernel_rfl) ?_
       try go_wp2
       refine bodyPost_ret (results_ctt rfl _ _ d 24 #[.int .i64 bb, .int .i64 bc, .slice fx bd.length fU, .int .i64 be, .bool bf, .bool bg] (0, 0) _ rfl (put6 m.out) Tryd.underlying24 rfl (by kernel_rfl)) rfl ?_
       exact ⟨_, er_, Kd.V_mono (Kd.R_V (by (with_reducible repeat apply pR); exact Kd.R_mono (f6R d (Kd.R_types b9.out m.out (by decide)) (fun _ hk => hk.2)) (fun _ hk => hk.1.1))) (fun k_ hk => by first | exact ⟨(.inr (hk.1)), hk.2⟩ | exact (.inr (hk))), bl_⟩

end Go.Proofs.YtggecanpjkpkiaaDoor.P
