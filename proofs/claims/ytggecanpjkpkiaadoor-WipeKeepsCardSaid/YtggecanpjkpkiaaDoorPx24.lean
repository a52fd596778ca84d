/- pp.py and press2.py (wip/tools) wrote this text. -/
import Derived.Test.YtggecanpjkpkiaaDoorPx0
import Derived.Test.YtggecanpjkpkiaaDoorPxS
import Derived.Test.YtggecanpjkpkiaaDoorPx3
import Derived.Test.YtggecanpjkpkiaaDoorPx4
import Derived.Test.YtggecanpjkpkiaaDoorPx13
import Derived.Test.YtggecanpjkpkiaaDoorPx14
import Derived.Test.YtggecanpjkpkiaaDoorPx21
import Derived.Test.YtggecanpjkpkiaaDoorPx21N
import Derived.Test.YtggecanpjkpkiaaDoorPx22
namespace Go.Proofs.YtggecanpjkpkiaaDoor.P
open Go.RowKit Go.Proofs.YtggecanpjkpkiaaDoorW.PrintWords Go.Proofs.YtggecanpjkpkiaaDoorW.PrintLast Go.Proofs.YtggecanpjkpkiaaDoorW.PrintMore
attribute [local go_sem] max2_int min2_int max_two min_two max_three min_three max_four min_four
attribute [local go_sem] Instr.field asAgg
set_option linter.unusedVariables false
set_option linter.unusedSimpArgs false

/-! ### shutterlaw16_WipeKeeps: function 4 -/
def shutterlaw16_WipeKeeps.l0 : Nat → Int → Int → Int → List (S35) → Int → Bool → Bool → Int → Int → List (S35) → Int → Bool → Bool → Int → Int → List (S35) → Int → Bool → Bool → Option (Bool)
 | 0, _, _, _, _, _, _, _, _, _, _, _, _, _, _, _, _, _, _, _ => none
 | k + 1, u, a, b, c, d, e, g, h, i, j, l, m, n, p, q, o, r, s, t => if u < (o.length : Int) then (if 0 ≤ u then (shutterlaw16_WipeKeeps.l0 k (wrap64 (u + 1)) a b c d e g h i j l m n p q (o.set (u : Int).toNat (⟨false, (⟨false, false, 0, false⟩ : S33), 7⟩ : S35)) r s t) else (none)) else ((shutterref10_Same.f k a b c d e g h i j l m n).bind fun v => (some v))
def shutterlaw16_WipeKeeps.f (k : Nat) (c : Int) (d : Int) (i : List (S35)) (e : Int) (g : Bool) (h : Bool) (a1 : Int) : Option (Bool) := (shutterlaw16_awake.f k).bind fun j => (if j = true then ((shutterref10_Few.f k c d i e g h).bind fun l => (if l = true then ((shutterref10_Copy.f c d i e g h).bind fun a => ((wipe_Do.f k c d i e g h (wrap64 (12 + (wrap64 (Int.tmod a1 3))))).bind fun b => (if b.2.2.2.2.2.2.1.isNone = true then (shutterlaw16_WipeKeeps.l0 k 0 c d i e g h a.1 a.2.1 a.2.2.1 a.2.2.2.1 a.2.2.2.2.1 a.2.2.2.2.2 b.1 b.2.1 b.2.2.1 b.2.2.2.1 b.2.2.2.2.1 b.2.2.2.2.2.1) else ((shutterref10_Same.f k c d i e g h a.1 a.2.1 a.2.2.1 a.2.2.2.1 a.2.2.2.2.1 a.2.2.2.2.2).bind fun n => (some n))))) else ((shutterlaw16_awake.f k).bind fun m => (some m)))) else (none))
theorem shutterlaw16_WipeKeeps.mono_l : ∀ k, (∀ m n o p q s t u v w a b c d e f g i j, LeO (shutterlaw16_WipeKeeps.l0 k m n o p q s t u v w a b c d e f g i j) (shutterlaw16_WipeKeeps.l0 (k + 1) m n o p q s t u v w a b c d e f g i j))
 | 0 => fun _ _ _ _ _ _ _ _ _ _ _ _ _ _ _ _ _ _ _ r h => by simp [shutterlaw16_WipeKeeps.l0] at h
 | k + 1 => by
  have l := shutterlaw16_WipeKeeps.mono_l k
  ·intro m n o p q s t u v w a b c d e f g i j
   unfold shutterlaw16_WipeKeeps.l0
   repeat' first
   | (with_reducible exact l _ _ _ _ _ _ _ _ _ _ _ _ _ _ _ _ _ _ _)
   | (with_reducible exact shutterlaw16_awake.mono _)
   | (with_reducible exact shutterref10_Few.mono _ _ _ _ _ _ _)
   | (with_reducible exact shutterref10_Same.mono _ _ _ _ _ _ _ _ _ _ _ _ _)
   | (with_reducible exact wipe_Do.mono _ _ _ _ _ _ _ _)
   | (with_reducible exact LeO.refl _)
   | (with_reducible exact LeO.none _)
   | (with_reducible refine LeO.ite ?_ ?_)
   | (with_reducible refine LeO.bind ?_ (fun _ => ?_))
   | exact l _ _ _ _ _ _ _ _ _ _ _ _ _ _ _ _ _ _ _
   | exact shutterlaw16_awake.mono _
   | exact shutterref10_Few.mono _ _ _ _ _ _ _
   | exact shutterref10_Same.mono _ _ _ _ _ _ _ _ _ _ _ _ _
   | exact wipe_Do.mono _ _ _ _ _ _ _ _
   | exact LeO.none _
   | refine LeO.ite ?_ ?_
   | refine LeO.bind ?_ (fun _ => ?_)
theorem shutterlaw16_WipeKeeps.mono : ∀ a0 a1 b c a4 d e k, LeO (shutterlaw16_WipeKeeps.f k a0 a1 b c a4 d e) (shutterlaw16_WipeKeeps.f (k + 1) a0 a1 b c a4 d e) := by
 intro a0 a1 b c a4 d e k
 have a := shutterlaw16_WipeKeeps.mono_l k
 unfold shutterlaw16_WipeKeeps.f
 repeat' first
   | (with_reducible exact a _ _ _ _ _ _ _ _ _ _ _ _ _ _ _ _ _ _ _)
   | (with_reducible exact shutterlaw16_awake.mono _)
   | (with_reducible exact shutterref10_Few.mono _ _ _ _ _ _ _)
   | (with_reducible exact shutterref10_Same.mono _ _ _ _ _ _ _ _ _ _ _ _ _)
   | (with_reducible exact wipe_Do.mono _ _ _ _ _ _ _ _)
   | (with_reducible exact LeO.refl _)
   | (with_reducible exact LeO.none _)
   | (with_reducible refine LeO.ite ?_ ?_)
   | (with_reducible refine LeO.bind ?_ (fun _ => ?_))
   | exact a _ _ _ _ _ _ _ _ _ _ _ _ _ _ _ _ _ _ _
   | exact shutterlaw16_awake.mono _
   | exact shutterref10_Few.mono _ _ _ _ _ _ _
   | exact shutterref10_Same.mono _ _ _ _ _ _ _ _ _ _ _ _ _
   | exact wipe_Do.mono _ _ _ _ _ _ _ _
   | exact LeO.none _
   | refine LeO.ite ?_ ?_
   | refine LeO.bind ?_ (fun _ => ?_)
set_option maxHeartbeats 8000000 in
set_option maxRecDepth 100000 in
theorem shutterlaw16_WipeKeeps.calls (k : Nat) (m : Int) (q : Int) (ac : Option Addr) (ad : Nat) (d : List (S35)) (s : Int) (u : Bool) (x : Bool) (a1 : Int) (r : Bool) (w : World) (a6 : Kd.C k35 w ac d.length d) (a4 : d.length ≤ ad) (hG : LaidG w) (h : shutterlaw16_WipeKeeps.f k m q d s u x a1 = some r) :
  Calls Tryd.prog 4 #[.agg #[.int .i64 m, .int .i64 q, .slice ac d.length ad, .int .i64 s, .bool u, .bool x], .int .u8 a1] w fun e w' => e = .returned (.bool r) ∧ Below w.heap.size w w' := by
 have HG := Z hG
 clear hG
 have gp := Tryd.underlying24
 have gr := Tryd.underlying35
 have gq := Tryd.underlying28
 have gs := Tryd.underlying52
 have aq := Z a6
 have ap := Z a4
 clear a6 a4
 have HB := Z (Below.refl w.heap.size w)
 have H : ((shutterlaw16_awake.f k).bind fun aS => (if aS = true then ((shutterref10_Few.f k m q d s u x).bind fun aD => (if aD = true then ((shutterref10_Copy.f m q d s u x).bind fun b => ((wipe_Do.f k m q d s u x (wrap64 (12 + (wrap64 (Int.tmod a1 3))))).bind fun i => (if i.2.2.2.2.2.2.1.isNone = true then (shutterlaw16_WipeKeeps.l0 k 0 m q d s u x b.1 b.2.1 b.2.2.1 b.2.2.2.1 b.2.2.2.2.1 b.2.2.2.2.2 i.1 i.2.1 i.2.2.1 i.2.2.2.1 i.2.2.2.2.1 i.2.2.2.2.2.1) else ((shutterref10_Same.f k m q d s u x b.1 b.2.1 b.2.2.1 b.2.2.2.1 b.2.2.2.2.1 b.2.2.2.2.2).bind fun W => (some W))))) else ((shutterlaw16_awake.f k).bind fun ak => (some ak)))) else (none))) = some r := h
 clear h
 replace H := Option.bind_eq_some_iff.mp H
 obtain ⟨aS, cI, H⟩ := H
 replace H : (if aS = true then ((shutterref10_Few.f k m q d s u x).bind fun aD => (if aD = true then ((shutterref10_Copy.f m q d s u x).bind fun b => ((wipe_Do.f k m q d s u x (wrap64 (12 + (wrap64 (Int.tmod a1 3))))).bind fun i => (if i.2.2.2.2.2.2.1.isNone = true then (shutterlaw16_WipeKeeps.l0 k 0 m q d s u x b.1 b.2.1 b.2.2.1 b.2.2.2.1 b.2.2.2.2.1 b.2.2.2.2.2 i.1 i.2.1 i.2.2.1 i.2.2.2.1 i.2.2.2.2.1 i.2.2.2.2.2.1) else ((shutterref10_Same.f k m q d s u x b.1 b.2.1 b.2.2.1 b.2.2.2.1 b.2.2.2.2.1 b.2.2.2.2.2).bind fun W => (some W))))) else ((shutterlaw16_awake.f k).bind fun ak => (some ak)))) else (none)) = some r := H
 have A3 := Z cI
 clear cI
 by_cases c4 : aS = true
 ·subst c4
  have H1 : ((shutterref10_Few.f k m q d s u x).bind fun aD => (if aD = true then ((shutterref10_Copy.f m q d s u x).bind fun b => ((wipe_Do.f k m q d s u x (wrap64 (12 + (wrap64 (Int.tmod a1 3))))).bind fun i => (if i.2.2.2.2.2.2.1.isNone = true then (shutterlaw16_WipeKeeps.l0 k 0 m q d s u x b.1 b.2.1 b.2.2.1 b.2.2.2.1 b.2.2.2.2.1 b.2.2.2.2.2 i.1 i.2.1 i.2.2.1 i.2.2.2.1 i.2.2.2.2.1 i.2.2.2.2.2.1) else ((shutterref10_Same.f k m q d s u x b.1 b.2.1 b.2.2.1 b.2.2.2.1 b.2.2.2.2.1 b.2.2.2.2.2).bind fun W => (some W))))) else ((shutterlaw16_awake.f k).bind fun ak => (some ak)))) = some r := by rw [if_pos rfl] at H; exact H
  clear H
  have H := H1
  clear H1
  replace H := Option.bind_eq_some_iff.mp H
  obtain ⟨aD, cJ, H⟩ := H
  replace H : (if aD = true then ((shutterref10_Copy.f m q d s u x).bind fun b => ((wipe_Do.f k m q d s u x (wrap64 (12 + (wrap64 (Int.tmod a1 3))))).bind fun i => (if i.2.2.2.2.2.2.1.isNone = true then (shutterlaw16_WipeKeeps.l0 k 0 m q d s u x b.1 b.2.1 b.2.2.1 b.2.2.2.1 b.2.2.2.2.1 b.2.2.2.2.2 i.1 i.2.1 i.2.2.1 i.2.2.2.1 i.2.2.2.2.1 i.2.2.2.2.2.1) else ((shutterref10_Same.f k m q d s u x b.1 b.2.1 b.2.2.1 b.2.2.2.1 b.2.2.2.2.1 b.2.2.2.2.2).bind fun W => (some W))))) else ((shutterlaw16_awake.f k).bind fun ak => (some ak))) = some r := H
  have A5 := Z cJ
  clear cJ
  by_cases c6 : aD = true
  ·subst c6
   have H1 : ((shutterref10_Copy.f m q d s u x).bind fun b => ((wipe_Do.f k m q d s u x (wrap64 (12 + (wrap64 (Int.tmod a1 3))))).bind fun i => (if i.2.2.2.2.2.2.1.isNone = true then (shutterlaw16_WipeKeeps.l0 k 0 m q d s u x b.1 b.2.1 b.2.2.1 b.2.2.2.1 b.2.2.2.2.1 b.2.2.2.2.2 i.1 i.2.1 i.2.2.1 i.2.2.2.1 i.2.2.2.2.1 i.2.2.2.2.2.1) else ((shutterref10_Same.f k m q d s u x b.1 b.2.1 b.2.2.1 b.2.2.2.1 b.2.2.2.2.1 b.2.2.2.2.2).bind fun W => (some W))))) = some r := by rw [if_pos rfl] at H; exact H
   clear H
   have H := H1
   clear H1
   replace H := Option.bind_eq_some_iff.mp H
   obtain ⟨⟨M, O, L, P, Q, S⟩, cL, H⟩ := H
   replace H : ((wipe_Do.f k m q d s u x (wrap64 (12 + (wrap64 (Int.tmod a1 3))))).bind fun i => (if i.2.2.2.2.2.2.1.isNone = true then (shutterlaw16_WipeKeeps.l0 k 0 m q d s u x M O L P Q S i.1 i.2.1 i.2.2.1 i.2.2.2.1 i.2.2.2.2.1 i.2.2.2.2.2.1) else ((shutterref10_Same.f k m q d s u x M O L P Q S).bind fun W => (some W)))) = some r := H
   have A7 := Z cL
   clear cL
   replace H := Option.bind_eq_some_iff.mp H
   obtain ⟨⟨ae, af, al, ag, ah, ai, cw, cx⟩, cM, H⟩ := H
   replace H : (if cw.isNone = true then (shutterlaw16_WipeKeeps.l0 k 0 m q d s u x M O L P Q S ae af al ag ah ai) else ((shutterref10_Same.f k m q d s u x M O L P Q S).bind fun W => (some W))) = some r := H
   have A8 := Z cM
   clear cM
   rcases cw with _ | aZ
   ·have H1 : (shutterlaw16_WipeKeeps.l0 k 0 m q d s u x M O L P Q S ae af al ag ah ai) = some r := by rw [if_pos (show (none : Option Er).isNone = true by rfl)] at H; exact H
    clear H
    have H := H1
    clear H1
    try simp only [errW_none, errW_some]
    have H' := Z H
    clear H
    go_enter Tryd.func4, Tryd.ntmps4
    go_wp2_with (first | ((with_reducible refine gate_dst (N := 2) rfl ?_); refine bx_ 2 24 #[.int .i64 m, .int .i64 q, .slice ac d.length ad, .int .i64 s, .bool u, .bool x] ?_; intro T hg w9 hbox hb; have a := Z (hbox); have aF := Z (ln_ hg : w.heap.size ≤ T); have a2 := Z (ln_ hg : w.heap.size ≤ T); replace HB := Z (below_step bl_ hb); clear hb hbox hg) | ((with_reducible refine gate_callee (f := 17) rfl ?_); refine goesL_ (some 9) rfl rfl Tryd.func17 (by kernel_rfl) rfl #[] rfl ag_ ?_; (with_reducible refine (shutterlaw16_awake.calls k  true _ ?sideG A3.out).mono ?_); (case sideG => exact laidG_below HG.out bl_ rfl); rintro e gy ⟨rfl, hb⟩; refine ⟨_, rfl, ?_⟩; replace a := Z (kb a.out hb); replace HB := Z (below_step bl_ hb); (try clear hb); (try clear az); (try clear hk); (try clear hi); obtain ⟨a9, ba, bb, bc, bd, be, bE, bF, bG, bH, bI, bJ⟩ := cells6 a.out) | (go_at_call 18; (with_reducible refine (shutterref10_Few.calls k m q _ _ d s u x true _ ?side1 ?side2 A5.out).mono ?_); (case side1 => repeat (first | exact (Kd.C_below aq.out HB.out) | (with_reducible apply pC))); (case side2 => exact ap.out); rintro e gz ⟨rfl, hb⟩; replace a := Z (kb a.out hb); replace HB := Z (below_step bl_ hb); (try clear hb); (try clear az); (try clear hk); (try clear hi); obtain ⟨bf, bg, bh, bi, bj, bk, bK, bL, bM, bN, bO, bP⟩ := cells6 a.out) | ((with_reducible refine gate_callee (f := 23) rfl ?_); refine goesL_ (some 18) rfl rfl Tryd.func23 (by kernel_rfl) rfl #[.agg #[.int .i64 m, .int .i64 q, .slice ac d.length ad, .int .i64 s, .bool u, .bool x]] rfl ag_ ?_; (with_reducible refine (shutterref10_Copy.calls m q _ _ d s u x M O L P Q S _ ?side1 ?side2 A7.out).mono ?_); (case side1 => repeat (first | exact (Kd.C_below aq.out HB.out) | (with_reducible apply pC))); (case side2 => exact ap.out); rintro e gA ⟨cZ, rfl, aA, hb⟩; refine ⟨_, rfl, ?_⟩; have D := Z (Kd.R_lower aA (below_size bl_)); replace a := Z (kb a.out hb); replace HB := Z (below_step bl_ hb); (try clear hb); (try clear az); (try clear hk); (try clear hi); (try clear aA)) | ((with_reducible refine gate_dst (N := 5) rfl ?_); refine bx_ 5 24 #[.int .i64 0, .int .i64 0, .slice none 0 0, .int .i64 0, .bool false, .bool false] ?_; intro G hg fH hbox hb; replace D := Z (rb D.out hb); have y := Z (hbox); have aJ := Z (ln_ hg : w.heap.size ≤ G); have cC := Z (ln_ hg : w.heap.size ≤ G); replace HB := Z (below_step bl_ hb); have aj := Z (nl a.out hg); have ar := Z (ng a.out hg); replace a := Z (kb a.out hb); clear hb hbox hg; have fK := ar.out; have fV := aj.out; obtain ⟨bl, bm, bn, bo, bp, bq, bQ, bR, bS, bT, bU, bV⟩ := cells6 y.out; obtain ⟨aK, aM, cR⟩ := Kd.R_slice D.out; subst cR) | ((with_reducible refine gate_store (t := 24) (p := 5) rfl ?_); refine sx_ 24 5 ((((((fH.setCell ⟨G, 0, none⟩ (.int .i64 M)).setCell ⟨G, 1, none⟩ (.int .i64 O)).setCell ⟨G, 2, none⟩ (.slice aK L.length aM)).setCell ⟨G, 3, none⟩ (.int .i64 P)).setCell ⟨G, 4, none⟩ (.bool Q)).setCell ⟨G, 5, none⟩ (.bool S)) ?_; intro a7 hw; replace D : Aside0 (Kd.R k35 35 a7 w.heap.size (fun _ => True) (.slice aK L.length aM) L) := ⟨(by rw [hw]; exact (by (with_reducible repeat apply pR); exact R_off D.out y.out (by decide) off2_))⟩; replace a : Aside0 (a7.heap[T]? = some (.cells #[.int .i64 m, .int .i64 q, .slice ac d.length ad, .int .i64 s, .bool u, .bool x] 24 (0, 0))) := ⟨(by rw [hw]; exact (by (with_reducible repeat apply pK); exact blk_off a.out aj.out off2_))⟩; replace y : Aside0 (a7.heap[G]? = some (.cells #[.int .i64 M, .int .i64 O, .slice aK L.length aM, .int .i64 P, .bool Q, .bool S] 24 (0, 0))) := ⟨by rw [hw]; exact (put6 y.out)⟩; replace HB : Aside0 (Below w.heap.size w a7) := ⟨by rw [hw]; exact bl_⟩; clear hw; obtain ⟨br, bs, bt, bu, bv, bw, bW, bX, bY, bZ, b0, b1⟩ := cells6 a.out) | ((with_reducible refine gate_callee (f := 19) rfl ?_); refine goesL_ (some 25) rfl rfl Tryd.func19 (by kernel_rfl) rfl #[.agg #[.int .i64 m, .int .i64 q, .slice ac d.length ad, .int .i64 s, .bool u, .bool x], .int .i64 (wrap64 (12 + (wrap64 (Int.tmod a1 3))))] rfl ag_ ?_; (with_reducible refine (wipe_Do.callsN k m q (fun k_ => k_ < w.heap.size) _ _ d s u x (wrap64 (12 + (wrap64 (Int.tmod a1 3)))) ae af al ag ah ai cx _ ?side1 A8.out).mono ?_); (case side1 => exact Kd.V_mk ap.out (Kd.F_below (Kd.C_F k35_heap aq.out) bl_)); rintro e gB ⟨cz, c0, rfl, aA, aT, hb⟩; refine ⟨_, rfl, ?_⟩; have ab := Z (Kd.R_lower (Kd.R_new' (Kd.R_mono (ok' := fun k_ => True) aA (fun _ hk_ => trivial)) (Kd.R_lt (by (with_reducible repeat apply pR); exact D.out))) (below_size bl_)); have am := Z (Kd.V_lower (Kd.V_mono (ok' := fun k_ => some k_ ≠ (cz : Value).ownBlock ∧ some k_ ≠ (.slice aK L.length aM : Value).ownBlock ∧ k_ ≠ T ∧ k_ ≠ G) aT (fun k_ hk_ => ⟨hk_.2, Or.elim hk_.1 (fun hs_ => fun e_ => Nat.not_le.2 hs_ (Kd.R_base D.out k_ e_.symm)) (fun hn_ => (Kd.fresh' (Kd.R_lt (by (with_reducible repeat apply pR); exact D.out)) k_ hn_)), Or.elim hk_.1 (fun hs_ => fun e_ => Nat.not_le.2 hs_ (by rw [e_]; exact aF.out)) (fun hn_ => (fb a.out k_ hn_)), Or.elim hk_.1 (fun hs_ => fun e_ => Nat.not_le.2 hs_ (by rw [e_]; exact aJ.out)) (fun hn_ => (fb y.out k_ hn_))⟩)) (below_size bl_)); replace D := Z (Kd.R_elder' (by (with_reducible repeat apply pR); exact D.out) (Kd.R_base aA) hb); replace a := Z (kb a.out hb); replace y := Z (kb y.out hb); replace HB := Z (below_step bl_ hb); (try clear hb); (try clear az); (try clear hk); (try clear hi); (try clear aA); (try clear aT); (try simp only [errW_none, errW_some])) | ((with_reducible refine gate_dst (N := 6) rfl ?_); refine bx_ 6 24 #[.int .i64 0, .int .i64 0, .slice none 0 0, .int .i64 0, .bool false, .bool false] ?_; intro l hg gC hbox hb; replace D := Z (rb D.out hb); replace ab := Z (rb ab.out hb); replace am := Z (ve am.out hg hb); have J := Z (hbox); have cE := Z (ln_ hg : w.heap.size ≤ l); have cD := Z (ln_ hg : w.heap.size ≤ l); replace HB := Z (below_step bl_ hb); have X := Z (nl a.out hg); have an := Z (ng a.out hg); replace a := Z (kb a.out hb); have Y := Z (nl y.out hg); have ao := Z (ng y.out hg); replace y := Z (kb y.out hb); clear hb hbox hg; have fL := an.out; have fW := X.out; have fM := ao.out; have fX := Y.out; obtain ⟨bx, bz, bA, bB, bC, bD, b2, b3, b4, b5, b6, b7⟩ := cells6 J.out; obtain ⟨aW, aY, cS⟩ := Kd.R_slice ab.out; subst cS))
    go_loopg [8] k (fun kq v8 w' => ∃ (E : Int) (aa : List (S35)) (z : List (S35)) (u852002 : Value) (u865002 : Value), v8 = .int .i64 E ∧ Aside0 (shutterlaw16_WipeKeeps.l0 kq E m q d s u x M O aa P Q S ae af z ag ah ai = some r) ∧ Aside0 (kq ≤ k) ∧ Aside0 (Kd.R k35 35 w' w.heap.size (fun k_ => some k_ ≠ (u865002 : Value).ownBlock) u852002 aa) ∧ Aside0 (Kd.R k35 35 w' w.heap.size (fun k_ => some k_ ≠ (u852002 : Value).ownBlock) u865002 z) ∧ Aside0 (w'.heap[T]? = some (.cells #[.int .i64 m, .int .i64 q, (.slice ac d.length ad), .int .i64 s, .bool u, .bool x] 24 (0, 0))) ∧ Aside0 (w'.heap[G]? = some (.cells #[.int .i64 M, .int .i64 O, u852002, .int .i64 P, .bool Q, .bool S] 24 (0, 0))) ∧ Aside0 (w'.heap[l]? = some (.cells #[.int .i64 ae, .int .i64 af, u865002, .int .i64 ag, .bool ah, .bool ai] 24 (0, 0))) ∧ Aside0 (Below w.heap.size w w'))
    case atStart => exact ⟨(0), (L), (al), (.slice aK L.length aM), (.slice aW al.length aY), (dn_), H', ⟨Nat.le_refl _⟩, ⟨by (with_reducible repeat apply pR); exact Kd.R_mono (f6R l (Kd.R_types D.out J.out (by decide)) (fun _ hk => hk.2)) (fun _ hk => hk.1.2)⟩, ⟨by (with_reducible repeat apply pR); exact Kd.R_mono (f6R l (Kd.R_types ab.out J.out (by decide)) (fun _ hk => hk.2)) (fun _ hk => hk.1.2)⟩, ⟨by (with_reducible repeat apply pK); exact blk_off a.out X.out off2_⟩, ⟨by (with_reducible repeat apply pK); exact blk_off y.out Y.out off2_⟩, ⟨put6 J.out⟩, ⟨bl_⟩⟩
    case round =>
     clear H'
     try clear c1
     try clear c2
     try clear p2
     try clear c4
     try clear c6
     try clear p6
     try clear q8
     try clear gu
     try clear gv
     try clear gw
     try clear gx
     try clear c24
     try clear a9
     try clear ba
     try clear bb
     try clear bc
     try clear bd
     try clear be
     try clear bf
     try clear bg
     try clear bh
     try clear bi
     try clear bj
     try clear bk
     try clear bl
     try clear bm
     try clear bn
     try clear bo
     try clear bp
     try clear bq
     try clear br
     try clear bs
     try clear bt
     try clear bu
     try clear bv
     try clear bw
     try clear bx
     try clear bz
     try clear bA
     try clear bB
     try clear bC
     try clear bD
     try clear bE
     try clear bF
     try clear bG
     try clear bH
     try clear bI
     try clear bJ
     try clear bK
     try clear bL
     try clear bM
     try clear bN
     try clear bO
     try clear bP
     try clear bQ
     try clear bR
     try clear bS
     try clear bT
     try clear bU
     try clear bV
     try clear bW
     try clear bX
     try clear bY
     try clear bZ
     try clear b0
     try clear b1
     try clear b2
     try clear b3
     try clear b4
     try clear b5
     try clear b6
     try clear b7
     try clear aZ
     obtain ⟨E, aa, z, u852002, u865002, rfl, HA, cN, HO_852002, HO_865002, a, y, J, HB⟩ := hrel
     cases gk with
     | zero => exact absurd HA.out (by simp [shutterlaw16_WipeKeeps.l0])
     | succ k1 =>
      have H := HA.out
      clear HA
      simp only [shutterlaw16_WipeKeeps.l0] at H
      by_cases aR : E < (z.length : Int)
      ·rw [if_pos aR] at H
       have cG : decide (E < (z.length : Int)) = true := decide_eq_true aR
       clear aR
       by_cases a3 : 0 ≤ E
       ·rw [if_pos a3] at H
        have fJ : decide (0 ≤ E) = true := decide_eq_true a3
        clear a3
        obtain ⟨a0, aG⟩ : ∃ y_ : List (S35), y_ = (z.set (E : Int).toNat (⟨false, (⟨false, false, 0, false⟩ : S33), 7⟩ : S35)) := ⟨_, rfl⟩
        replace H : (shutterlaw16_WipeKeeps.l0 k1 (wrap64 (E + 1)) m q d s u x M O aa P Q S ae af a0 ag ah ai) = some r := by first | (rw [aG]; with_reducible exact H) | (have cb := (Option.bind_some _ _).symm.trans H; rw [aG]; with_reducible exact cb) | (have cb := (Option.bind_some _ _).symm.trans H; with_reducible exact cb) | with_reducible exact H | (rw [aG]; exact H) | exact H
        have cF := Z aG
        clear aG
        have H' := Z H
        clear H
        have fN := an.out
        have fY := X.out
        have fO := ao.out
        have fZ := Y.out
        obtain ⟨c3, c5, c7, c8, c9, da, eg, eh, ei, ej, ek, el⟩ := cells6 J.out
        obtain ⟨gg, aI, cT⟩ := Kd.R_slice HO_865002.out
        subst cT
        have p29 : 0 ≤ (E : Int) := od_
        have cv : (E : Int) < ((z.length : Int) : Int) := od_
        obtain ⟨K, gn, ce, cf, cY, gm, cc⟩ := Kd.R_form HO_865002.out (by omega)
        (first | cases ce | (injection ce with ea_ en_ ec_; (first | subst ea_ | (injection ea_ with ea_; subst ea_)); subst ec_; clear en_))
        have aH := Z cf
        have gi := Z cc
        clear cf cY cc
        obtain ⟨gj, cH, cg, aw, ax⟩ := Kd.R_elem HO_865002.out z35 (E : Int) p29 cv
        obtain rfl := k35_openM cg
        have fB : wr.cell? ⟨K, (E : Int).toNat * 6, none⟩ = some (.bool ((rd_T35 z E).f0)) := aw 0 _ rfl
        have fC : wr.cell? ⟨K, (E : Int).toNat * 6 + 1, none⟩ = some (.bool ((rd_T35 z E).f1.f0)) := aw 1 _ rfl
        have fD : wr.cell? ⟨K, (E : Int).toNat * 6 + 2, none⟩ = some (.bool ((rd_T35 z E).f1.f1)) := aw 2 _ rfl
        have fE : wr.cell? ⟨K, (E : Int).toNat * 6 + 3, none⟩ = some (.int .i64 ((rd_T35 z E).f1.f2)) := aw 3 _ rfl
        have fF : wr.cell? ⟨K, (E : Int).toNat * 6 + 4, none⟩ = some (.bool ((rd_T35 z E).f1.f3)) := aw 4 _ rfl
        have fG : wr.cell? ⟨K, (E : Int).toNat * 6 + 5, none⟩ = some (.int .u8 ((rd_T35 z E).f2)) := aw 5 _ rfl
        have fv : wr.frozen? ⟨K, (E : Int).toNat * 6, none⟩ = false := ax 0
        have fw : wr.frozen? ⟨K, (E : Int).toNat * 6 + 1, none⟩ = false := ax 1
        have fx : wr.frozen? ⟨K, (E : Int).toNat * 6 + 2, none⟩ = false := ax 2
        have fy : wr.frozen? ⟨K, (E : Int).toNat * 6 + 3, none⟩ = false := ax 3
        have fz : wr.frozen? ⟨K, (E : Int).toNat * 6 + 4, none⟩ = false := ax 4
        have fA : wr.frozen? ⟨K, (E : Int).toNat * 6 + 5, none⟩ = false := ax 5
        clear cH aw ax cg
        replace p29 := eq_true p29
        replace cv := eq_true cv
        have cd := Z (show Kd.R k35 35 wr w.heap.size (fun k_ => some k_ ≠ (u852002 : Value).ownBlock) (.slice (some ⟨K, 0, none⟩) z.length aI) z from (by (with_reducible repeat apply pR); exact HO_865002.out))
        obtain ⟨gl, a5, ch, au, ay⟩ := Kd.R_elem cd.out z35 (E : Int) (od_) (by have h_ : (E : Int) < ((z.length : Int) : Int) := od_; first | exact h_ | (have e_ := (Kd.R_reads' HO_865002.out).1; omega) | simpa using h_)
        obtain rfl := k35_openM ch
        have aX := Kd.R_seg cd.out (E : Int) (od_) (by have h_ : (E : Int) < ((z.length : Int) : Int) := od_; first | exact h_ | (have e_ := (Kd.R_reads' HO_865002.out).1; omega) | simpa using h_) (seg := [.bool false, .bool false, .bool false, .int .i64 0, .bool false, .int .u8 7]) (j := 0) a5 au (show 6 ≤ 6 from by decide) (x' := (⟨false, (⟨false, false, 0, false⟩ : S33), 7⟩ : S35)) (k35_mkM _ _ _ (⟨false, (⟨false, false, 0, false⟩ : S33), 7⟩ : S35) ) (fun _ hk => hk)
        have co := au 0 _ rfl
        (try simp only [show (k35).sz = 6 from rfl, Nat.mul_one, Nat.add_zero] at co)
        have ci := ay 0
        (try simp only [show (k35).sz = 6 from rfl, Nat.mul_one, Nat.add_zero] at ci)
        have cp := au 1 _ rfl
        (try simp only [show (k35).sz = 6 from rfl, Nat.mul_one, Nat.add_zero] at cp)
        have cj := ay 1
        (try simp only [show (k35).sz = 6 from rfl, Nat.mul_one, Nat.add_zero] at cj)
        have cq := au 2 _ rfl
        (try simp only [show (k35).sz = 6 from rfl, Nat.mul_one, Nat.add_zero] at cq)
        have ck := ay 2
        (try simp only [show (k35).sz = 6 from rfl, Nat.mul_one, Nat.add_zero] at ck)
        have cr := au 3 _ rfl
        (try simp only [show (k35).sz = 6 from rfl, Nat.mul_one, Nat.add_zero] at cr)
        have cl := ay 3
        (try simp only [show (k35).sz = 6 from rfl, Nat.mul_one, Nat.add_zero] at cl)
        have ct := au 4 _ rfl
        (try simp only [show (k35).sz = 6 from rfl, Nat.mul_one, Nat.add_zero] at ct)
        have cm := ay 4
        (try simp only [show (k35).sz = 6 from rfl, Nat.mul_one, Nat.add_zero] at cm)
        have cu := au 5 _ rfl
        (try simp only [show (k35).sz = 6 from rfl, Nat.mul_one, Nat.add_zero] at cu)
        have cn := ay 5
        (try simp only [show (k35).sz = 6 from rfl, Nat.mul_one, Nat.add_zero] at cn)
        clear a5 au ay ch
        go_wp2_with (first | ((with_reducible refine gate_store (t := 35) (p := 41) rfl ?_); refine sx_ 35 41 ((((((wr.setCell ⟨K, (E : Int).toNat * 6, none⟩ (.bool false)).setCell ⟨K, (E : Int).toNat * 6 + 1, none⟩ (.bool false)).setCell ⟨K, (E : Int).toNat * 6 + 2, none⟩ (.bool false)).setCell ⟨K, (E : Int).toNat * 6 + 3, none⟩ (.int .i64 0)).setCell ⟨K, (E : Int).toNat * 6 + 4, none⟩ (.bool false)).setCell ⟨K, (E : Int).toNat * 6 + 5, none⟩ (.int .u8 7)) ?_; intro cA hw; have hg : wr.grownBy cA (some K) := (by rw [hw]; exact aX.2); have hp_ : Kd.R k35 35 cA w.heap.size (fun k_ => some k_ ≠ (u852002 : Value).ownBlock) (.slice (some ⟨K, 0, none⟩) z.length aI) a0 := (by rw [hw, cF.out]; exact aX.1); clear aX; replace HO_852002 := Z (Kd.R_after (v := (.slice (some ⟨K, 0, none⟩) z.length aI)) (v1 := (.slice (some ⟨K, 0, none⟩) z.length aI)) (ok := (fun _ => True)) (by (with_reducible repeat apply pR); exact Kd.R_mono HO_852002.out (fun _ hk => ⟨trivial, hk⟩)) hg (.inl rfl)); replace a := Z (blk_grown (g := T) (o := .cells #[.int .i64 m, .int .i64 q, .slice ac d.length ad, .int .i64 s, .bool u, .bool x] 24 (0, 0)) (vK a.out) hg (Kd.R_ne HO_865002.out a.out (by decide))); replace y := Z (blk_grown (g := G) (o := .cells #[.int .i64 M, .int .i64 O, u852002, .int .i64 P, .bool Q, .bool S] 24 (0, 0)) (vK y.out) hg (Kd.R_ne HO_865002.out y.out (by decide))); replace J := Z (blk_grown (g := l) (o := .cells #[.int .i64 ae, .int .i64 af, .slice (some ⟨K, 0, none⟩) z.length aI, .int .i64 ag, .bool ah, .bool ai] 24 (0, 0)) (vK J.out) hg (Kd.R_ne HO_865002.out J.out (by decide))); replace HO_865002 := Z (hp_); replace HB := Z ((by rw [hw]; exact below_set (below_set (below_set (below_set (below_set (below_set (HB.out) aH.out) aH.out) aH.out) aH.out) aH.out) aH.out : Below w.heap.size w cA)); clear hg hw hp_))
        go_roundg k1
        case measure => have := cN.out; omega
        case rel => exact ⟨(wrap64 (E + 1)), (aa), (a0), (u852002), (.slice (some ⟨K, 0, none⟩) z.length aI), (dn_), H', ⟨by have := cN.out; omega⟩, ⟨by (with_reducible repeat apply pR); exact Kd.R_mono HO_852002.out (fun _ hk => hk.2)⟩, ⟨by (with_reducible repeat apply pR); exact HO_865002.out⟩, ⟨vK a.out⟩, ⟨vK y.out⟩, ⟨vK J.out⟩, ⟨bl_⟩⟩
       ·rw [if_neg a3] at H
        exact absurd H (by simp)
      ·rw [if_neg aR] at H
       have cG : decide (E < (z.length : Int)) = false := decide_eq_false aR
       clear aR
       replace H := Option.bind_eq_some_iff.mp H
       obtain ⟨cy, b8, H⟩ := H
       replace H : (some cy) = some r := H
       have fr := Z b8
       clear b8
       obtain rfl := Option.some.inj H
       have fP := an.out
       have ga := X.out
       have fQ := ao.out
       have gb := Y.out
       obtain ⟨db, dc, dd, de, df, dg, em, en, eo, ep, eq, er⟩ := cells6 J.out
       obtain ⟨gh, go, cU⟩ := Kd.R_slice HO_865002.out
       subst cU
       have fR := aj.out
       have gc := ar.out
       obtain ⟨dh, di, dj, dk, dl, dm, es, et, eu, ev, ew, ex⟩ := cells6 a.out
       obtain ⟨dn, dp, dq, dr, ds, dt, ey, ez, eA, eB, eC, eD⟩ := cells6 y.out
       obtain ⟨cP, cQ, cV⟩ := Kd.R_slice HO_852002.out
       subst cV
       go_wp2_with (first | ((with_reducible refine gate_callee (f := 24) rfl ?_); refine goesL_ (some 44) rfl rfl Tryd.func24 (by kernel_rfl) rfl #[.agg #[.int .i64 m, .int .i64 q, .slice ac d.length ad, .int .i64 s, .bool u, .bool x], .agg #[.int .i64 M, .int .i64 O, .slice cP aa.length cQ, .int .i64 P, .bool Q, .bool S]] rfl ag_ ?_; (with_reducible refine (shutterref10_Same.calls k1 m q _ _ d s u x M O _ _ aa P Q S cy _ ?side1 ?side2 ?side3 ?side4 fr.out).mono ?_); (case side1 => repeat (first | exact (Kd.C_below aq.out HB.out) | (with_reducible apply pC))); (case side2 => exact ap.out); (case side3 => repeat (first | exact (Kd.R_reads' HO_852002.out).2.2 | (with_reducible apply pC))); (case side4 => exact (Kd.R_reads' HO_852002.out).2.1); rintro e gD ⟨rfl, hb⟩; refine ⟨_, rfl, ?_⟩; replace HO_852002 := Z (rb HO_852002.out hb); replace HO_865002 := Z (rb HO_865002.out hb); replace a := Z (kb a.out hb); replace y := Z (kb y.out hb); replace J := Z (kb J.out hb); replace HB := Z (below_step bl_ hb); (try clear hb); (try clear az); (try clear hk); (try clear hi)))
       go_ret
       exact ⟨er_, bl_⟩
   ·have H1 : ((shutterref10_Same.f k m q d s u x M O L P Q S).bind fun W => (some W)) = some r := by rw [if_neg (show ¬ (some aZ).isNone = true by simp)] at H; exact H
    clear H
    have H := H1
    clear H1
    try simp only [errW_none, errW_some]
    replace H := Option.bind_eq_some_iff.mp H
    obtain ⟨W, b9, H⟩ := H
    replace H : (some W) = some r := H
    have fs := Z b9
    clear b9
    obtain rfl := Option.some.inj H
    go_enter Tryd.func4, Tryd.ntmps4
    go_wp2_with (first | ((with_reducible refine gate_dst (N := 2) rfl ?_); refine bx_ 2 24 #[.int .i64 m, .int .i64 q, .slice ac d.length ad, .int .i64 s, .bool u, .bool x] ?_; intro T hg gE hbox hb; have a := Z (hbox); have aF := Z (ln_ hg : w.heap.size ≤ T); have a2 := Z (ln_ hg : w.heap.size ≤ T); replace HB := Z (below_step bl_ hb); clear hb hbox hg) | ((with_reducible refine gate_callee (f := 17) rfl ?_); refine goesL_ (some 9) rfl rfl Tryd.func17 (by kernel_rfl) rfl #[] rfl ag_ ?_; (with_reducible refine (shutterlaw16_awake.calls k  true _ ?sideG A3.out).mono ?_); (case sideG => exact laidG_below HG.out bl_ rfl); rintro e gF ⟨rfl, hb⟩; refine ⟨_, rfl, ?_⟩; replace a := Z (kb a.out hb); replace HB := Z (below_step bl_ hb); (try clear hb); (try clear az); (try clear hk); (try clear hi); obtain ⟨du, dv, dw, dx, dy, dz, eE, eF, eG, eH, eI, eJ⟩ := cells6 a.out) | (go_at_call 18; (with_reducible refine (shutterref10_Few.calls k m q _ _ d s u x true _ ?side1 ?side2 A5.out).mono ?_); (case side1 => repeat (first | exact (Kd.C_below aq.out HB.out) | (with_reducible apply pC))); (case side2 => exact ap.out); rintro e gG ⟨rfl, hb⟩; replace a := Z (kb a.out hb); replace HB := Z (below_step bl_ hb); (try clear hb); (try clear az); (try clear hk); (try clear hi); obtain ⟨dA, dB, dC, dD, dE, dF, eK, eL, eM, eN, eO, eP⟩ := cells6 a.out) | ((with_reducible refine gate_callee (f := 23) rfl ?_); refine goesL_ (some 18) rfl rfl Tryd.func23 (by kernel_rfl) rfl #[.agg #[.int .i64 m, .int .i64 q, .slice ac d.length ad, .int .i64 s, .bool u, .bool x]] rfl ag_ ?_; (with_reducible refine (shutterref10_Copy.calls m q _ _ d s u x M O L P Q S _ ?side1 ?side2 A7.out).mono ?_); (case side1 => repeat (first | exact (Kd.C_below aq.out HB.out) | (with_reducible apply pC))); (case side2 => exact ap.out); rintro e gH ⟨cZ, rfl, aA, hb⟩; refine ⟨_, rfl, ?_⟩; have D := Z (Kd.R_lower aA (below_size bl_)); replace a := Z (kb a.out hb); replace HB := Z (below_step bl_ hb); (try clear hb); (try clear az); (try clear hk); (try clear hi); (try clear aA)) | ((with_reducible refine gate_dst (N := 5) rfl ?_); refine bx_ 5 24 #[.int .i64 0, .int .i64 0, .slice none 0 0, .int .i64 0, .bool false, .bool false] ?_; intro G hg fI hbox hb; replace D := Z (rb D.out hb); have y := Z (hbox); have aJ := Z (ln_ hg : w.heap.size ≤ G); have cC := Z (ln_ hg : w.heap.size ≤ G); replace HB := Z (below_step bl_ hb); have aj := Z (nl a.out hg); have ar := Z (ng a.out hg); replace a := Z (kb a.out hb); clear hb hbox hg; have fS := ar.out; have gd := aj.out; obtain ⟨dG, dH, dI, dJ, dK, dL, eQ, eR, eS, eT, eU, eV⟩ := cells6 y.out; obtain ⟨aE, aB, cW⟩ := Kd.R_slice D.out; subst cW) | ((with_reducible refine gate_store (t := 24) (p := 5) rfl ?_); refine sx_ 24 5 ((((((fI.setCell ⟨G, 0, none⟩ (.int .i64 M)).setCell ⟨G, 1, none⟩ (.int .i64 O)).setCell ⟨G, 2, none⟩ (.slice aE L.length aB)).setCell ⟨G, 3, none⟩ (.int .i64 P)).setCell ⟨G, 4, none⟩ (.bool Q)).setCell ⟨G, 5, none⟩ (.bool S)) ?_; intro a8 hw; replace D : Aside0 (Kd.R k35 35 a8 w.heap.size (fun _ => True) (.slice aE L.length aB) L) := ⟨(by rw [hw]; exact (by (with_reducible repeat apply pR); exact R_off D.out y.out (by decide) off2_))⟩; replace a : Aside0 (a8.heap[T]? = some (.cells #[.int .i64 m, .int .i64 q, .slice ac d.length ad, .int .i64 s, .bool u, .bool x] 24 (0, 0))) := ⟨(by rw [hw]; exact (by (with_reducible repeat apply pK); exact blk_off a.out aj.out off2_))⟩; replace y : Aside0 (a8.heap[G]? = some (.cells #[.int .i64 M, .int .i64 O, .slice aE L.length aB, .int .i64 P, .bool Q, .bool S] 24 (0, 0))) := ⟨by rw [hw]; exact (put6 y.out)⟩; replace HB : Aside0 (Below w.heap.size w a8) := ⟨by rw [hw]; exact bl_⟩; clear hw; obtain ⟨dM, dN, dO, dP, dQ, dR, eW, eX, eY, eZ, e0, e1⟩ := cells6 a.out) | ((with_reducible refine gate_callee (f := 19) rfl ?_); refine goesL_ (some 25) rfl rfl Tryd.func19 (by kernel_rfl) rfl #[.agg #[.int .i64 m, .int .i64 q, .slice ac d.length ad, .int .i64 s, .bool u, .bool x], .int .i64 (wrap64 (12 + (wrap64 (Int.tmod a1 3))))] rfl ag_ ?_; (with_reducible refine (wipe_Do.calls k m q (fun k_ => k_ < w.heap.size) _ _ d s u x (wrap64 (12 + (wrap64 (Int.tmod a1 3)))) ae af al ag ah ai (some aZ) cx _ ?side1 A8.out).mono ?_); (case side1 => exact Kd.V_mk ap.out (Kd.F_below (Kd.C_F k35_heap aq.out) bl_)); rintro e gI ⟨cz, c0, rfl, aA, aT, hb⟩; refine ⟨_, rfl, ?_⟩; have ab := Z (Kd.V_lower (Kd.V_mono (ok' := fun k_ => some k_ ≠ (.slice aE L.length aB : Value).ownBlock ∧ k_ ≠ T ∧ k_ ≠ G) aA (fun k_ hk_ => ⟨Or.elim hk_ (fun hs_ => fun e_ => Nat.not_le.2 hs_ (Kd.R_base D.out k_ e_.symm)) (fun hn_ => (Kd.fresh' (Kd.R_lt (by (with_reducible repeat apply pR); exact D.out)) k_ hn_)), Or.elim hk_ (fun hs_ => fun e_ => Nat.not_le.2 hs_ (by rw [e_]; exact aF.out)) (fun hn_ => (fb a.out k_ hn_)), Or.elim hk_ (fun hs_ => fun e_ => Nat.not_le.2 hs_ (by rw [e_]; exact aJ.out)) (fun hn_ => (fb y.out k_ hn_))⟩)) (below_size bl_)); have am := Z (Kd.V_lower (Kd.V_mono (ok' := fun k_ => some k_ ≠ (.slice aE L.length aB : Value).ownBlock ∧ k_ ≠ T ∧ k_ ≠ G) aT (fun k_ hk_ => ⟨Or.elim hk_ (fun hs_ => fun e_ => Nat.not_le.2 hs_ (Kd.R_base D.out k_ e_.symm)) (fun hn_ => (Kd.fresh' (Kd.R_lt (by (with_reducible repeat apply pR); exact D.out)) k_ hn_)), Or.elim hk_ (fun hs_ => fun e_ => Nat.not_le.2 hs_ (by rw [e_]; exact aF.out)) (fun hn_ => (fb a.out k_ hn_)), Or.elim hk_ (fun hs_ => fun e_ => Nat.not_le.2 hs_ (by rw [e_]; exact aJ.out)) (fun hn_ => (fb y.out k_ hn_))⟩)) (below_size bl_)); replace D := Z (rb D.out hb); replace a := Z (kb a.out hb); replace y := Z (kb y.out hb); replace HB := Z (below_step bl_ hb); (try clear hb); (try clear az); (try clear hk); (try clear hi); (try clear aA); (try clear aT); (try simp only [errW_none, errW_some])) | ((with_reducible refine gate_dst (N := 6) rfl ?_); refine bx_ 6 24 #[.int .i64 0, .int .i64 0, .slice none 0 0, .int .i64 0, .bool false, .bool false] ?_; intro l hg gJ hbox hb; replace D := Z (rb D.out hb); replace ab := Z (ve ab.out hg hb); replace am := Z (ve am.out hg hb); have J := Z (hbox); have cE := Z (ln_ hg : w.heap.size ≤ l); have cD := Z (ln_ hg : w.heap.size ≤ l); replace HB := Z (below_step bl_ hb); have X := Z (nl a.out hg); have an := Z (ng a.out hg); replace a := Z (kb a.out hb); have Y := Z (nl y.out hg); have ao := Z (ng y.out hg); replace y := Z (kb y.out hb); clear hb hbox hg; have fT := an.out; have ge := X.out; have fU := ao.out; have gf := Y.out; obtain ⟨dS, dT, dU, dV, dW, dX, e2, e3, e4, e5, e6, e7⟩ := cells6 J.out; obtain ⟨aL, aN, cX⟩ := Kd.V_slice ab.out; subst cX; obtain ⟨dY, dZ, d0, d1, d2, d3, e8, e9, fa, fc, fd, fe⟩ := cells6 a.out; obtain ⟨d4, d5, d6, d7, d8, d9, ff, fg, fh, fi, fj, fk⟩ := cells6 y.out) | ((with_reducible refine gate_callee (f := 24) rfl ?_); refine goesL_ (some 44) rfl rfl Tryd.func24 (by kernel_rfl) rfl #[.agg #[.int .i64 m, .int .i64 q, .slice ac d.length ad, .int .i64 s, .bool u, .bool x], .agg #[.int .i64 M, .int .i64 O, .slice aE L.length aB, .int .i64 P, .bool Q, .bool S]] rfl ag_ ?_; (with_reducible refine (shutterref10_Same.calls k m q _ _ d s u x M O _ _ L P Q S W _ ?side1 ?side2 ?side3 ?side4 fs.out).mono ?_); (case side1 => exact Kd.C_below aq.out bl_); (case side2 => exact ap.out); (case side3 => refine (Kd.R_reads' (e := 35) (base := w.heap.size) (ok := fun k_ => True) (n := L.length) (c := aB) ?_).2.2; exact (by (with_reducible repeat apply pR); exact (Kd.R_mono (f6R l (Kd.R_types D.out J.out (by decide)) (fun _ hk => hk.2)) (fun _ h_ => h_.1)))); (case side4 => exact (Kd.R_reads' D.out).2.1); rintro e gK ⟨rfl, hb⟩; refine ⟨_, rfl, ?_⟩; replace D := Z (Kd.R_below (by (with_reducible repeat apply pR); exact (Kd.R_mono (f6R l (Kd.R_types D.out J.out (by decide)) (fun _ hk => hk.2)) (fun _ h_ => h_.1))) hb); replace ab := Z (Kd.V_below (by (with_reducible repeat apply pV); exact (Kd.V_mono (f6V l (Kd.V_mono ab.out (fun k_ hk => (⟨hk, hk.2⟩ : _ ∧ k_ ≠ l))) (fun _ hk => hk.2)) (fun _ h_ => h_.1))) hb); replace am := Z (Kd.V_below (by (with_reducible repeat apply pV); exact (Kd.V_mono (f6V l (Kd.V_mono am.out (fun k_ hk => (⟨hk, hk.2⟩ : _ ∧ k_ ≠ l))) (fun _ hk => hk.2)) (fun _ h_ => h_.1))) hb); replace a := Z (blk_below (g := T) (o := .cells #[.int .i64 m, .int .i64 q, .slice ac d.length ad, .int .i64 s, .bool u, .bool x] 24 (0, 0)) (by (with_reducible repeat apply pK); exact blk_off a.out X.out off2_) hb); replace y := Z (blk_below (g := G) (o := .cells #[.int .i64 M, .int .i64 O, .slice aE L.length aB, .int .i64 P, .bool Q, .bool S] 24 (0, 0)) (by (with_reducible repeat apply pK); exact blk_off y.out Y.out off2_) hb); replace J := Z (blk_below (g := l) (o := .cells #[.int .i64 ae, .int .i64 af, .slice aL al.length aN, .int .i64 ag, .bool ah, .bool ai] 24 (0, 0)) (put6 J.out) hb); replace HB := Z (below_step bl_ hb); (try clear hb); (try clear az); (try clear hk); (try clear hi)))
    go_ret
    exact ⟨er_, bl_⟩
  ·replace c6 := Bool.eq_false_iff.mpr c6
   subst c6
   have H1 : ((shutterlaw16_awake.f k).bind fun ak => (some ak)) = some r := by rw [if_neg (show ¬ (false = true) by decide)] at H; exact H
   clear H
   have H := H1
   clear H1
   replace H := Option.bind_eq_some_iff.mp H
   obtain ⟨ak, ca, H⟩ := H
   replace H : (some ak) = some r := H
   have cK := Z ca
   clear ca
   obtain rfl := Option.some.inj H
   go_enter Tryd.func4, Tryd.ntmps4
   go_wp2_with (first | ((with_reducible refine gate_dst (N := 2) rfl ?_); refine bx_ 2 24 #[.int .i64 m, .int .i64 q, .slice ac d.length ad, .int .i64 s, .bool u, .bool x] ?_; intro T hg gL hbox hb; have a := Z (hbox); have aF := Z (ln_ hg : w.heap.size ≤ T); have a2 := Z (ln_ hg : w.heap.size ≤ T); replace HB := Z (below_step bl_ hb); clear hb hbox hg) | ((with_reducible refine gate_callee (f := 17) rfl ?_); refine goesL_ (some 9) rfl rfl Tryd.func17 (by kernel_rfl) rfl #[] rfl ag_ ?_; (with_reducible refine (shutterlaw16_awake.calls k  true _ ?sideG A3.out).mono ?_); (case sideG => exact laidG_below HG.out bl_ rfl); rintro e gM ⟨rfl, hb⟩; refine ⟨_, rfl, ?_⟩; replace a := Z (kb a.out hb); replace HB := Z (below_step bl_ hb); (try clear hb); (try clear az); (try clear hk); (try clear hi); obtain ⟨ea, eb, ec, ed, ee, ef, fl, fm, fn, fo, fp, fq⟩ := cells6 a.out) | (go_at_call 18; (with_reducible refine (shutterref10_Few.calls k m q _ _ d s u x false _ ?side1 ?side2 A5.out).mono ?_); (case side1 => repeat (first | exact (Kd.C_below aq.out HB.out) | (with_reducible apply pC))); (case side2 => exact ap.out); rintro e gN ⟨rfl, hb⟩; replace a := Z (kb a.out hb); replace HB := Z (below_step bl_ hb); (try clear hb); (try clear az); (try clear hk); (try clear hi)) | ((with_reducible refine gate_callee (f := 17) rfl ?_); refine goesL_ (some 16) rfl rfl Tryd.func17 (by kernel_rfl) rfl #[] rfl ag_ ?_; (with_reducible refine (shutterlaw16_awake.calls k  ak _ ?sideG cK.out).mono ?_); (case sideG => exact laidG_below HG.out bl_ rfl); rintro e gO ⟨rfl, hb⟩; refine ⟨_, rfl, ?_⟩; replace a := Z (kb a.out hb); replace HB := Z (below_step bl_ hb); (try clear hb); (try clear az); (try clear hk); (try clear hi)))
   go_ret
   have e_ : ak = true := Option.some.inj (cK.out.symm.trans A3.out)
   exact ⟨er_, bl_⟩
 ·replace c4 := Bool.eq_false_iff.mpr c4
  subst c4
  have H1 : (none) = some r := by rw [if_neg (show ¬ (false = true) by decide)] at H; exact H
  clear H
  have H := H1
  clear H1
  exact absurd H (by simp)

end Go.Proofs.YtggecanpjkpkiaaDoor.P
