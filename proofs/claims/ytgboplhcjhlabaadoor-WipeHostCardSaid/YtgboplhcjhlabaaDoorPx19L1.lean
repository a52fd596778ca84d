/- pp.py and press2.py (wip/tools) wrote this text. -/
import Derived.Test.YtgboplhcjhlabaaDoorPx0
import Derived.Test.YtgboplhcjhlabaaDoorPxS
import Derived.Test.YtgboplhcjhlabaaDoorPx0L
import Derived.Test.YtgboplhcjhlabaaDoorPx4
import Derived.Test.YtgboplhcjhlabaaDoorPx5
import Derived.Test.YtgboplhcjhlabaaDoorPx6
import Derived.Test.YtgboplhcjhlabaaDoorPx12
import Derived.Test.YtgboplhcjhlabaaDoorPx18
import Derived.Test.YtgboplhcjhlabaaDoorPx19L
namespace Go.Proofs.YtgboplhcjhlabaaDoor.P
open Go.RowKit Go.Proofs.YtgboplhcjhlabaaDoorW.PrintWords Go.Proofs.YtgboplhcjhlabaaDoorW.PrintLast Go.Proofs.YtgboplhcjhlabaaDoorW.PrintMore
attribute [local go_sem] max2_int min2_int max_two min_two max_three min_three max_four min_four
attribute [local go_sem] Instr.field asAgg
set_option linter.unusedVariables false
set_option linter.unusedSimpArgs false

/-! ### shutterlaw16_WipeHost: function 13 -/
def shutterlaw16_WipeHost.f (k : Nat) (d : Int) (e : Int) (h : List (S44)) (g : Int) (i : Bool) (c : Bool) : Option (Bool) := (shutterlaw16_awake.f k).bind fun j => (if j = true then ((shutterref10_Few.f k d e h g i c).bind fun l => (if l = true then ((wipe_Do.f k d e h g false c 14).bind fun a => ((host_Do.f k d e h g false c 111 false false false ([] : List (S30))).bind fun b => (if a.2.2.2.2.2.2.1.isNone = true then (if b.2.2.2.2.2.2.1.isNone = true then ((shutterref10_Same.f k a.1 a.2.1 a.2.2.1 a.2.2.2.1 a.2.2.2.2.1 a.2.2.2.2.2.1 b.1 b.2.1 b.2.2.1 b.2.2.2.1 b.2.2.2.2.1 c).bind fun m => (some m)) else (none)) else (none)))) else ((shutterlaw16_awake.f k).bind fun n => (some n)))) else (none))
theorem shutterlaw16_WipeHost.mono : ∀ a0 a1 a b a4 c k, LeO (shutterlaw16_WipeHost.f k a0 a1 a b a4 c) (shutterlaw16_WipeHost.f (k + 1) a0 a1 a b a4 c) := by
 intro a0 a1 a b a4 c k
 unfold shutterlaw16_WipeHost.f
 repeat' first
   | (with_reducible exact host_Do.mono _ _ _ _ _ _ _ _ _ _ _ _)
   | (with_reducible exact shutterlaw16_awake.mono _)
   | (with_reducible exact shutterref10_Few.mono _ _ _ _ _ _ _)
   | (with_reducible exact shutterref10_Same.mono _ _ _ _ _ _ _ _ _ _ _ _ _)
   | (with_reducible exact wipe_Do.mono _ _ _ _ _ _ _ _)
   | (with_reducible exact LeO.refl _)
   | (with_reducible exact LeO.none _)
   | (with_reducible refine LeO.ite ?_ ?_)
   | (with_reducible refine LeO.bind ?_ (fun _ => ?_))
   | exact host_Do.mono _ _ _ _ _ _ _ _ _ _ _ _
   | exact shutterlaw16_awake.mono _
   | exact shutterref10_Few.mono _ _ _ _ _ _ _
   | exact shutterref10_Same.mono _ _ _ _ _ _ _ _ _ _ _ _ _
   | exact wipe_Do.mono _ _ _ _ _ _ _ _
   | exact LeO.none _
   | refine LeO.ite ?_ ?_
   | refine LeO.bind ?_ (fun _ => ?_)
set_option maxHeartbeats 8000000 in
set_option maxRecDepth 100000 in
theorem shutterlaw16_WipeHost.calls (k : Nat) (s : Int) (u : Int) (P : Option Addr) (Q : Nat) (q : List (S44)) (x : Int) (U : Bool) (i : Bool) (r : Bool) (w : World) (aK : Kd.C k44 w P q.length q) (aJ : q.length ≤ Q) (hG : LaidG w) (h : shutterlaw16_WipeHost.f k s u q x U i = some r) :
  Calls Tryd.prog 13 #[.agg #[.int .i64 s, .int .i64 u, .slice P q.length Q, .int .i64 x, .bool U, .bool i]] w fun e w' => e = .returned (.bool r) ∧ Below w.heap.size w w' := by
 have HG := Z hG
 clear hG
 have dn := Tryd.underlying24
 have dq := Tryd.underlying60
 have dp := Tryd.underlying34
 have dr := Tryd.underlying75
 have ar := Z aK
 have aq := Z aJ
 clear aK aJ
 have HB := Z (Below.refl w.heap.size w)
 have H : ((shutterlaw16_awake.f k).bind fun aw => (if aw = true then ((shutterref10_Few.f k s u q x U i).bind fun aj => (if aj = true then ((wipe_Do.f k s u q x false i 14).bind fun d => ((host_Do.f k s u q x false i 111 false false false ([] : List (S30))).bind fun b => (if d.2.2.2.2.2.2.1.isNone = true then (if b.2.2.2.2.2.2.1.isNone = true then ((shutterref10_Same.f k d.1 d.2.1 d.2.2.1 d.2.2.2.1 d.2.2.2.2.1 d.2.2.2.2.2.1 b.1 b.2.1 b.2.2.1 b.2.2.2.1 b.2.2.2.2.1 i).bind fun E => (some E)) else (none)) else (none)))) else ((shutterlaw16_awake.f k).bind fun K => (some K)))) else (none))) = some r := h
 clear h
 replace H := Option.bind_eq_some_iff.mp H
 obtain ⟨aw, aT, H⟩ := H
 replace H : (if aw = true then ((shutterref10_Few.f k s u q x U i).bind fun aj => (if aj = true then ((wipe_Do.f k s u q x false i 14).bind fun d => ((host_Do.f k s u q x false i 111 false false false ([] : List (S30))).bind fun b => (if d.2.2.2.2.2.2.1.isNone = true then (if b.2.2.2.2.2.2.1.isNone = true then ((shutterref10_Same.f k d.1 d.2.1 d.2.2.1 d.2.2.2.1 d.2.2.2.2.1 d.2.2.2.2.2.1 b.1 b.2.1 b.2.2.1 b.2.2.2.1 b.2.2.2.2.1 i).bind fun E => (some E)) else (none)) else (none)))) else ((shutterlaw16_awake.f k).bind fun K => (some K)))) else (none)) = some r := H
 have A2 := Z aT
 clear aT
 by_cases c3 : aw = true
 ·subst c3
  have H1 : ((shutterref10_Few.f k s u q x U i).bind fun aj => (if aj = true then ((wipe_Do.f k s u q x false i 14).bind fun d => ((host_Do.f k s u q x false i 111 false false false ([] : List (S30))).bind fun b => (if d.2.2.2.2.2.2.1.isNone = true then (if b.2.2.2.2.2.2.1.isNone = true then ((shutterref10_Same.f k d.1 d.2.1 d.2.2.1 d.2.2.2.1 d.2.2.2.2.1 d.2.2.2.2.2.1 b.1 b.2.1 b.2.2.1 b.2.2.2.1 b.2.2.2.2.1 i).bind fun E => (some E)) else (none)) else (none)))) else ((shutterlaw16_awake.f k).bind fun K => (some K)))) = some r := by rw [if_pos rfl] at H; exact H
  clear H
  have H := H1
  clear H1
  replace H := Option.bind_eq_some_iff.mp H
  obtain ⟨aj, aV, H⟩ := H
  replace H : (if aj = true then ((wipe_Do.f k s u q x false i 14).bind fun d => ((host_Do.f k s u q x false i 111 false false false ([] : List (S30))).bind fun b => (if d.2.2.2.2.2.2.1.isNone = true then (if b.2.2.2.2.2.2.1.isNone = true then ((shutterref10_Same.f k d.1 d.2.1 d.2.2.1 d.2.2.2.1 d.2.2.2.2.1 d.2.2.2.2.2.1 b.1 b.2.1 b.2.2.1 b.2.2.2.1 b.2.2.2.2.1 i).bind fun E => (some E)) else (none)) else (none)))) else ((shutterlaw16_awake.f k).bind fun K => (some K))) = some r := H
  have A4 := Z aV
  clear aV
  by_cases c5 : aj = true
  ·subst c5
   have H1 : ((wipe_Do.f k s u q x false i 14).bind fun d => ((host_Do.f k s u q x false i 111 false false false ([] : List (S30))).bind fun b => (if d.2.2.2.2.2.2.1.isNone = true then (if b.2.2.2.2.2.2.1.isNone = true then ((shutterref10_Same.f k d.1 d.2.1 d.2.2.1 d.2.2.2.1 d.2.2.2.2.1 d.2.2.2.2.2.1 b.1 b.2.1 b.2.2.1 b.2.2.2.1 b.2.2.2.2.1 i).bind fun E => (some E)) else (none)) else (none)))) = some r := by rw [if_pos rfl] at H; exact H
   clear H
   have H := H1
   clear H1
   replace H := Option.bind_eq_some_iff.mp H
   obtain ⟨⟨W, X, J, Y, aa, ab, aF, aG⟩, aW, H⟩ := H
   replace H : ((host_Do.f k s u q x false i 111 false false false ([] : List (S30))).bind fun b => (if aF.isNone = true then (if b.2.2.2.2.2.2.1.isNone = true then ((shutterref10_Same.f k W X J Y aa ab b.1 b.2.1 b.2.2.1 b.2.2.2.1 b.2.2.2.2.1 i).bind fun E => (some E)) else (none)) else (none))) = some r := H
   have A6 := Z aW
   clear aW
   replace H := Option.bind_eq_some_iff.mp H
   obtain ⟨⟨ac, ad, M, ae, af, ax, aH, aQ⟩, aX, H⟩ := H
   replace H : (if aF.isNone = true then (if aH.isNone = true then ((shutterref10_Same.f k W X J Y aa ab ac ad M ae af i).bind fun E => (some E)) else (none)) else (none)) = some r := H
   have A7 := Z aX
   clear aX
   rcases aF with _ | a4
   ·have H1 : (if aH.isNone = true then ((shutterref10_Same.f k W X J Y aa ab ac ad M ae af i).bind fun E => (some E)) else (none)) = some r := by rw [if_pos (show (none : Option Er).isNone = true by rfl)] at H; exact H
    clear H
    have H := H1
    clear H1
    try simp only [errW_none, errW_some]
    rcases aH with _ | a5
    ·have H1 : ((shutterref10_Same.f k W X J Y aa ab ac ad M ae af i).bind fun E => (some E)) = some r := by rw [if_pos (show (none : Option Er).isNone = true by rfl)] at H; exact H
     clear H
     have H := H1
     clear H1
     try simp only [errW_none, errW_some]
     replace H := Option.bind_eq_some_iff.mp H
     obtain ⟨E, aY, H⟩ := H
     replace H : (some E) = some r := H
     have A8 := Z aY
     clear aY
     obtain rfl := Option.some.inj H
     go_enter Tryd.func13, Tryd.ntmps13
     go_wp2_with (first | ((with_reducible refine gate_dst (N := 1) rfl ?_); refine bx_ 1 24 #[.int .i64 s, .int .i64 u, .slice P q.length Q, .int .i64 x, .bool U, .bool i] ?_; intro y hg w9 hbox hb; have a := Z (hbox); have al := Z (ln_ hg : w.heap.size ≤ y); have aS := Z (ln_ hg : w.heap.size ≤ y); replace HB := Z (below_step bl_ hb); clear hb hbox hg) | ((with_reducible refine gate_callee (f := 34) rfl ?_); refine goesL_ (some 7) rfl rfl Tryd.func34 (by kernel_rfl) rfl #[] rfl ag_ ?_; (with_reducible refine (shutterlaw16_awake.calls k  true _ ?sideG A2.out).mono ?_); (case sideG => exact laidG_below HG.out bl_ rfl); rintro e du ⟨rfl, hb⟩; refine ⟨_, rfl, ?_⟩; replace a := Z (kb a.out hb); replace HB := Z (below_step bl_ hb); (try clear hb); (try clear av); (try clear hk); (try clear hi); obtain ⟨a7, a8, a9, ba, bb, bc, b6, b7, b8, b9, ca, cb⟩ := cells6 a.out) | (go_at_call 15; (with_reducible refine (shutterref10_Few.calls k s u _ _ q x U i true _ ?side1 ?side2 A4.out).mono ?_); (case side1 => repeat (first | exact (Kd.C_below ar.out HB.out) | (with_reducible apply pC))); (case side2 => exact aq.out); rintro e c8 ⟨rfl, hb⟩; replace a := Z (kb a.out hb); replace HB := Z (below_step bl_ hb); (try clear hb); (try clear av); (try clear hk); (try clear hi); obtain ⟨bd, be, bf, bg, bh, bi, cc, cd, ce, cf, cg, ch⟩ := cells6 a.out) | ((with_reducible refine gate_store (t := 4) (p := 15) rfl ?_); refine sx_ 4 15 (c8.setCell ⟨y, 4, none⟩ (.bool false)) ?_; intro a0 hw; replace a : Aside0 (a0.heap[y]? = some (.cells #[.int .i64 s, .int .i64 u, .slice P q.length Q, .int .i64 x, .bool false, .bool i] 24 (0, 0))) := ⟨(by rw [hw]; exact (by (with_reducible repeat apply pK); refine blk_put (cs := #[.int .i64 s, .int .i64 u, .slice P q.length Q, .int .i64 x, .bool U, .bool i]) ?_ 4 _ rfl; (with_reducible repeat apply pK); exact a.out))⟩; replace HB : Aside0 (Below w.heap.size w a0) := ⟨by rw [hw]; exact bl_⟩; clear hw; obtain ⟨bj, bk, bl, bm, bn, bo, ci, cj, ck, cl, cm, cn⟩ := cells6 a.out) | ((with_reducible refine gate_callee (f := 35) rfl ?_); refine goesL_ (some 18) rfl rfl Tryd.func35 (by kernel_rfl) rfl #[.agg #[.int .i64 s, .int .i64 u, .slice P q.length Q, .int .i64 x, .bool false, .bool i], .int .i64 14] rfl ag_ ?_; (with_reducible refine (wipe_Do.calls k s u (fun k_ => k_ < w.heap.size) _ _ q x false i 14 W X J Y aa ab none aG _ ?side1 A6.out).mono ?_); (case side1 => exact Kd.V_mk aq.out (Kd.F_below (Kd.C_F k44_heap ar.out) bl_)); rintro e dv ⟨ds, aR, rfl, aB, aC, hb⟩; refine ⟨_, rfl, ?_⟩; have A := Z (Kd.V_lower (Kd.V_mono (ok' := fun k_ => k_ ≠ y) aB (fun k_ hk_ => Or.elim hk_ (fun hs_ => fun e_ => Nat.not_le.2 hs_ (by rw [e_]; exact al.out)) (fun hn_ => (fb a.out k_ hn_)))) (below_size bl_)); have D := Z (Kd.V_lower (Kd.V_mono (ok' := fun k_ => k_ ≠ y) aC (fun k_ hk_ => Or.elim hk_ (fun hs_ => fun e_ => Nat.not_le.2 hs_ (by rw [e_]; exact al.out)) (fun hn_ => (fb a.out k_ hn_)))) (below_size bl_)); replace a := Z (kb a.out hb); replace HB := Z (below_step bl_ hb); (try clear hb); (try clear av); (try clear hk); (try clear hi); (try clear aB); (try clear aC); (try simp only [errW_none, errW_some])) | ((with_reducible refine gate_dst (N := 3) rfl ?_); refine bx_ 3 24 #[.int .i64 0, .int .i64 0, .slice none 0 0, .int .i64 0, .bool false, .bool false] ?_; intro B hg c9 hbox hb; replace A := Z (ve A.out hg hb); replace D := Z (ve D.out hg hb); have z := Z (hbox); have aI := Z (ln_ hg : w.heap.size ≤ B); have db := Z (ln_ hg : w.heap.size ≤ B); replace HB := Z (below_step bl_ hb); have ao := Z (nl a.out hg); have ay := Z (ng a.out hg); replace a := Z (kb a.out hb); clear hb hbox hg; have de := ay.out; have dh := ao.out; obtain ⟨bp, bq, br, bs, bt, bu, co, cp, cq, cr, ct, cu⟩ := cells6 z.out; obtain ⟨am, ak, a2⟩ := Kd.V_slice A.out; subst a2) | ((with_reducible refine gate_store (t := 24) (p := 3) rfl ?_); refine sx_ 24 3 ((((((c9.setCell ⟨B, 0, none⟩ (.int .i64 W)).setCell ⟨B, 1, none⟩ (.int .i64 X)).setCell ⟨B, 2, none⟩ (.slice am J.length ak)).setCell ⟨B, 3, none⟩ (.int .i64 Y)).setCell ⟨B, 4, none⟩ (.bool aa)).setCell ⟨B, 5, none⟩ (.bool ab)) ?_; intro aE hw; replace A : Aside0 (Kd.V k44 44 aE w.heap.size (fun k_ => k_ ≠ y ∧ k_ ≠ B) (.slice am J.length ak) J) := ⟨(by rw [hw]; exact (by (with_reducible repeat apply pV); exact V_off A.out (fun k_ hk => hk.2) off2_ (fun _ hk => ⟨hk.1, hk.2⟩)))⟩; replace D : Aside0 (Kd.V k184 184 aE w.heap.size (fun k_ => k_ ≠ y ∧ k_ ≠ B) aR aG) := ⟨(by rw [hw]; exact (by (with_reducible repeat apply pV); exact V_off D.out (fun k_ hk => hk.2) off2_ (fun _ hk => ⟨hk.1, hk.2⟩)))⟩; replace a : Aside0 (aE.heap[y]? = some (.cells #[.int .i64 s, .int .i64 u, .slice P q.length Q, .int .i64 x, .bool false, .bool i] 24 (0, 0))) := ⟨(by rw [hw]; exact (by (with_reducible repeat apply pK); exact blk_off a.out ao.out off2_))⟩; replace z : Aside0 (aE.heap[B]? = some (.cells #[.int .i64 W, .int .i64 X, .slice am J.length ak, .int .i64 Y, .bool aa, .bool ab] 24 (0, 0))) := ⟨by rw [hw]; exact (put6 z.out)⟩; replace HB : Aside0 (Below w.heap.size w aE) := ⟨by rw [hw]; exact bl_⟩; clear hw; obtain ⟨bv, bw, bx, bz, bA, bB, cv, cw, cx, cy, cz, cA⟩ := cells6 a.out) | ((with_reducible refine gate_callee (f := 31) rfl ?_); refine goesL_ (some 24) rfl rfl Tryd.func31 (by kernel_rfl) rfl #[.agg #[.int .i64 s, .int .i64 u, .slice P q.length Q, .int .i64 x, .bool false, .bool i], .agg #[.int .i64 111, .bool false, .bool false, .bool false, .slice none 0 0]] rfl ag_ ?_; (refine (host_Do.calls k s u (fun k_ => k_ < w.heap.size) _ _ q x false i 111 false false false _ _ ([] : List (S30)) ac ad M ae af ax none aQ _ ?side1 ?side2 ?side3 A7.out).mono ?_); (case side1 => exact Kd.V_mk aq.out (Kd.F_below (Kd.C_F k44_heap ar.out) bl_)); (case side2 => exact Kd.C_nil _ _); (case side3 => exact Nat.le_refl _); rintro e dw ⟨dt, a6, rfl, aB, aC, hb⟩; refine ⟨_, rfl, ?_⟩; replace A := Z (vb A.out hb); replace D := Z (vb D.out hb); have I := Z (Kd.V_lower (Kd.V_mono (ok' := fun k_ => k_ ≠ y ∧ k_ ≠ B) aB (fun k_ hk_ => ⟨Or.elim hk_ (fun hs_ => fun e_ => Nat.not_le.2 hs_ (by rw [e_]; exact al.out)) (fun hn_ => (fb a.out k_ hn_)), Or.elim hk_ (fun hs_ => fun e_ => Nat.not_le.2 hs_ (by rw [e_]; exact aI.out)) (fun hn_ => (fb z.out k_ hn_))⟩)) (below_size bl_)); have O := Z (Kd.V_lower (Kd.V_mono (ok' := fun k_ => k_ ≠ y ∧ k_ ≠ B) aC (fun k_ hk_ => ⟨Or.elim hk_ (fun hs_ => fun e_ => Nat.not_le.2 hs_ (by rw [e_]; exact al.out)) (fun hn_ => (fb a.out k_ hn_)), Or.elim hk_ (fun hs_ => fun e_ => Nat.not_le.2 hs_ (by rw [e_]; exact aI.out)) (fun hn_ => (fb z.out k_ hn_))⟩)) (below_size bl_)); replace a := Z (kb a.out hb); replace z := Z (kb z.out hb); replace HB := Z (below_step bl_ hb); (try clear hb); (try clear av); (try clear hk); (try clear hi); (try clear aB); (try clear aC); (try simp only [errW_none, errW_some])) | ((with_reducible refine gate_dst (N := 5) rfl ?_); refine bx_ 5 24 #[.int .i64 0, .int .i64 0, .slice none 0 0, .int .i64 0, .bool false, .bool false] ?_; intro j hg da hbox hb; replace A := Z (ve A.out hg hb); replace D := Z (ve D.out hg hb); replace I := Z (ve I.out hg hb); replace O := Z (ve O.out hg hb); have R := Z (hbox); have dd := Z (ln_ hg : w.heap.size ≤ j); have dc := Z (ln_ hg : w.heap.size ≤ j); replace HB := Z (below_step bl_ hb); have ag := Z (nl a.out hg); have az := Z (ng a.out hg); replace a := Z (kb a.out hb); have ah := Z (nl z.out hg); have aA := Z (ng z.out hg); replace z := Z (kb z.out hb); clear hb hbox hg; have df := az.out; have di := ag.out; have dg := aA.out; have dj := ah.out; obtain ⟨bC, bD, bE, bF, bG, bH, cB, cC, cD, cE, cF, cG⟩ := cells6 R.out; obtain ⟨au, an, a3⟩ := Kd.V_slice I.out; subst a3) | ((with_reducible refine gate_store (t := 24) (p := 5) rfl ?_); refine sx_ 24 5 ((((((da.setCell ⟨j, 0, none⟩ (.int .i64 ac)).setCell ⟨j, 1, none⟩ (.int .i64 ad)).setCell ⟨j, 2, none⟩ (.slice au M.length an)).setCell ⟨j, 3, none⟩ (.int .i64 ae)).setCell ⟨j, 4, none⟩ (.bool af)).setCell ⟨j, 5, none⟩ (.bool ax)) ?_; intro ap hw; replace A : Aside0 (Kd.V k44 44 ap w.heap.size (fun k_ => k_ ≠ y ∧ k_ ≠ B ∧ k_ ≠ j) (.slice am J.length ak) J) := ⟨(by rw [hw]; exact (by (with_reducible repeat apply pV); exact V_off A.out (fun k_ hk => hk.2) off2_ (fun _ hk => ⟨hk.1.1, ⟨hk.1.2, hk.2⟩⟩)))⟩; replace D : Aside0 (Kd.V k184 184 ap w.heap.size (fun k_ => k_ ≠ y ∧ k_ ≠ B ∧ k_ ≠ j) aR aG) := ⟨(by rw [hw]; exact (by (with_reducible repeat apply pV); exact V_off D.out (fun k_ hk => hk.2) off2_ (fun _ hk => ⟨hk.1.1, ⟨hk.1.2, hk.2⟩⟩)))⟩; replace I : Aside0 (Kd.V k44 44 ap w.heap.size (fun k_ => k_ ≠ y ∧ k_ ≠ B ∧ k_ ≠ j) (.slice au M.length an) M) := ⟨(by rw [hw]; exact (by (with_reducible repeat apply pV); exact V_off I.out (fun k_ hk => hk.2) off2_ (fun _ hk => ⟨hk.1.1, ⟨hk.1.2, hk.2⟩⟩)))⟩; replace O : Aside0 (Kd.V k184 184 ap w.heap.size (fun k_ => k_ ≠ y ∧ k_ ≠ B ∧ k_ ≠ j) a6 aQ) := ⟨(by rw [hw]; exact (by (with_reducible repeat apply pV); exact V_off O.out (fun k_ hk => hk.2) off2_ (fun _ hk => ⟨hk.1.1, ⟨hk.1.2, hk.2⟩⟩)))⟩; replace a : Aside0 (ap.heap[y]? = some (.cells #[.int .i64 s, .int .i64 u, .slice P q.length Q, .int .i64 x, .bool false, .bool i] 24 (0, 0))) := ⟨(by rw [hw]; exact (by (with_reducible repeat apply pK); exact blk_off a.out ag.out off2_))⟩; replace z : Aside0 (ap.heap[B]? = some (.cells #[.int .i64 W, .int .i64 X, .slice am J.length ak, .int .i64 Y, .bool aa, .bool ab] 24 (0, 0))) := ⟨(by rw [hw]; exact (by (with_reducible repeat apply pK); exact blk_off z.out ah.out off2_))⟩; replace R : Aside0 (ap.heap[j]? = some (.cells #[.int .i64 ac, .int .i64 ad, .slice au M.length an, .int .i64 ae, .bool af, .bool ax] 24 (0, 0))) := ⟨by rw [hw]; exact (put6 R.out)⟩; replace HB : Aside0 (Below w.heap.size w ap) := ⟨by rw [hw]; exact bl_⟩; clear hw; obtain ⟨bI, bJ, bK, bL, bM, bN, cH, cI, cJ, cK, cL, cM⟩ := cells6 a.out; obtain ⟨bO, bP, bQ, bR, bS, bT, cN, cO, cP, cQ, cR, cS⟩ := cells6 R.out; obtain ⟨bU, bV, bW, bX, bY, bZ, cT, cU, cV, cW, cX, cY⟩ := cells6 z.out) | (go_at_call 19; (with_reducible refine (shutterref10_Same.calls k W X _ _ J Y aa ab ac ad _ _ M ae af i E _ ?side1 ?side2 ?side3 ?side4 A8.out).mono ?_); (case side1 => refine (Kd.V_reads' (e := 44) (base := w.heap.size) (ok := fun k_ => (k_ ≠ y ∧ (k_ ≠ B ∧ k_ ≠ j))) (n := J.length) (c := ak) ?_).2.2; exact (by (with_reducible repeat apply pV); exact (Kd.V_mono (Kd.V_far (p := ⟨j, 5, none⟩) (Kd.V_mono A.out (fun k_ hk => (⟨hk, hk.2.2⟩ : _ ∧ k_ ≠ j))) (fun _ hk => hk.2) (.bool i)) (fun _ h_ => h_.1)))); (case side2 => exact (Kd.V_reads' A.out).2.1); (case side3 => refine (Kd.V_reads' (e := 44) (base := w.heap.size) (ok := fun k_ => (k_ ≠ y ∧ (k_ ≠ B ∧ k_ ≠ j))) (n := M.length) (c := an) ?_).2.2; exact (by (with_reducible repeat apply pV); exact (Kd.V_mono (Kd.V_far (p := ⟨j, 5, none⟩) (Kd.V_mono I.out (fun k_ hk => (⟨hk, hk.2.2⟩ : _ ∧ k_ ≠ j))) (fun _ hk => hk.2) (.bool i)) (fun _ h_ => h_.1)))); (case side4 => exact (Kd.V_reads' I.out).2.1); rintro e dx ⟨rfl, hb⟩; replace A := Z (Kd.V_below (by (with_reducible repeat apply pV); exact (Kd.V_mono (Kd.V_far (p := ⟨j, 5, none⟩) (Kd.V_mono A.out (fun k_ hk => (⟨hk, hk.2.2⟩ : _ ∧ k_ ≠ j))) (fun _ hk => hk.2) (.bool i)) (fun _ h_ => h_.1))) hb); replace D := Z (Kd.V_below (by (with_reducible repeat apply pV); exact (Kd.V_mono (Kd.V_far (p := ⟨j, 5, none⟩) (Kd.V_mono D.out (fun k_ hk => (⟨hk, hk.2.2⟩ : _ ∧ k_ ≠ j))) (fun _ hk => hk.2) (.bool i)) (fun _ h_ => h_.1))) hb); replace I := Z (Kd.V_below (by (with_reducible repeat apply pV); exact (Kd.V_mono (Kd.V_far (p := ⟨j, 5, none⟩) (Kd.V_mono I.out (fun k_ hk => (⟨hk, hk.2.2⟩ : _ ∧ k_ ≠ j))) (fun _ hk => hk.2) (.bool i)) (fun _ h_ => h_.1))) hb); replace O := Z (Kd.V_below (by (with_reducible repeat apply pV); exact (Kd.V_mono (Kd.V_far (p := ⟨j, 5, none⟩) (Kd.V_mono O.out (fun k_ hk => (⟨hk, hk.2.2⟩ : _ ∧ k_ ≠ j))) (fun _ hk => hk.2) (.bool i)) (fun _ h_ => h_.1))) hb); replace a := Z (blk_below (g := y) (o := .cells #[.int .i64 s, .int .i64 u, .slice P q.length Q, .int .i64 x, .bool false, .bool i] 24 (0, 0)) (by (with_reducible repeat apply pK); exact blk_off a.out ag.out off2_) hb); replace z := Z (blk_below (g := B) (o := .cells #[.int .i64 W, .int .i64 X, .slice am J.length ak, .int .i64 Y, .bool aa, .bool ab] 24 (0, 0)) (by (with_reducible repeat apply pK); exact blk_off z.out ah.out off2_) hb); replace R := Z (blk_below (g := j) (o := .cells #[.int .i64 ac, .int .i64 ad, .slice au M.length an, .int .i64 ae, .bool af, .bool i] 24 (0, 0)) (by (with_reducible repeat apply pK); refine blk_put (cs := #[.int .i64 ac, .int .i64 ad, .slice au M.length an, .int .i64 ae, .bool af, .bool ax]) ?_ 5 _ rfl; (with_reducible repeat apply pK); exact R.out) hb); replace HB := Z (below_step bl_ hb); (try clear hb); (try clear av); (try clear hk); (try clear hi)))
     go_ret
     exact ⟨er_, bl_⟩
    ·have H1 : (none) = some r := by rw [if_neg (show ¬ (some a5).isNone = true by simp)] at H; exact H
     clear H
     have H := H1
     clear H1
     try simp only [errW_none, errW_some]
     exact absurd H (by simp)
   ·have H1 : (none) = some r := by rw [if_neg (show ¬ (some a4).isNone = true by simp)] at H; exact H
    clear H
    have H := H1
    clear H1
    try simp only [errW_none, errW_some]
    exact absurd H (by simp)
  ·replace c5 := Bool.eq_false_iff.mpr c5
   subst c5
   have H1 : ((shutterlaw16_awake.f k).bind fun K => (some K)) = some r := by rw [if_neg (show ¬ (false = true) by decide)] at H; exact H
   clear H
   have H := H1
   clear H1
   replace H := Option.bind_eq_some_iff.mp H
   obtain ⟨K, aL, H⟩ := H
   replace H : (some K) = some r := H
   have aU := Z aL
   clear aL
   obtain rfl := Option.some.inj H
   go_enter Tryd.func13, Tryd.ntmps13
   go_wp2_with (first | ((with_reducible refine gate_dst (N := 1) rfl ?_); refine bx_ 1 24 #[.int .i64 s, .int .i64 u, .slice P q.length Q, .int .i64 x, .bool U, .bool i] ?_; intro y hg dy hbox hb; have a := Z (hbox); have al := Z (ln_ hg : w.heap.size ≤ y); have aS := Z (ln_ hg : w.heap.size ≤ y); replace HB := Z (below_step bl_ hb); clear hb hbox hg) | ((with_reducible refine gate_callee (f := 34) rfl ?_); refine goesL_ (some 7) rfl rfl Tryd.func34 (by kernel_rfl) rfl #[] rfl ag_ ?_; (with_reducible refine (shutterlaw16_awake.calls k  true _ ?sideG A2.out).mono ?_); (case sideG => exact laidG_below HG.out bl_ rfl); rintro e dz ⟨rfl, hb⟩; refine ⟨_, rfl, ?_⟩; replace a := Z (kb a.out hb); replace HB := Z (below_step bl_ hb); (try clear hb); (try clear av); (try clear hk); (try clear hi); obtain ⟨b0, b1, b2, b3, b4, b5, cZ, c0, c1, c2, c4, c6⟩ := cells6 a.out) | (go_at_call 15; (with_reducible refine (shutterref10_Few.calls k s u _ _ q x U i false _ ?side1 ?side2 A4.out).mono ?_); (case side1 => repeat (first | exact (Kd.C_below ar.out HB.out) | (with_reducible apply pC))); (case side2 => exact aq.out); rintro e dA ⟨rfl, hb⟩; replace a := Z (kb a.out hb); replace HB := Z (below_step bl_ hb); (try clear hb); (try clear av); (try clear hk); (try clear hi)) | ((with_reducible refine gate_callee (f := 34) rfl ?_); refine goesL_ (some 14) rfl rfl Tryd.func34 (by kernel_rfl) rfl #[] rfl ag_ ?_; (with_reducible refine (shutterlaw16_awake.calls k  K _ ?sideG aU.out).mono ?_); (case sideG => exact laidG_below HG.out bl_ rfl); rintro e dB ⟨rfl, hb⟩; refine ⟨_, rfl, ?_⟩; replace a := Z (kb a.out hb); replace HB := Z (below_step bl_ hb); (try clear hb); (try clear av); (try clear hk); (try clear hi)))
   go_ret
   have e_ : K = true := Option.some.inj (aU.out.symm.trans A2.out)
   exact ⟨er_, bl_⟩
 ·replace c3 := Bool.eq_false_iff.mpr c3
  subst c3
  have H1 : (none) = some r := by rw [if_neg (show ¬ (false = true) by decide)] at H; exact H
  clear H
  have H := H1
  clear H1
  exact absurd H (by simp)

end Go.Proofs.YtgboplhcjhlabaaDoor.P
