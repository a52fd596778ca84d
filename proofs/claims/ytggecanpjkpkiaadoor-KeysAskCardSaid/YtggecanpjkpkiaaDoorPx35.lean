/- pp.py and press2.py (wip/tools) wrote this text. -/
import Derived.Test.YtggecanpjkpkiaaDoorPx0
import Derived.Test.YtggecanpjkpkiaaDoorPxS
import Derived.Test.YtggecanpjkpkiaaDoorPx2
import Derived.Test.YtggecanpjkpkiaaDoorPx3
import Derived.Test.YtggecanpjkpkiaaDoorPx4
import Derived.Test.YtggecanpjkpkiaaDoorPx13
import Derived.Test.YtggecanpjkpkiaaDoorPx32
import Derived.Test.YtggecanpjkpkiaaDoorPx33L
namespace Go.Proofs.YtggecanpjkpkiaaDoor.P
open Go.RowKit Go.Proofs.YtggecanpjkpkiaaDoorW.PrintWords Go.Proofs.YtggecanpjkpkiaaDoorW.PrintLast Go.Proofs.YtggecanpjkpkiaaDoorW.PrintMore
attribute [local go_sem] max2_int min2_int max_two min_two max_three min_three max_four min_four
attribute [local go_sem] Instr.field asAgg
set_option linter.unusedVariables false
set_option linter.unusedSimpArgs false

attribute [local go_sem high] eqA35
/-! ### shutterlaw17_KeysAsk: function 15 -/
def shutterlaw17_KeysAsk.l0 : Nat → Int → Int → Int → Int → List (S35) → Int → Bool → Bool → Int → Int → List (S35) → Int → Bool → Bool → Option (Bool)
 | 0, _, _, _, _, _, _, _, _, _, _, _, _, _, _ => none
 | k + 1, o, c, f, g, b, e, h, i, j, l, a, d, m, n => if c < (b.length : Int) then (if o = 109 then (if 0 ≤ c then (if c < (a.length : Int) then (if (((rd_T35 a c).f0) || ((((rd_T35 a c).f1.f0) || (((rd_T35 a c).f1.f1) || (!(((rd_T35 a c).f1.f2) == 0) || (((rd_T35 a c).f1.f3))))) || (!(((rd_T35 a c).f2) == 0)))) = true then (none) else (shutterlaw17_KeysAsk.l0 k o (wrap64 (c + 1)) f g b e h i j l a d m n)) else (none)) else (none)) else (if 0 ≤ c then (if c < (a.length : Int) then (if (!(((rd_T35 a c).f0) == ((rd_T35 b c).f0)) || ((!(((rd_T35 a c).f1.f0) == ((rd_T35 b c).f1.f0)) || (!(((rd_T35 a c).f1.f1) == ((rd_T35 b c).f1.f1)) || (!(((rd_T35 a c).f1.f2) == ((rd_T35 b c).f1.f2)) || (!(((rd_T35 a c).f1.f3) == ((rd_T35 b c).f1.f3)))))) || (!(((rd_T35 a c).f2) == ((rd_T35 b c).f2))))) = true then (none) else (shutterlaw17_KeysAsk.l0 k o (wrap64 (c + 1)) f g b e h i j l a d m n)) else (none)) else (none))) else (if o = 109 then (if d = 0 then (some true) else (none)) else (some (d == e)))
def shutterlaw17_KeysAsk.f (k : Nat) (b : Int) (c : Int) (h : List (S35)) (d : Int) (e : Bool) (g : Bool) (a1 : Int) (o : Int) (p : Int) : Option (Bool) := (shutterlaw17_awake.f k).bind fun j => (if j = true then ((shutterref10_Few.f k b c h d e g).bind fun l => (if l = true then ((keys_Do.f k b c h d e g 17 a1).bind fun a => (if a.2.2.2.2.2.2.2.1.isNone = true then ((keys_Do.f k a.1 a.2.1 a.2.2.1 a.2.2.2.1 a.2.2.2.2.1 a.2.2.2.2.2.1 o p).bind fun i => (if a.2.2.2.2.2.2.1 = true then (if i.2.2.2.2.2.2.1 = true then (none) else (if a.2.2.2.2.1 = true then (if a.2.2.2.2.2.1 = true then (none) else (shutterlaw17_KeysAsk.l0 k a1 0 b c h d e g a.1 a.2.1 a.2.2.1 a.2.2.2.1 a.2.2.2.2.1 a.2.2.2.2.2.1)) else (none))) else (none))) else (if a.2.2.2.2.2.2.1 = true then (none) else ((shutterref10_Same.f k a.1 a.2.1 a.2.2.1 a.2.2.2.1 a.2.2.2.2.1 a.2.2.2.2.2.1 b c h d e g).bind fun n => (some n))))) else ((shutterlaw17_awake.f k).bind fun m => (some m)))) else (none))
theorem shutterlaw17_KeysAsk.mono_l : ∀ k, (∀ f g i j l m n o p q a b c d, LeO (shutterlaw17_KeysAsk.l0 k f g i j l m n o p q a b c d) (shutterlaw17_KeysAsk.l0 (k + 1) f g i j l m n o p q a b c d))
 | 0 => fun _ _ _ _ _ _ _ _ _ _ _ _ _ _ r h => by simp [shutterlaw17_KeysAsk.l0] at h
 | k + 1 => by
  have e := shutterlaw17_KeysAsk.mono_l k
  ·intro f g i j l m n o p q a b c d
   unfold shutterlaw17_KeysAsk.l0
   repeat' first
   | (with_reducible exact e _ _ _ _ _ _ _ _ _ _ _ _ _ _)
   | (with_reducible exact keys_Do.mono _ _ _ _ _ _ _ _ _)
   | (with_reducible exact shutterlaw17_awake.mono _)
   | (with_reducible exact shutterref10_Few.mono _ _ _ _ _ _ _)
   | (with_reducible exact shutterref10_Same.mono _ _ _ _ _ _ _ _ _ _ _ _ _)
   | (with_reducible exact LeO.refl _)
   | (with_reducible exact LeO.none _)
   | (with_reducible refine LeO.ite ?_ ?_)
   | (with_reducible refine LeO.bind ?_ (fun _ => ?_))
   | exact e _ _ _ _ _ _ _ _ _ _ _ _ _ _
   | exact keys_Do.mono _ _ _ _ _ _ _ _ _
   | exact shutterlaw17_awake.mono _
   | exact shutterref10_Few.mono _ _ _ _ _ _ _
   | exact shutterref10_Same.mono _ _ _ _ _ _ _ _ _ _ _ _ _
   | exact LeO.none _
   | refine LeO.ite ?_ ?_
   | refine LeO.bind ?_ (fun _ => ?_)
theorem shutterlaw17_KeysAsk.mono : ∀ a0 a1 b c a4 d e g h k, LeO (shutterlaw17_KeysAsk.f k a0 a1 b c a4 d e g h) (shutterlaw17_KeysAsk.f (k + 1) a0 a1 b c a4 d e g h) := by
 intro a0 a1 b c a4 d e g h k
 have a := shutterlaw17_KeysAsk.mono_l k
 unfold shutterlaw17_KeysAsk.f
 repeat' first
   | (with_reducible exact a _ _ _ _ _ _ _ _ _ _ _ _ _ _)
   | (with_reducible exact keys_Do.mono _ _ _ _ _ _ _ _ _)
   | (with_reducible exact shutterlaw17_awake.mono _)
   | (with_reducible exact shutterref10_Few.mono _ _ _ _ _ _ _)
   | (with_reducible exact shutterref10_Same.mono _ _ _ _ _ _ _ _ _ _ _ _ _)
   | (with_reducible exact LeO.refl _)
   | (with_reducible exact LeO.none _)
   | (with_reducible refine LeO.ite ?_ ?_)
   | (with_reducible refine LeO.bind ?_ (fun _ => ?_))
   | exact a _ _ _ _ _ _ _ _ _ _ _ _ _ _
   | exact keys_Do.mono _ _ _ _ _ _ _ _ _
   | exact shutterlaw17_awake.mono _
   | exact shutterref10_Few.mono _ _ _ _ _ _ _
   | exact shutterref10_Same.mono _ _ _ _ _ _ _ _ _ _ _ _ _
   | exact LeO.none _
   | refine LeO.ite ?_ ?_
   | refine LeO.bind ?_ (fun _ => ?_)
set_option maxHeartbeats 8000000 in
set_option maxRecDepth 100000 in
theorem shutterlaw17_KeysAsk.calls (k : Nat) (G : Int) (I : Int) (aB : Option Addr) (aC : Nat) (D : List (S35)) (J : Int) (K : Bool) (L : Bool) (a1 : Int) (ag : Int) (ah : Int) (r : Bool) (w : World) (es : Kd.C k35 w aB D.length D) (d7 : D.length ≤ aC) (hG : LaidG w) (h : shutterlaw17_KeysAsk.f k G I D J K L a1 ag ah = some r) :
  Calls Tryd.prog 15 #[.agg #[.int .i64 G, .int .i64 I, .slice aB D.length aC, .int .i64 J, .bool K, .bool L], .int .u8 a1, .agg #[.int .i64 ag, .int .u8 ah]] w fun e w' => e = .returned (.bool r) ∧ Below w.heap.size w w' := by
 have HG := Z hG
 clear hG
 have h2 := Tryd.underlying24
 have h6 := Tryd.underlying58
 have h4 := Tryd.underlying35
 have h3 := Tryd.underlying28
 have h5 := Tryd.underlying52
 have ao := Z es
 have ar := Z d7
 clear es d7
 have HB := Z (Below.refl w.heap.size w)
 have H : ((shutterlaw17_awake.f k).bind fun cw => (if cw = true then ((shutterref10_Few.f k G I D J K L).bind fun aO => (if aO = true then ((keys_Do.f k G I D J K L 17 a1).bind fun i => (if i.2.2.2.2.2.2.2.1.isNone = true then ((keys_Do.f k i.1 i.2.1 i.2.2.1 i.2.2.2.1 i.2.2.2.2.1 i.2.2.2.2.2.1 ag ah).bind fun au => (if i.2.2.2.2.2.2.1 = true then (if au.2.2.2.2.2.2.1 = true then (none) else (if i.2.2.2.2.1 = true then (if i.2.2.2.2.2.1 = true then (none) else (shutterlaw17_KeysAsk.l0 k a1 0 G I D J K L i.1 i.2.1 i.2.2.1 i.2.2.2.1 i.2.2.2.2.1 i.2.2.2.2.2.1)) else (none))) else (none))) else (if i.2.2.2.2.2.2.1 = true then (none) else ((shutterref10_Same.f k i.1 i.2.1 i.2.2.1 i.2.2.2.1 i.2.2.2.2.1 i.2.2.2.2.2.1 G I D J K L).bind fun an => (some an))))) else ((shutterlaw17_awake.f k).bind fun az => (some az)))) else (none))) = some r := h
 clear h
 replace H := Option.bind_eq_some_iff.mp H
 obtain ⟨cw, eL, H⟩ := H
 replace H : (if cw = true then ((shutterref10_Few.f k G I D J K L).bind fun aO => (if aO = true then ((keys_Do.f k G I D J K L 17 a1).bind fun i => (if i.2.2.2.2.2.2.2.1.isNone = true then ((keys_Do.f k i.1 i.2.1 i.2.2.1 i.2.2.2.1 i.2.2.2.2.1 i.2.2.2.2.2.1 ag ah).bind fun au => (if i.2.2.2.2.2.2.1 = true then (if au.2.2.2.2.2.2.1 = true then (none) else (if i.2.2.2.2.1 = true then (if i.2.2.2.2.2.1 = true then (none) else (shutterlaw17_KeysAsk.l0 k a1 0 G I D J K L i.1 i.2.1 i.2.2.1 i.2.2.2.1 i.2.2.2.2.1 i.2.2.2.2.2.1)) else (none))) else (none))) else (if i.2.2.2.2.2.2.1 = true then (none) else ((shutterref10_Same.f k i.1 i.2.1 i.2.2.1 i.2.2.2.1 i.2.2.2.2.1 i.2.2.2.2.2.1 G I D J K L).bind fun an => (some an))))) else ((shutterlaw17_awake.f k).bind fun az => (some az)))) else (none)) = some r := H
 have A4 := Z eL
 clear eL
 by_cases c5 : cw = true
 ·subst c5
  have H1 : ((shutterref10_Few.f k G I D J K L).bind fun aO => (if aO = true then ((keys_Do.f k G I D J K L 17 a1).bind fun i => (if i.2.2.2.2.2.2.2.1.isNone = true then ((keys_Do.f k i.1 i.2.1 i.2.2.1 i.2.2.2.1 i.2.2.2.2.1 i.2.2.2.2.2.1 ag ah).bind fun au => (if i.2.2.2.2.2.2.1 = true then (if au.2.2.2.2.2.2.1 = true then (none) else (if i.2.2.2.2.1 = true then (if i.2.2.2.2.2.1 = true then (none) else (shutterlaw17_KeysAsk.l0 k a1 0 G I D J K L i.1 i.2.1 i.2.2.1 i.2.2.2.1 i.2.2.2.2.1 i.2.2.2.2.2.1)) else (none))) else (none))) else (if i.2.2.2.2.2.2.1 = true then (none) else ((shutterref10_Same.f k i.1 i.2.1 i.2.2.1 i.2.2.2.1 i.2.2.2.2.1 i.2.2.2.2.2.1 G I D J K L).bind fun an => (some an))))) else ((shutterlaw17_awake.f k).bind fun az => (some az)))) = some r := by rw [if_pos rfl] at H; exact H
  clear H
  have H := H1
  clear H1
  replace H := Option.bind_eq_some_iff.mp H
  obtain ⟨aO, eM, H⟩ := H
  replace H : (if aO = true then ((keys_Do.f k G I D J K L 17 a1).bind fun i => (if i.2.2.2.2.2.2.2.1.isNone = true then ((keys_Do.f k i.1 i.2.1 i.2.2.1 i.2.2.2.1 i.2.2.2.2.1 i.2.2.2.2.2.1 ag ah).bind fun au => (if i.2.2.2.2.2.2.1 = true then (if au.2.2.2.2.2.2.1 = true then (none) else (if i.2.2.2.2.1 = true then (if i.2.2.2.2.2.1 = true then (none) else (shutterlaw17_KeysAsk.l0 k a1 0 G I D J K L i.1 i.2.1 i.2.2.1 i.2.2.2.1 i.2.2.2.2.1 i.2.2.2.2.2.1)) else (none))) else (none))) else (if i.2.2.2.2.2.2.1 = true then (none) else ((shutterref10_Same.f k i.1 i.2.1 i.2.2.1 i.2.2.2.1 i.2.2.2.2.1 i.2.2.2.2.2.1 G I D J K L).bind fun an => (some an))))) else ((shutterlaw17_awake.f k).bind fun az => (some az))) = some r := H
  have A6 := Z eM
  clear eM
  by_cases c7 : aO = true
  ·subst c7
   have H1 : ((keys_Do.f k G I D J K L 17 a1).bind fun i => (if i.2.2.2.2.2.2.2.1.isNone = true then ((keys_Do.f k i.1 i.2.1 i.2.2.1 i.2.2.2.1 i.2.2.2.2.1 i.2.2.2.2.2.1 ag ah).bind fun au => (if i.2.2.2.2.2.2.1 = true then (if au.2.2.2.2.2.2.1 = true then (none) else (if i.2.2.2.2.1 = true then (if i.2.2.2.2.2.1 = true then (none) else (shutterlaw17_KeysAsk.l0 k a1 0 G I D J K L i.1 i.2.1 i.2.2.1 i.2.2.2.1 i.2.2.2.2.1 i.2.2.2.2.2.1)) else (none))) else (none))) else (if i.2.2.2.2.2.2.1 = true then (none) else ((shutterref10_Same.f k i.1 i.2.1 i.2.2.1 i.2.2.2.1 i.2.2.2.2.1 i.2.2.2.2.2.1 G I D J K L).bind fun an => (some an))))) = some r := by rw [if_pos rfl] at H; exact H
   clear H
   have H := H1
   clear H1
   replace H := Option.bind_eq_some_iff.mp H
   obtain ⟨⟨S, T, u, R, aa, W, aS, et, aN⟩, eN, H⟩ := H
   replace H : (if et.isNone = true then ((keys_Do.f k S T u R aa W ag ah).bind fun au => (if aS = true then (if au.2.2.2.2.2.2.1 = true then (none) else (if aa = true then (if W = true then (none) else (shutterlaw17_KeysAsk.l0 k a1 0 G I D J K L S T u R aa W)) else (none))) else (none))) else (if aS = true then (none) else ((shutterref10_Same.f k S T u R aa W G I D J K L).bind fun an => (some an)))) = some r := H
   have A8 := Z eN
   clear eN
   rcases et with _ | bc
   ·have H1 : ((keys_Do.f k S T u R aa W ag ah).bind fun au => (if aS = true then (if au.2.2.2.2.2.2.1 = true then (none) else (if aa = true then (if W = true then (none) else (shutterlaw17_KeysAsk.l0 k a1 0 G I D J K L S T u R aa W)) else (none))) else (none))) = some r := by rw [if_pos (show (none : Option Er).isNone = true by rfl)] at H; exact H
    clear H
    have H := H1
    clear H1
    try simp only [errW_none, errW_some]
    replace H := Option.bind_eq_some_iff.mp H
    obtain ⟨⟨a0, a2, aP, a3, a4, a5, dP, dQ, dR⟩, eO, H⟩ := H
    replace H : (if aS = true then (if dP = true then (none) else (if aa = true then (if W = true then (none) else (shutterlaw17_KeysAsk.l0 k a1 0 G I D J K L S T u R aa W)) else (none))) else (none)) = some r := H
    have A9 := Z eO
    clear eO
    by_cases c10 : aS = true
    ·subst c10
     have H1 : (if dP = true then (none) else (if aa = true then (if W = true then (none) else (shutterlaw17_KeysAsk.l0 k a1 0 G I D J K L S T u R aa W)) else (none))) = some r := by rw [if_pos rfl] at H; exact H
     clear H
     have H := H1
     clear H1
     by_cases dU : dP = true
     ·subst dU
      have H1 : (none) = some r := by rw [if_pos rfl] at H; exact H
      clear H
      have H := H1
      clear H1
      exact absurd H (by simp)
     ·replace dU := Bool.eq_false_iff.mpr dU
      subst dU
      have H1 : (if aa = true then (if W = true then (none) else (shutterlaw17_KeysAsk.l0 k a1 0 G I D J K L S T u R aa W)) else (none)) = some r := by rw [if_neg (show ¬ (false = true) by decide)] at H; exact H
      clear H
      have H := H1
      clear H1
      by_cases dV : aa = true
      ·subst dV
       have H1 : (if W = true then (none) else (shutterlaw17_KeysAsk.l0 k a1 0 G I D J K L S T u R true W)) = some r := by rw [if_pos rfl] at H; exact H
       clear H
       have H := H1
       clear H1
       by_cases dW : W = true
       ·subst dW
        have H1 : (none) = some r := by rw [if_pos rfl] at H; exact H
        clear H
        have H := H1
        clear H1
        exact absurd H (by simp)
       ·replace dW := Bool.eq_false_iff.mpr dW
        subst dW
        have H1 : (shutterlaw17_KeysAsk.l0 k a1 0 G I D J K L S T u R true false) = some r := by rw [if_neg (show ¬ (false = true) by decide)] at H; exact H
        clear H
        have H := H1
        clear H1
        have H' := Z H
        clear H
        go_enter Tryd.func15, Tryd.ntmps15
        go_wp2_with (first | ((with_reducible refine gate_dst (N := 3) rfl ?_); refine bx_ 3 24 #[.int .i64 G, .int .i64 I, .slice aB D.length aC, .int .i64 J, .bool K, .bool L] ?_; intro A hg eP hbox hb; have a := Z (hbox); have ac := Z (ln_ hg : w.heap.size ≤ A); have aL := Z (ln_ hg : w.heap.size ≤ A); replace HB := Z (below_step bl_ hb); clear hb hbox hg) | ((with_reducible refine gate_dst (N := 5) rfl ?_); refine bx_ 5 58 #[.int .i64 ag, .int .u8 ah] ?_; intro B hg eQ hbox hb; have b := Z (hbox); have ad := Z (ln_ hg : w.heap.size ≤ B); have aM := Z (ln_ hg : w.heap.size ≤ B); replace HB := Z (below_step bl_ hb); have M := Z (nl a.out hg); have P := Z (ng a.out hg); replace a := Z (kb a.out hb); clear hb hbox hg) | (go_at_call 41; (with_reducible refine (shutterlaw17_awake.calls k  true _ ?sideG A4.out).mono ?_); (case sideG => exact laidG_below HG.out bl_ rfl); rintro e eR ⟨rfl, hb⟩; replace a := Z (kb a.out hb); replace b := Z (kb b.out hb); replace HB := Z (below_step bl_ hb); (try clear hb); (try clear ap); (try clear hk); (try clear hi); have d8 := M.out; have ei := P.out; obtain ⟨bg, bh, bi, bj, bk, bl, bT, bU, bV, bW, bX, bY⟩ := cells6 a.out) | (go_at_call 18; (with_reducible refine (shutterref10_Few.calls k G I _ _ D J K L true _ ?side1 ?side2 A6.out).mono ?_); (case side1 => repeat (first | exact (Kd.C_below ao.out HB.out) | (with_reducible apply pC))); (case side2 => exact ar.out); rintro e eS ⟨rfl, hb⟩; replace a := Z (kb a.out hb); replace b := Z (kb b.out hb); replace HB := Z (below_step bl_ hb); (try clear hb); (try clear ap); (try clear hk); (try clear hi); obtain ⟨bm, bn, bo, bp, bq, br, bZ, b0, b1, b2, b3, b4⟩ := cells6 a.out) | (go_at_call 42; (with_reducible refine (keys_Do.calls k G I (fun k_ => k_ < w.heap.size) _ _ D J K L 17 a1 S T u R true false true none aN _ ?side1 A8.out).mono ?_); (case side1 => exact Kd.V_mk ar.out (Kd.F_below (Kd.C_F k35_heap ao.out) bl_)); rintro e eT ⟨bd, aQ, rfl, av, aw, hb⟩; have q := Z (Kd.V_lower (Kd.V_mono (ok' := fun k_ => k_ ≠ A ∧ k_ ≠ B) av (fun k_ hk_ => ⟨Or.elim hk_ (fun hs_ => fun e_ => Nat.not_le.2 hs_ (by rw [e_]; exact ac.out)) (fun hn_ => (fb a.out k_ hn_)), Or.elim hk_ (fun hs_ => fun e_ => Nat.not_le.2 hs_ (by rw [e_]; exact ad.out)) (fun hn_ => (fb b.out k_ hn_))⟩)) (below_size bl_)); have x := Z (Kd.V_lower (Kd.V_mono (ok' := fun k_ => k_ ≠ A ∧ k_ ≠ B) aw (fun k_ hk_ => ⟨Or.elim hk_ (fun hs_ => fun e_ => Nat.not_le.2 hs_ (by rw [e_]; exact ac.out)) (fun hn_ => (fb a.out k_ hn_)), Or.elim hk_ (fun hs_ => fun e_ => Nat.not_le.2 hs_ (by rw [e_]; exact ad.out)) (fun hn_ => (fb b.out k_ hn_))⟩)) (below_size bl_)); replace a := Z (kb a.out hb); replace b := Z (kb b.out hb); replace HB := Z (below_step bl_ hb); (try clear hb); (try clear ap); (try clear hk); (try clear hi); (try clear av); (try clear aw); (try simp only [errW_none, errW_some])) | ((with_reducible refine gate_dst (N := 7) rfl ?_); refine bx_ 7 24 #[.int .i64 0, .int .i64 0, .slice none 0 0, .int .i64 0, .bool false, .bool false] ?_; intro d hg aR hbox hb; replace q := Z (ve q.out hg hb); replace x := Z (ve x.out hg hb); have s := Z (hbox); have aU := Z (ln_ hg : w.heap.size ≤ d); have aT := Z (ln_ hg : w.heap.size ≤ d); replace HB := Z (below_step bl_ hb); have O := Z (nl a.out hg); have X := Z (ng a.out hg); replace a := Z (kb a.out hb); have Q := Z (nl b.out hg); have Y := Z (ng b.out hg); replace b := Z (kb b.out hb); clear hb hbox hg; have d9 := X.out; have ej := O.out; have ea := Y.out; have ek := Q.out; obtain ⟨bs, bt, bu, bv, bw, bx, b5, b6, b7, b8, b9, ca⟩ := cells6 s.out; obtain ⟨aJ, aK, cz⟩ := Kd.V_slice q.out; subst cz) | ((with_reducible refine gate_store (t := 24) (p := 7) rfl ?_); (try (rw [drewN_self aR]; generalize hq_ : World.drewN aR _ = aR; replace q := Z (Kd.V_at hq_ q.out); replace x := Z (Kd.V_at hq_ x.out); replace a := Z (blk_at hq_ a.out); replace b := Z (blk_at hq_ b.out); replace s := Z (blk_at hq_ s.out); replace HB := Z (below_at hq_ HB.out); clear hq_)); refine sx_ 24 7 ((((((aR.setCell ⟨d, 0, none⟩ (.int .i64 S)).setCell ⟨d, 1, none⟩ (.int .i64 T)).setCell ⟨d, 2, none⟩ (.slice aJ u.length aK)).setCell ⟨d, 3, none⟩ (.int .i64 R)).setCell ⟨d, 4, none⟩ (.bool true)).setCell ⟨d, 5, none⟩ (.bool false)) ?_; intro aG hw; replace q : Aside0 (Kd.V k35 35 aG w.heap.size (fun k_ => k_ ≠ A ∧ k_ ≠ B ∧ k_ ≠ d) (.slice aJ u.length aK) u) := ⟨(by rw [hw]; exact (by (with_reducible repeat apply pV); exact V_off q.out (fun k_ hk => hk.2) off2_ (fun _ hk => ⟨hk.1.1, ⟨hk.1.2, hk.2⟩⟩)))⟩; replace x : Aside0 (Kd.V k164 164 aG w.heap.size (fun k_ => k_ ≠ A ∧ k_ ≠ B ∧ k_ ≠ d) aQ aN) := ⟨(by rw [hw]; exact (by (with_reducible repeat apply pV); exact V_off x.out (fun k_ hk => hk.2) off2_ (fun _ hk => ⟨hk.1.1, ⟨hk.1.2, hk.2⟩⟩)))⟩; replace a : Aside0 (aG.heap[A]? = some (.cells #[.int .i64 G, .int .i64 I, .slice aB D.length aC, .int .i64 J, .bool K, .bool L] 24 (0, 0))) := ⟨(by rw [hw]; exact (by (with_reducible repeat apply pK); exact blk_off a.out O.out off2_))⟩; replace b : Aside0 (aG.heap[B]? = some (.cells #[.int .i64 ag, .int .u8 ah] 58 (0, 0))) := ⟨(by rw [hw]; exact (by (with_reducible repeat apply pK); exact blk_off b.out Q.out off2_))⟩; replace s : Aside0 (aG.heap[d]? = some (.cells #[.int .i64 S, .int .i64 T, .slice aJ u.length aK, .int .i64 R, .bool true, .bool false] 24 (0, 0))) := ⟨by rw [hw]; exact (put6 s.out)⟩; replace HB : Aside0 (Below w.heap.size w aG) := ⟨by rw [hw]; exact bl_⟩; clear hw; obtain ⟨bz, bA, bB, bC, bD, bE, cb, cc, cd, ce, cf, cg⟩ := cells6 s.out; obtain ⟨bF, bG, ch, ci⟩ := cells2 b.out) | (go_at_call 42; (with_reducible refine (keys_Do.calls k S T (fun k_ => (k_ ≠ A ∧ (k_ ≠ B ∧ k_ ≠ d))) _ _ u R true false ag ah a0 a2 aP a3 a4 a5 false dQ dR _ ?side1 A9.out).mono ?_); (case side1 => exact q.out); rintro e eU ⟨eu, ev, rfl, av, aw, hb⟩; replace q := Z (vb q.out hb); replace x := Z (vb x.out hb); have aq := Z (Kd.V_lower (Kd.V_mono (ok' := fun k_ => k_ ≠ A ∧ k_ ≠ B ∧ k_ ≠ d) av (fun k_ hk_ => hk_.elim (fun hs_ => ⟨hs_.1, hs_.2.1, hs_.2.2⟩) (fun hn_ => ⟨(fb a.out k_ hn_), (fb b.out k_ hn_), (fb s.out k_ hn_)⟩))) (below_size bl_)); have aD := Z (Kd.V_lower (Kd.V_mono (ok' := fun k_ => k_ ≠ A ∧ k_ ≠ B ∧ k_ ≠ d) aw (fun k_ hk_ => hk_.elim (fun hs_ => ⟨hs_.1, hs_.2.1, hs_.2.2⟩) (fun hn_ => ⟨(fb a.out k_ hn_), (fb b.out k_ hn_), (fb s.out k_ hn_)⟩))) (below_size bl_)); replace a := Z (kb a.out hb); replace b := Z (kb b.out hb); replace s := Z (kb s.out hb); replace HB := Z (below_step bl_ hb); (try clear hb); (try clear ap); (try clear hk); (try clear hi); (try clear av); (try clear aw); (try simp only [errW_none, errW_some])) | ((with_reducible refine gate_dst (N := 10) rfl ?_); refine bx_ 10 24 #[.int .i64 0, .int .i64 0, .slice none 0 0, .int .i64 0, .bool false, .bool false] ?_; intro ab hg eV hbox hb; replace q := Z (ve q.out hg hb); replace x := Z (ve x.out hg hb); replace aq := Z (ve aq.out hg hb); replace aD := Z (ve aD.out hg hb); have aI := Z (hbox); have dT := Z (ln_ hg : w.heap.size ≤ ab); have dS := Z (ln_ hg : w.heap.size ≤ ab); replace HB := Z (below_step bl_ hb); have ae := Z (nl a.out hg); have ai := Z (ng a.out hg); replace a := Z (kb a.out hb); have aA := Z (nl b.out hg); have aF := Z (ng b.out hg); replace b := Z (kb b.out hb); have af := Z (nl s.out hg); have aj := Z (ng s.out hg); replace s := Z (kb s.out hb); clear hb hbox hg; have eb := ai.out; have el := ae.out; have ec := aF.out; have em := aA.out; have ed := aj.out; have en := af.out; obtain ⟨bH, bI, bJ, bK, bL, bM, cj, ck, cl, cm, cn, co⟩ := cells6 aI.out; obtain ⟨be, bf, cA⟩ := Kd.V_slice aq.out; subst cA; obtain ⟨bN, bO, bP, bQ, bR, bS, cp, cq, cr, ct, cu, cv⟩ := cells6 s.out))
        repeat (go_quiet (first | ((with_reducible refine gate_dst (N := 3) rfl ?_); refine bx_ 3 24 #[.int .i64 G, .int .i64 I, .slice aB D.length aC, .int .i64 J, .bool K, .bool L] ?_; intro A hg eP hbox hb; have a := Z (hbox); have ac := Z (ln_ hg : w.heap.size ≤ A); have aL := Z (ln_ hg : w.heap.size ≤ A); replace HB := Z (below_step bl_ hb); clear hb hbox hg) | ((with_reducible refine gate_dst (N := 5) rfl ?_); refine bx_ 5 58 #[.int .i64 ag, .int .u8 ah] ?_; intro B hg eQ hbox hb; have b := Z (hbox); have ad := Z (ln_ hg : w.heap.size ≤ B); have aM := Z (ln_ hg : w.heap.size ≤ B); replace HB := Z (below_step bl_ hb); have M := Z (nl a.out hg); have P := Z (ng a.out hg); replace a := Z (kb a.out hb); clear hb hbox hg) | (go_at_call 41; (with_reducible refine (shutterlaw17_awake.calls k  true _ ?sideG A4.out).mono ?_); (case sideG => exact laidG_below HG.out bl_ rfl); rintro e eR ⟨rfl, hb⟩; replace a := Z (kb a.out hb); replace b := Z (kb b.out hb); replace HB := Z (below_step bl_ hb); (try clear hb); (try clear ap); (try clear hk); (try clear hi); have d8 := M.out; have ei := P.out; obtain ⟨bg, bh, bi, bj, bk, bl, bT, bU, bV, bW, bX, bY⟩ := cells6 a.out) | (go_at_call 18; (with_reducible refine (shutterref10_Few.calls k G I _ _ D J K L true _ ?side1 ?side2 A6.out).mono ?_); (case side1 => repeat (first | exact (Kd.C_below ao.out HB.out) | (with_reducible apply pC))); (case side2 => exact ar.out); rintro e eS ⟨rfl, hb⟩; replace a := Z (kb a.out hb); replace b := Z (kb b.out hb); replace HB := Z (below_step bl_ hb); (try clear hb); (try clear ap); (try clear hk); (try clear hi); obtain ⟨bm, bn, bo, bp, bq, br, bZ, b0, b1, b2, b3, b4⟩ := cells6 a.out) | (go_at_call 42; (with_reducible refine (keys_Do.calls k G I (fun k_ => k_ < w.heap.size) _ _ D J K L 17 a1 S T u R true false true none aN _ ?side1 A8.out).mono ?_); (case side1 => exact Kd.V_mk ar.out (Kd.F_below (Kd.C_F k35_heap ao.out) bl_)); rintro e eT ⟨bd, aQ, rfl, av, aw, hb⟩; have q := Z (Kd.V_lower (Kd.V_mono (ok' := fun k_ => k_ ≠ A ∧ k_ ≠ B) av (fun k_ hk_ => ⟨Or.elim hk_ (fun hs_ => fun e_ => Nat.not_le.2 hs_ (by rw [e_]; exact ac.out)) (fun hn_ => (fb a.out k_ hn_)), Or.elim hk_ (fun hs_ => fun e_ => Nat.not_le.2 hs_ (by rw [e_]; exact ad.out)) (fun hn_ => (fb b.out k_ hn_))⟩)) (below_size bl_)); have x := Z (Kd.V_lower (Kd.V_mono (ok' := fun k_ => k_ ≠ A ∧ k_ ≠ B) aw (fun k_ hk_ => ⟨Or.elim hk_ (fun hs_ => fun e_ => Nat.not_le.2 hs_ (by rw [e_]; exact ac.out)) (fun hn_ => (fb a.out k_ hn_)), Or.elim hk_ (fun hs_ => fun e_ => Nat.not_le.2 hs_ (by rw [e_]; exact ad.out)) (fun hn_ => (fb b.out k_ hn_))⟩)) (below_size bl_)); replace a := Z (kb a.out hb); replace b := Z (kb b.out hb); replace HB := Z (below_step bl_ hb); (try clear hb); (try clear ap); (try clear hk); (try clear hi); (try clear av); (try clear aw); (try simp only [errW_none, errW_some])) | ((with_reducible refine gate_dst (N := 7) rfl ?_); refine bx_ 7 24 #[.int .i64 0, .int .i64 0, .slice none 0 0, .int .i64 0, .bool false, .bool false] ?_; intro d hg aR hbox hb; replace q := Z (ve q.out hg hb); replace x := Z (ve x.out hg hb); have s := Z (hbox); have aU := Z (ln_ hg : w.heap.size ≤ d); have aT := Z (ln_ hg : w.heap.size ≤ d); replace HB := Z (below_step bl_ hb); have O := Z (nl a.out hg); have X := Z (ng a.out hg); replace a := Z (kb a.out hb); have Q := Z (nl b.out hg); have Y := Z (ng b.out hg); replace b := Z (kb b.out hb); clear hb hbox hg; have d9 := X.out; have ej := O.out; have ea := Y.out; have ek := Q.out; obtain ⟨bs, bt, bu, bv, bw, bx, b5, b6, b7, b8, b9, ca⟩ := cells6 s.out; obtain ⟨aJ, aK, cz⟩ := Kd.V_slice q.out; subst cz) | ((with_reducible refine gate_store (t := 24) (p := 7) rfl ?_); (try (rw [drewN_self aR]; generalize hq_ : World.drewN aR _ = aR; replace q := Z (Kd.V_at hq_ q.out); replace x := Z (Kd.V_at hq_ x.out); replace a := Z (blk_at hq_ a.out); replace b := Z (blk_at hq_ b.out); replace s := Z (blk_at hq_ s.out); replace HB := Z (below_at hq_ HB.out); clear hq_)); refine sx_ 24 7 ((((((aR.setCell ⟨d, 0, none⟩ (.int .i64 S)).setCell ⟨d, 1, none⟩ (.int .i64 T)).setCell ⟨d, 2, none⟩ (.slice aJ u.length aK)).setCell ⟨d, 3, none⟩ (.int .i64 R)).setCell ⟨d, 4, none⟩ (.bool true)).setCell ⟨d, 5, none⟩ (.bool false)) ?_; intro aG hw; replace q : Aside0 (Kd.V k35 35 aG w.heap.size (fun k_ => k_ ≠ A ∧ k_ ≠ B ∧ k_ ≠ d) (.slice aJ u.length aK) u) := ⟨(by rw [hw]; exact (by (with_reducible repeat apply pV); exact V_off q.out (fun k_ hk => hk.2) off2_ (fun _ hk => ⟨hk.1.1, ⟨hk.1.2, hk.2⟩⟩)))⟩; replace x : Aside0 (Kd.V k164 164 aG w.heap.size (fun k_ => k_ ≠ A ∧ k_ ≠ B ∧ k_ ≠ d) aQ aN) := ⟨(by rw [hw]; exact (by (with_reducible repeat apply pV); exact V_off x.out (fun k_ hk => hk.2) off2_ (fun _ hk => ⟨hk.1.1, ⟨hk.1.2, hk.2⟩⟩)))⟩; replace a : Aside0 (aG.heap[A]? = some (.cells #[.int .i64 G, .int .i64 I, .slice aB D.length aC, .int .i64 J, .bool K, .bool L] 24 (0, 0))) := ⟨(by rw [hw]; exact (by (with_reducible repeat apply pK); exact blk_off a.out O.out off2_))⟩; replace b : Aside0 (aG.heap[B]? = some (.cells #[.int .i64 ag, .int .u8 ah] 58 (0, 0))) := ⟨(by rw [hw]; exact (by (with_reducible repeat apply pK); exact blk_off b.out Q.out off2_))⟩; replace s : Aside0 (aG.heap[d]? = some (.cells #[.int .i64 S, .int .i64 T, .slice aJ u.length aK, .int .i64 R, .bool true, .bool false] 24 (0, 0))) := ⟨by rw [hw]; exact (put6 s.out)⟩; replace HB : Aside0 (Below w.heap.size w aG) := ⟨by rw [hw]; exact bl_⟩; clear hw; obtain ⟨bz, bA, bB, bC, bD, bE, cb, cc, cd, ce, cf, cg⟩ := cells6 s.out; obtain ⟨bF, bG, ch, ci⟩ := cells2 b.out) | (go_at_call 42; (with_reducible refine (keys_Do.calls k S T (fun k_ => (k_ ≠ A ∧ (k_ ≠ B ∧ k_ ≠ d))) _ _ u R true false ag ah a0 a2 aP a3 a4 a5 false dQ dR _ ?side1 A9.out).mono ?_); (case side1 => exact q.out); rintro e eU ⟨eu, ev, rfl, av, aw, hb⟩; replace q := Z (vb q.out hb); replace x := Z (vb x.out hb); have aq := Z (Kd.V_lower (Kd.V_mono (ok' := fun k_ => k_ ≠ A ∧ k_ ≠ B ∧ k_ ≠ d) av (fun k_ hk_ => hk_.elim (fun hs_ => ⟨hs_.1, hs_.2.1, hs_.2.2⟩) (fun hn_ => ⟨(fb a.out k_ hn_), (fb b.out k_ hn_), (fb s.out k_ hn_)⟩))) (below_size bl_)); have aD := Z (Kd.V_lower (Kd.V_mono (ok' := fun k_ => k_ ≠ A ∧ k_ ≠ B ∧ k_ ≠ d) aw (fun k_ hk_ => hk_.elim (fun hs_ => ⟨hs_.1, hs_.2.1, hs_.2.2⟩) (fun hn_ => ⟨(fb a.out k_ hn_), (fb b.out k_ hn_), (fb s.out k_ hn_)⟩))) (below_size bl_)); replace a := Z (kb a.out hb); replace b := Z (kb b.out hb); replace s := Z (kb s.out hb); replace HB := Z (below_step bl_ hb); (try clear hb); (try clear ap); (try clear hk); (try clear hi); (try clear av); (try clear aw); (try simp only [errW_none, errW_some])) | ((with_reducible refine gate_dst (N := 10) rfl ?_); refine bx_ 10 24 #[.int .i64 0, .int .i64 0, .slice none 0 0, .int .i64 0, .bool false, .bool false] ?_; intro ab hg eV hbox hb; replace q := Z (ve q.out hg hb); replace x := Z (ve x.out hg hb); replace aq := Z (ve aq.out hg hb); replace aD := Z (ve aD.out hg hb); have aI := Z (hbox); have dT := Z (ln_ hg : w.heap.size ≤ ab); have dS := Z (ln_ hg : w.heap.size ≤ ab); replace HB := Z (below_step bl_ hb); have ae := Z (nl a.out hg); have ai := Z (ng a.out hg); replace a := Z (kb a.out hb); have aA := Z (nl b.out hg); have aF := Z (ng b.out hg); replace b := Z (kb b.out hb); have af := Z (nl s.out hg); have aj := Z (ng s.out hg); replace s := Z (kb s.out hb); clear hb hbox hg; have eb := ai.out; have el := ae.out; have ec := aF.out; have em := aA.out; have ed := aj.out; have en := af.out; obtain ⟨bH, bI, bJ, bK, bL, bM, cj, ck, cl, cm, cn, co⟩ := cells6 aI.out; obtain ⟨be, bf, cA⟩ := Kd.V_slice aq.out; subst cA; obtain ⟨bN, bO, bP, bQ, bR, bS, cp, cq, cr, ct, cu, cv⟩ := cells6 s.out)); try go_wp2_with (first | ((with_reducible refine gate_dst (N := 3) rfl ?_); refine bx_ 3 24 #[.int .i64 G, .int .i64 I, .slice aB D.length aC, .int .i64 J, .bool K, .bool L] ?_; intro A hg eP hbox hb; have a := Z (hbox); have ac := Z (ln_ hg : w.heap.size ≤ A); have aL := Z (ln_ hg : w.heap.size ≤ A); replace HB := Z (below_step bl_ hb); clear hb hbox hg) | ((with_reducible refine gate_dst (N := 5) rfl ?_); refine bx_ 5 58 #[.int .i64 ag, .int .u8 ah] ?_; intro B hg eQ hbox hb; have b := Z (hbox); have ad := Z (ln_ hg : w.heap.size ≤ B); have aM := Z (ln_ hg : w.heap.size ≤ B); replace HB := Z (below_step bl_ hb); have M := Z (nl a.out hg); have P := Z (ng a.out hg); replace a := Z (kb a.out hb); clear hb hbox hg) | (go_at_call 41; (with_reducible refine (shutterlaw17_awake.calls k  true _ ?sideG A4.out).mono ?_); (case sideG => exact laidG_below HG.out bl_ rfl); rintro e eR ⟨rfl, hb⟩; replace a := Z (kb a.out hb); replace b := Z (kb b.out hb); replace HB := Z (below_step bl_ hb); (try clear hb); (try clear ap); (try clear hk); (try clear hi); have d8 := M.out; have ei := P.out; obtain ⟨bg, bh, bi, bj, bk, bl, bT, bU, bV, bW, bX, bY⟩ := cells6 a.out) | (go_at_call 18; (with_reducible refine (shutterref10_Few.calls k G I _ _ D J K L true _ ?side1 ?side2 A6.out).mono ?_); (case side1 => repeat (first | exact (Kd.C_below ao.out HB.out) | (with_reducible apply pC))); (case side2 => exact ar.out); rintro e eS ⟨rfl, hb⟩; replace a := Z (kb a.out hb); replace b := Z (kb b.out hb); replace HB := Z (below_step bl_ hb); (try clear hb); (try clear ap); (try clear hk); (try clear hi); obtain ⟨bm, bn, bo, bp, bq, br, bZ, b0, b1, b2, b3, b4⟩ := cells6 a.out) | (go_at_call 42; (with_reducible refine (keys_Do.calls k G I (fun k_ => k_ < w.heap.size) _ _ D J K L 17 a1 S T u R true false true none aN _ ?side1 A8.out).mono ?_); (case side1 => exact Kd.V_mk ar.out (Kd.F_below (Kd.C_F k35_heap ao.out) bl_)); rintro e eT ⟨bd, aQ, rfl, av, aw, hb⟩; have q := Z (Kd.V_lower (Kd.V_mono (ok' := fun k_ => k_ ≠ A ∧ k_ ≠ B) av (fun k_ hk_ => ⟨Or.elim hk_ (fun hs_ => fun e_ => Nat.not_le.2 hs_ (by rw [e_]; exact ac.out)) (fun hn_ => (fb a.out k_ hn_)), Or.elim hk_ (fun hs_ => fun e_ => Nat.not_le.2 hs_ (by rw [e_]; exact ad.out)) (fun hn_ => (fb b.out k_ hn_))⟩)) (below_size bl_)); have x := Z (Kd.V_lower (Kd.V_mono (ok' := fun k_ => k_ ≠ A ∧ k_ ≠ B) aw (fun k_ hk_ => ⟨Or.elim hk_ (fun hs_ => fun e_ => Nat.not_le.2 hs_ (by rw [e_]; exact ac.out)) (fun hn_ => (fb a.out k_ hn_)), Or.elim hk_ (fun hs_ => fun e_ => Nat.not_le.2 hs_ (by rw [e_]; exact ad.out)) (fun hn_ => (fb b.out k_ hn_))⟩)) (below_size bl_)); replace a := Z (kb a.out hb); replace b := Z (kb b.out hb); replace HB := Z (below_step bl_ hb); (try clear hb); (try clear ap); (try clear hk); (try clear hi); (try clear av); (try clear aw); (try simp only [errW_none, errW_some])) | ((with_reducible refine gate_dst (N := 7) rfl ?_); refine bx_ 7 24 #[.int .i64 0, .int .i64 0, .slice none 0 0, .int .i64 0, .bool false, .bool false] ?_; intro d hg aR hbox hb; replace q := Z (ve q.out hg hb); replace x := Z (ve x.out hg hb); have s := Z (hbox); have aU := Z (ln_ hg : w.heap.size ≤ d); have aT := Z (ln_ hg : w.heap.size ≤ d); replace HB := Z (below_step bl_ hb); have O := Z (nl a.out hg); have X := Z (ng a.out hg); replace a := Z (kb a.out hb); have Q := Z (nl b.out hg); have Y := Z (ng b.out hg); replace b := Z (kb b.out hb); clear hb hbox hg; have d9 := X.out; have ej := O.out; have ea := Y.out; have ek := Q.out; obtain ⟨bs, bt, bu, bv, bw, bx, b5, b6, b7, b8, b9, ca⟩ := cells6 s.out; obtain ⟨aJ, aK, cz⟩ := Kd.V_slice q.out; subst cz) | ((with_reducible refine gate_store (t := 24) (p := 7) rfl ?_); (try (rw [drewN_self aR]; generalize hq_ : World.drewN aR _ = aR; replace q := Z (Kd.V_at hq_ q.out); replace x := Z (Kd.V_at hq_ x.out); replace a := Z (blk_at hq_ a.out); replace b := Z (blk_at hq_ b.out); replace s := Z (blk_at hq_ s.out); replace HB := Z (below_at hq_ HB.out); clear hq_)); refine sx_ 24 7 ((((((aR.setCell ⟨d, 0, none⟩ (.int .i64 S)).setCell ⟨d, 1, none⟩ (.int .i64 T)).setCell ⟨d, 2, none⟩ (.slice aJ u.length aK)).setCell ⟨d, 3, none⟩ (.int .i64 R)).setCell ⟨d, 4, none⟩ (.bool true)).setCell ⟨d, 5, none⟩ (.bool false)) ?_; intro aG hw; replace q : Aside0 (Kd.V k35 35 aG w.heap.size (fun k_ => k_ ≠ A ∧ k_ ≠ B ∧ k_ ≠ d) (.slice aJ u.length aK) u) := ⟨(by rw [hw]; exact (by (with_reducible repeat apply pV); exact V_off q.out (fun k_ hk => hk.2) off2_ (fun _ hk => ⟨hk.1.1, ⟨hk.1.2, hk.2⟩⟩)))⟩; replace x : Aside0 (Kd.V k164 164 aG w.heap.size (fun k_ => k_ ≠ A ∧ k_ ≠ B ∧ k_ ≠ d) aQ aN) := ⟨(by rw [hw]; exact (by (with_reducible repeat apply pV); exact V_off x.out (fun k_ hk => hk.2) off2_ (fun _ hk => ⟨hk.1.1, ⟨hk.1.2, hk.2⟩⟩)))⟩; replace a : Aside0 (aG.heap[A]? = some (.cells #[.int .i64 G, .int .i64 I, .slice aB D.length aC, .int .i64 J, .bool K, .bool L] 24 (0, 0))) := ⟨(by rw [hw]; exact (by (with_reducible repeat apply pK); exact blk_off a.out O.out off2_))⟩; replace b : Aside0 (aG.heap[B]? = some (.cells #[.int .i64 ag, .int .u8 ah] 58 (0, 0))) := ⟨(by rw [hw]; exact (by (with_reducible repeat apply pK); exact blk_off b.out Q.out off2_))⟩; replace s : Aside0 (aG.heap[d]? = some (.cells #[.int .i64 S, .int .i64 T, .slice aJ u.length aK, .int .i64 R, .bool true, .bool false] 24 (0, 0))) := ⟨by rw [hw]; exact (put6 s.out)⟩; replace HB : Aside0 (Below w.heap.size w aG) := ⟨by rw [hw]; exact bl_⟩; clear hw; obtain ⟨bz, bA, bB, bC, bD, bE, cb, cc, cd, ce, cf, cg⟩ := cells6 s.out; obtain ⟨bF, bG, ch, ci⟩ := cells2 b.out) | (go_at_call 42; (with_reducible refine (keys_Do.calls k S T (fun k_ => (k_ ≠ A ∧ (k_ ≠ B ∧ k_ ≠ d))) _ _ u R true false ag ah a0 a2 aP a3 a4 a5 false dQ dR _ ?side1 A9.out).mono ?_); (case side1 => exact q.out); rintro e eU ⟨eu, ev, rfl, av, aw, hb⟩; replace q := Z (vb q.out hb); replace x := Z (vb x.out hb); have aq := Z (Kd.V_lower (Kd.V_mono (ok' := fun k_ => k_ ≠ A ∧ k_ ≠ B ∧ k_ ≠ d) av (fun k_ hk_ => hk_.elim (fun hs_ => ⟨hs_.1, hs_.2.1, hs_.2.2⟩) (fun hn_ => ⟨(fb a.out k_ hn_), (fb b.out k_ hn_), (fb s.out k_ hn_)⟩))) (below_size bl_)); have aD := Z (Kd.V_lower (Kd.V_mono (ok' := fun k_ => k_ ≠ A ∧ k_ ≠ B ∧ k_ ≠ d) aw (fun k_ hk_ => hk_.elim (fun hs_ => ⟨hs_.1, hs_.2.1, hs_.2.2⟩) (fun hn_ => ⟨(fb a.out k_ hn_), (fb b.out k_ hn_), (fb s.out k_ hn_)⟩))) (below_size bl_)); replace a := Z (kb a.out hb); replace b := Z (kb b.out hb); replace s := Z (kb s.out hb); replace HB := Z (below_step bl_ hb); (try clear hb); (try clear ap); (try clear hk); (try clear hi); (try clear av); (try clear aw); (try simp only [errW_none, errW_some])) | ((with_reducible refine gate_dst (N := 10) rfl ?_); refine bx_ 10 24 #[.int .i64 0, .int .i64 0, .slice none 0 0, .int .i64 0, .bool false, .bool false] ?_; intro ab hg eV hbox hb; replace q := Z (ve q.out hg hb); replace x := Z (ve x.out hg hb); replace aq := Z (ve aq.out hg hb); replace aD := Z (ve aD.out hg hb); have aI := Z (hbox); have dT := Z (ln_ hg : w.heap.size ≤ ab); have dS := Z (ln_ hg : w.heap.size ≤ ab); replace HB := Z (below_step bl_ hb); have ae := Z (nl a.out hg); have ai := Z (ng a.out hg); replace a := Z (kb a.out hb); have aA := Z (nl b.out hg); have aF := Z (ng b.out hg); replace b := Z (kb b.out hb); have af := Z (nl s.out hg); have aj := Z (ng s.out hg); replace s := Z (kb s.out hb); clear hb hbox hg; have eb := ai.out; have el := ae.out; have ec := aF.out; have em := aA.out; have ed := aj.out; have en := af.out; obtain ⟨bH, bI, bJ, bK, bL, bM, cj, ck, cl, cm, cn, co⟩ := cells6 aI.out; obtain ⟨be, bf, cA⟩ := Kd.V_slice aq.out; subst cA; obtain ⟨bN, bO, bP, bQ, bR, bS, cp, cq, cr, ct, cu, cv⟩ := cells6 s.out)))
        go_loopg [13] k (fun kq g7 w' => ∃ (z : Int), g7 = .int .i64 z ∧ Aside0 (shutterlaw17_KeysAsk.l0 kq a1 z G I D J K L S T u R true false = some r) ∧ Aside0 (kq ≤ k) ∧ Aside0 (Kd.V k35 35 w' w.heap.size (fun k_ => k_ ≠ A ∧ k_ ≠ B ∧ k_ ≠ d ∧ k_ ≠ ab) (.slice aJ u.length aK) u) ∧ Aside0 (Kd.V k35 35 w' w.heap.size (fun k_ => k_ ≠ A ∧ k_ ≠ B ∧ k_ ≠ d ∧ k_ ≠ ab) (.slice be aP.length bf) aP) ∧ Aside0 (w'.heap[A]? = some (.cells #[.int .i64 G, .int .i64 I, (.slice aB D.length aC), .int .i64 J, .bool K, .bool L] 24 (0, 0))) ∧ Aside0 (w'.heap[B]? = some (.cells #[.int .i64 ag, .int .u8 ah] 58 (0, 0))) ∧ Aside0 (w'.heap[d]? = some (.cells #[.int .i64 S, .int .i64 T, (.slice aJ u.length aK), .int .i64 R, .bool true, .bool false] 24 (0, 0))) ∧ Aside0 (w'.heap[ab]? = some (.cells #[.int .i64 a0, .int .i64 a2, (.slice be aP.length bf), .int .i64 a3, .bool a4, .bool a5] 24 (0, 0))) ∧ Aside0 (Below w.heap.size w w'))
        case atStart => exact ⟨(0), (dn_), H', ⟨Nat.le_refl _⟩, ⟨by (with_reducible repeat apply pV); exact Kd.V_mono (f6V ab (Kd.V_mono q.out (fun k_ hk => (⟨hk, hk.2⟩ : _ ∧ k_ ≠ ab))) (fun _ hk => hk.2)) (fun _ hk => ⟨hk.1.1.1, ⟨hk.1.1.2.1, ⟨hk.1.1.2.2, hk.1.2⟩⟩⟩)⟩, ⟨by (with_reducible repeat apply pV); exact Kd.V_mono (f6V ab (Kd.V_mono aq.out (fun k_ hk => (⟨hk, hk.2⟩ : _ ∧ k_ ≠ ab))) (fun _ hk => hk.2)) (fun _ hk => ⟨hk.1.1.1, ⟨hk.1.1.2.1, ⟨hk.1.1.2.2, hk.1.2⟩⟩⟩)⟩, ⟨by (with_reducible repeat apply pK); exact blk_off a.out ae.out off2_⟩, ⟨by (with_reducible repeat apply pK); exact blk_off b.out aA.out off2_⟩, ⟨by (with_reducible repeat apply pK); exact blk_off s.out af.out off2_⟩, ⟨put6 aI.out⟩, ⟨bl_⟩⟩
        case round =>
         clear H'
         try clear c1
         try clear q1
         try clear c2
         try clear p2
         try clear c3
         try clear c5
         try clear c7
         try clear c10
         try clear dU
         try clear dV
         try clear dW
         try clear h7
         try clear id
         try clear h8
         try clear h9
         try clear c24
         try clear ia
         try clear ib
         try clear ic
         try clear bg
         try clear bh
         try clear bi
         try clear bj
         try clear bk
         try clear bl
         try clear bm
         try clear bn
         try clear bo
         try clear bp
         try clear bq
         try clear br
         try clear bs
         try clear bt
         try clear bu
         try clear bv
         try clear bw
         try clear bx
         try clear bz
         try clear bA
         try clear bB
         try clear bC
         try clear bD
         try clear bE
         try clear bF
         try clear bG
         try clear bH
         try clear bI
         try clear bJ
         try clear bK
         try clear bL
         try clear bM
         try clear bN
         try clear bO
         try clear bP
         try clear bQ
         try clear bR
         try clear bS
         try clear bT
         try clear bU
         try clear bV
         try clear bW
         try clear bX
         try clear bY
         try clear bZ
         try clear b0
         try clear b1
         try clear b2
         try clear b3
         try clear b4
         try clear b5
         try clear b6
         try clear b7
         try clear b8
         try clear b9
         try clear ca
         try clear cb
         try clear cc
         try clear cd
         try clear ce
         try clear cf
         try clear cg
         try clear ch
         try clear ci
         try clear cj
         try clear ck
         try clear cl
         try clear cm
         try clear cn
         try clear co
         try clear cp
         try clear cq
         try clear cr
         try clear ct
         try clear cu
         try clear cv
         try clear bc
         obtain ⟨z, rfl, HA, dZ, HO_1664002, HO_1679002, a, b, s, aI, HB⟩ := hrel
         cases gk with
         | zero => exact absurd HA.out (by simp [shutterlaw17_KeysAsk.l0])
         | succ k1 =>
          have H := HA.out
          clear HA
          simp only [shutterlaw17_KeysAsk.l0] at H
          by_cases cD : z < (D.length : Int)
          ·rw [if_pos cD] at H
           have eB : decide (z < (D.length : Int)) = true := decide_eq_true cD
           clear cD
           by_cases cx : a1 = 109
           ·rw [if_pos cx] at H
            have eC : (a1 == 109) = true := beq_iff_eq.mpr cx
            have eD : (a1 != 109) = false := bne_eq_false_iff_eq.mpr cx
            clear cx
            by_cases d0 : 0 ≤ z
            ·rw [if_pos d0] at H
             have g8 : decide (0 ≤ z) = true := decide_eq_true d0
             clear d0
             by_cases d1 : z < (u.length : Int)
             ·rw [if_pos d1] at H
              have g9 : decide (z < (u.length : Int)) = true := decide_eq_true d1
              clear d1
              by_cases d2 : (((rd_T35 u z).f0) || ((((rd_T35 u z).f1.f0) || (((rd_T35 u z).f1.f1) || (!(((rd_T35 u z).f1.f2) == 0) || (((rd_T35 u z).f1.f3))))) || (!(((rd_T35 u z).f2) == 0)))) = true
              ·rw [if_pos d2] at H
               exact absurd H (by simp)
              ·rw [if_neg d2] at H
               have eE : (((rd_T35 u z).f0) || ((((rd_T35 u z).f1.f0) || (((rd_T35 u z).f1.f1) || (!(((rd_T35 u z).f1.f2) == 0) || (((rd_T35 u z).f1.f3))))) || (!(((rd_T35 u z).f2) == 0)))) = false := by simpa using d2
               clear d2
               have H' := Z H
               clear H
               have hh := M.out
               have hI := P.out
               have hj := O.out
               have hJ := X.out
               have hl := ae.out
               have hK := ai.out
               obtain ⟨fl, fm, fn, fo, fp, fq, gh, gi, gj, gl, gm, gn⟩ := cells6 a.out
               have hm := Y.out
               have hL := Q.out
               have hp := af.out
               have hM := aj.out
               obtain ⟨fr, fs, ft, fu, fv, fw, go, gp, gq, gr, gs, gt⟩ := cells6 s.out
               have dJ : 0 ≤ (z : Int) := od_
               have dM : z < (u.length : Int) := od_
               obtain ⟨g4, eI, e8, e9, fa, fc, fd, fe⟩ := at_T35 (Kd.V_reads' HO_1664002.out).2.2 z dJ dM
               cases eI
               replace dJ := eq_true dJ
               replace dM := eq_true dM
               go_wp2
               repeat (go_quiet (fail); try go_wp2)
               any_goals (first | (exfalso; rename_i hq_; exact Bool.noConfusion ((show (((rd_T35 u z).f0) || ((((rd_T35 u z).f1.f0) || (((rd_T35 u z).f1.f1) || (!(((rd_T35 u z).f1.f2) == 0) || (((rd_T35 u z).f1.f3))))) || (!(((rd_T35 u z).f2) == 0)))) = true by simpa using hq_).symm.trans eE)) | skip)
               go_roundg k1
               case measure => have := dZ.out; omega
               case rel => exact ⟨(wrap64 (z + 1)), (dn_), H', ⟨by have := dZ.out; omega⟩, ⟨vV HO_1664002.out⟩, ⟨vV HO_1679002.out⟩, ⟨vK a.out⟩, ⟨vK b.out⟩, ⟨vK s.out⟩, ⟨vK aI.out⟩, ⟨bl_⟩⟩
             ·rw [if_neg d1] at H
              exact absurd H (by simp)
            ·rw [if_neg d0] at H
             exact absurd H (by simp)
           ·rw [if_neg cx] at H
            have eC : (a1 == 109) = false := beq_eq_false_iff_ne.mpr cx
            have eD : (a1 != 109) = true := bne_iff_ne.mpr cx
            by_cases d3 : 0 ≤ z
            ·rw [if_pos d3] at H
             have ha : decide (0 ≤ z) = true := decide_eq_true d3
             clear d3
             by_cases d4 : z < (u.length : Int)
             ·rw [if_pos d4] at H
              have hc : decide (z < (u.length : Int)) = true := decide_eq_true d4
              clear d4
              by_cases d5 : (!(((rd_T35 u z).f0) == ((rd_T35 D z).f0)) || ((!(((rd_T35 u z).f1.f0) == ((rd_T35 D z).f1.f0)) || (!(((rd_T35 u z).f1.f1) == ((rd_T35 D z).f1.f1)) || (!(((rd_T35 u z).f1.f2) == ((rd_T35 D z).f1.f2)) || (!(((rd_T35 u z).f1.f3) == ((rd_T35 D z).f1.f3)))))) || (!(((rd_T35 u z).f2) == ((rd_T35 D z).f2))))) = true
              ·rw [if_pos d5] at H
               exact absurd H (by simp)
              ·rw [if_neg d5] at H
               have eF : (!(((rd_T35 u z).f0) == ((rd_T35 D z).f0)) || ((!(((rd_T35 u z).f1.f0) == ((rd_T35 D z).f1.f0)) || (!(((rd_T35 u z).f1.f1) == ((rd_T35 D z).f1.f1)) || (!(((rd_T35 u z).f1.f2) == ((rd_T35 D z).f1.f2)) || (!(((rd_T35 u z).f1.f3) == ((rd_T35 D z).f1.f3)))))) || (!(((rd_T35 u z).f2) == ((rd_T35 D z).f2))))) = false := by simpa using d5
               clear d5
               have H' := Z H
               clear H
               have hq := M.out
               have hN := P.out
               have hs := O.out
               have hO := X.out
               have ht := ae.out
               have hP := ai.out
               obtain ⟨fx, fy, fz, fA, fB, fC, gu, gv, gw, gx, gy, gz⟩ := cells6 a.out
               have hu := Y.out
               have hQ := Q.out
               have hv := af.out
               have hR := aj.out
               obtain ⟨fD, fE, fF, fG, fH, fI, gA, gB, gC, gD, gE, gF⟩ := cells6 s.out
               have dK : 0 ≤ (z : Int) := od_
               have dN : z < (u.length : Int) := od_
               obtain ⟨g5, eJ, ff, fg, fh, fi, fj, fk⟩ := at_T35 (Kd.V_reads' HO_1664002.out).2.2 z dK dN
               cases eJ
               replace dK := eq_true dK
               replace dN := eq_true dN
               have dL : 0 ≤ (z : Int) := od_
               have dO : z < (D.length : Int) := od_
               obtain ⟨g6, eK, a6, a7, a8, a9, ba, bb⟩ := at_T35 ao.out z dL dO
               cases eK
               replace a6 := (HB.out.cell (bk_ w _ a6)).trans a6
               replace a7 := (HB.out.cell (bk_ w _ a7)).trans a7
               replace a8 := (HB.out.cell (bk_ w _ a8)).trans a8
               replace a9 := (HB.out.cell (bk_ w _ a9)).trans a9
               replace ba := (HB.out.cell (bk_ w _ ba)).trans ba
               replace bb := (HB.out.cell (bk_ w _ bb)).trans bb
               replace dL := eq_true dL
               replace dO := eq_true dO
               go_wp2
               repeat (go_quiet (fail); try go_wp2)
               any_goals (first | (exfalso; rename_i hq_; exact Bool.noConfusion ((show (!(((rd_T35 u z).f0) == ((rd_T35 D z).f0)) || ((!(((rd_T35 u z).f1.f0) == ((rd_T35 D z).f1.f0)) || (!(((rd_T35 u z).f1.f1) == ((rd_T35 D z).f1.f1)) || (!(((rd_T35 u z).f1.f2) == ((rd_T35 D z).f1.f2)) || (!(((rd_T35 u z).f1.f3) == ((rd_T35 D z).f1.f3)))))) || (!(((rd_T35 u z).f2) == ((rd_T35 D z).f2))))) = true by simpa using hq_).symm.trans eF)) | skip)
               go_roundg k1
               case measure => have := dZ.out; omega
               case rel => exact ⟨(wrap64 (z + 1)), (dn_), H', ⟨by have := dZ.out; omega⟩, ⟨vV HO_1664002.out⟩, ⟨vV HO_1679002.out⟩, ⟨vK a.out⟩, ⟨vK b.out⟩, ⟨vK s.out⟩, ⟨vK aI.out⟩, ⟨bl_⟩⟩
             ·rw [if_neg d4] at H
              exact absurd H (by simp)
            ·rw [if_neg d3] at H
             exact absurd H (by simp)
          ·rw [if_neg cD] at H
           have eB : decide (z < (D.length : Int)) = false := decide_eq_false cD
           clear cD
           by_cases cy : a1 = 109
           ·rw [if_pos cy] at H
            have eG : (a1 == 109) = true := beq_iff_eq.mpr cy
            have eH : (a1 != 109) = false := bne_eq_false_iff_eq.mpr cy
            clear cy
            by_cases dX : R = 0
            ·rw [if_pos dX] at H
             have he : (R == 0) = true := beq_iff_eq.mpr dX
             have hf : (R != 0) = false := bne_eq_false_iff_eq.mpr dX
             clear dX
             obtain rfl := Option.some.inj H
             have hx := M.out
             have hS := P.out
             have hy := O.out
             have hT := X.out
             have hz := ae.out
             have hU := ai.out
             obtain ⟨fJ, fK, fL, fM, fN, fO, gG, gH, gI, gJ, gK, gL⟩ := cells6 a.out
             have hA := Y.out
             have hV := Q.out
             have hB := af.out
             have hW := aj.out
             obtain ⟨fP, fQ, fR, fS, fT, fU, gM, gN, gO, gP, gQ, gR⟩ := cells6 s.out
             go_wp2
             repeat (go_quiet (fail); try go_wp2)
             go_ret
             exact ⟨er_, bl_⟩
            ·rw [if_neg dX] at H
             exact absurd H (by simp)
           ·rw [if_neg cy] at H
            have eG : (a1 == 109) = false := beq_eq_false_iff_ne.mpr cy
            have eH : (a1 != 109) = true := bne_iff_ne.mpr cy
            obtain rfl := Option.some.inj H
            have hC := M.out
            have hX := P.out
            have hD := O.out
            have hY := X.out
            have hE := ae.out
            have hZ := ai.out
            obtain ⟨fV, fW, fX, fY, fZ, ga, gS, gT, gU, gV, gW, gX⟩ := cells6 a.out
            have hF := Y.out
            have h0 := Q.out
            have hH := af.out
            have h1 := aj.out
            obtain ⟨gb, gc, gd, ge, gf, gg, gY, gZ, g0, g1, g2, g3⟩ := cells6 s.out
            go_wp2
            repeat (go_quiet (fail); try go_wp2)
            go_ret
            exact ⟨er_, bl_⟩
      ·replace dV := Bool.eq_false_iff.mpr dV
       subst dV
       have H1 : (none) = some r := by rw [if_neg (show ¬ (false = true) by decide)] at H; exact H
       clear H
       have H := H1
       clear H1
       exact absurd H (by simp)
    ·replace c10 := Bool.eq_false_iff.mpr c10
     subst c10
     have H1 : (none) = some r := by rw [if_neg (show ¬ (false = true) by decide)] at H; exact H
     clear H
     have H := H1
     clear H1
     exact absurd H (by simp)
   ·have H1 : (if aS = true then (none) else ((shutterref10_Same.f k S T u R aa W G I D J K L).bind fun an => (some an))) = some r := by rw [if_neg (show ¬ (some bc).isNone = true by simp)] at H; exact H
    clear H
    have H := H1
    clear H1
    try simp only [errW_none, errW_some]
    by_cases d6 : aS = true
    ·subst d6
     have H1 : (none) = some r := by rw [if_pos rfl] at H; exact H
     clear H
     have H := H1
     clear H1
     exact absurd H (by simp)
    ·replace d6 := Bool.eq_false_iff.mpr d6
     subst d6
     have H1 : ((shutterref10_Same.f k S T u R aa W G I D J K L).bind fun an => (some an)) = some r := by rw [if_neg (show ¬ (false = true) by decide)] at H; exact H
     clear H
     have H := H1
     clear H1
     replace H := Option.bind_eq_some_iff.mp H
     obtain ⟨an, ey, H⟩ := H
     replace H : (some an) = some r := H
     have ex := Z ey
     clear ey
     obtain rfl := Option.some.inj H
     go_enter Tryd.func15, Tryd.ntmps15
     go_wp2_with (first | ((with_reducible refine gate_dst (N := 3) rfl ?_); refine bx_ 3 24 #[.int .i64 G, .int .i64 I, .slice aB D.length aC, .int .i64 J, .bool K, .bool L] ?_; intro A hg eW hbox hb; have a := Z (hbox); have ac := Z (ln_ hg : w.heap.size ≤ A); have aL := Z (ln_ hg : w.heap.size ≤ A); replace HB := Z (below_step bl_ hb); clear hb hbox hg) | ((with_reducible refine gate_dst (N := 5) rfl ?_); refine bx_ 5 58 #[.int .i64 ag, .int .u8 ah] ?_; intro B hg eX hbox hb; have b := Z (hbox); have ad := Z (ln_ hg : w.heap.size ≤ B); have aM := Z (ln_ hg : w.heap.size ≤ B); replace HB := Z (below_step bl_ hb); have M := Z (nl a.out hg); have P := Z (ng a.out hg); replace a := Z (kb a.out hb); clear hb hbox hg) | (go_at_call 41; (with_reducible refine (shutterlaw17_awake.calls k  true _ ?sideG A4.out).mono ?_); (case sideG => exact laidG_below HG.out bl_ rfl); rintro e eY ⟨rfl, hb⟩; replace a := Z (kb a.out hb); replace b := Z (kb b.out hb); replace HB := Z (below_step bl_ hb); (try clear hb); (try clear ap); (try clear hk); (try clear hi); have ee := M.out; have eo := P.out; obtain ⟨cE, cF, cG, cH, cI, cJ, dd, de, df, dg, dh, di⟩ := cells6 a.out) | (go_at_call 18; (with_reducible refine (shutterref10_Few.calls k G I _ _ D J K L true _ ?side1 ?side2 A6.out).mono ?_); (case side1 => repeat (first | exact (Kd.C_below ao.out HB.out) | (with_reducible apply pC))); (case side2 => exact ar.out); rintro e eZ ⟨rfl, hb⟩; replace a := Z (kb a.out hb); replace b := Z (kb b.out hb); replace HB := Z (below_step bl_ hb); (try clear hb); (try clear ap); (try clear hk); (try clear hi); obtain ⟨cK, cL, cM, cN, cO, cP, dj, dk, dl, dm, dn, dp⟩ := cells6 a.out) | (go_at_call 42; (with_reducible refine (keys_Do.calls k G I (fun k_ => k_ < w.heap.size) _ _ D J K L 17 a1 S T u R aa W false (some bc) aN _ ?side1 A8.out).mono ?_); (case side1 => exact Kd.V_mk ar.out (Kd.F_below (Kd.C_F k35_heap ao.out) bl_)); rintro e e0 ⟨bd, aQ, rfl, av, aw, hb⟩; have q := Z (Kd.V_lower (Kd.V_mono (ok' := fun k_ => k_ ≠ A ∧ k_ ≠ B) av (fun k_ hk_ => ⟨Or.elim hk_ (fun hs_ => fun e_ => Nat.not_le.2 hs_ (by rw [e_]; exact ac.out)) (fun hn_ => (fb a.out k_ hn_)), Or.elim hk_ (fun hs_ => fun e_ => Nat.not_le.2 hs_ (by rw [e_]; exact ad.out)) (fun hn_ => (fb b.out k_ hn_))⟩)) (below_size bl_)); have x := Z (Kd.V_lower (Kd.V_mono (ok' := fun k_ => k_ ≠ A ∧ k_ ≠ B) aw (fun k_ hk_ => ⟨Or.elim hk_ (fun hs_ => fun e_ => Nat.not_le.2 hs_ (by rw [e_]; exact ac.out)) (fun hn_ => (fb a.out k_ hn_)), Or.elim hk_ (fun hs_ => fun e_ => Nat.not_le.2 hs_ (by rw [e_]; exact ad.out)) (fun hn_ => (fb b.out k_ hn_))⟩)) (below_size bl_)); replace a := Z (kb a.out hb); replace b := Z (kb b.out hb); replace HB := Z (below_step bl_ hb); (try clear hb); (try clear ap); (try clear hk); (try clear hi); (try clear av); (try clear aw); (try simp only [errW_none, errW_some])) | ((with_reducible refine gate_dst (N := 7) rfl ?_); refine bx_ 7 24 #[.int .i64 0, .int .i64 0, .slice none 0 0, .int .i64 0, .bool false, .bool false] ?_; intro d hg e1 hbox hb; replace q := Z (ve q.out hg hb); replace x := Z (ve x.out hg hb); have s := Z (hbox); have aU := Z (ln_ hg : w.heap.size ≤ d); have aT := Z (ln_ hg : w.heap.size ≤ d); replace HB := Z (below_step bl_ hb); have O := Z (nl a.out hg); have X := Z (ng a.out hg); replace a := Z (kb a.out hb); have Q := Z (nl b.out hg); have Y := Z (ng b.out hg); replace b := Z (kb b.out hb); clear hb hbox hg; have ef := X.out; have ep := O.out; have eg := Y.out; have eq := Q.out; obtain ⟨cQ, cR, cS, cT, cU, cV, dq, dr, ds, dt, du, dv⟩ := cells6 s.out; obtain ⟨aH, aE, cB⟩ := Kd.V_slice q.out; subst cB; obtain ⟨cW, cX, cY, cZ, c0, c4, dw, dx, dy, dz, dA, dB⟩ := cells6 a.out) | (go_at_call 24; (with_reducible refine (shutterref10_Same.calls k S T _ _ u R aa W G I _ _ D J K L an _ ?side1 ?side2 ?side3 ?side4 ex.out).mono ?_); (case side1 => refine (Kd.V_reads' (e := 35) (base := w.heap.size) (ok := fun k_ => ((k_ ≠ A ∧ k_ ≠ B) ∧ k_ ≠ d)) (n := u.length) (c := aE) ?_).2.2; exact (by (with_reducible repeat apply pV); exact (Kd.V_mono (f6V d (Kd.V_mono q.out (fun k_ hk => (⟨hk, hk.2⟩ : _ ∧ k_ ≠ d))) (fun _ hk => hk.2)) (fun _ h_ => h_.1)))); (case side2 => exact (Kd.V_reads' q.out).2.1); (case side3 => exact Kd.C_below ao.out bl_); (case side4 => exact ar.out); rintro e e2 ⟨rfl, hb⟩; replace q := Z (Kd.V_below (by (with_reducible repeat apply pV); exact (Kd.V_mono (f6V d (Kd.V_mono q.out (fun k_ hk => (⟨hk, hk.2⟩ : _ ∧ k_ ≠ d))) (fun _ hk => hk.2)) (fun _ h_ => h_.1))) hb); replace x := Z (Kd.V_below (by (with_reducible repeat apply pV); exact (Kd.V_mono (f6V d (Kd.V_mono x.out (fun k_ hk => (⟨hk, hk.2⟩ : _ ∧ k_ ≠ d))) (fun _ hk => hk.2)) (fun _ h_ => h_.1))) hb); replace a := Z (blk_below (g := A) (o := .cells #[.int .i64 G, .int .i64 I, .slice aB D.length aC, .int .i64 J, .bool K, .bool L] 24 (0, 0)) (by (with_reducible repeat apply pK); exact blk_off a.out O.out off2_) hb); replace b := Z (blk_below (g := B) (o := .cells #[.int .i64 ag, .int .u8 ah] 58 (0, 0)) (by (with_reducible repeat apply pK); exact blk_off b.out Q.out off2_) hb); replace s := Z (blk_below (g := d) (o := .cells #[.int .i64 S, .int .i64 T, .slice aH u.length aE, .int .i64 R, .bool aa, .bool W] 24 (0, 0)) (put6 s.out) hb); replace HB := Z (below_step bl_ hb); (try clear hb); (try clear ap); (try clear hk); (try clear hi)))
     repeat (go_quiet (first | ((with_reducible refine gate_dst (N := 3) rfl ?_); refine bx_ 3 24 #[.int .i64 G, .int .i64 I, .slice aB D.length aC, .int .i64 J, .bool K, .bool L] ?_; intro A hg eW hbox hb; have a := Z (hbox); have ac := Z (ln_ hg : w.heap.size ≤ A); have aL := Z (ln_ hg : w.heap.size ≤ A); replace HB := Z (below_step bl_ hb); clear hb hbox hg) | ((with_reducible refine gate_dst (N := 5) rfl ?_); refine bx_ 5 58 #[.int .i64 ag, .int .u8 ah] ?_; intro B hg eX hbox hb; have b := Z (hbox); have ad := Z (ln_ hg : w.heap.size ≤ B); have aM := Z (ln_ hg : w.heap.size ≤ B); replace HB := Z (below_step bl_ hb); have M := Z (nl a.out hg); have P := Z (ng a.out hg); replace a := Z (kb a.out hb); clear hb hbox hg) | (go_at_call 41; (with_reducible refine (shutterlaw17_awake.calls k  true _ ?sideG A4.out).mono ?_); (case sideG => exact laidG_below HG.out bl_ rfl); rintro e eY ⟨rfl, hb⟩; replace a := Z (kb a.out hb); replace b := Z (kb b.out hb); replace HB := Z (below_step bl_ hb); (try clear hb); (try clear ap); (try clear hk); (try clear hi); have ee := M.out; have eo := P.out; obtain ⟨cE, cF, cG, cH, cI, cJ, dd, de, df, dg, dh, di⟩ := cells6 a.out) | (go_at_call 18; (with_reducible refine (shutterref10_Few.calls k G I _ _ D J K L true _ ?side1 ?side2 A6.out).mono ?_); (case side1 => repeat (first | exact (Kd.C_below ao.out HB.out) | (with_reducible apply pC))); (case side2 => exact ar.out); rintro e eZ ⟨rfl, hb⟩; replace a := Z (kb a.out hb); replace b := Z (kb b.out hb); replace HB := Z (below_step bl_ hb); (try clear hb); (try clear ap); (try clear hk); (try clear hi); obtain ⟨cK, cL, cM, cN, cO, cP, dj, dk, dl, dm, dn, dp⟩ := cells6 a.out) | (go_at_call 42; (with_reducible refine (keys_Do.calls k G I (fun k_ => k_ < w.heap.size) _ _ D J K L 17 a1 S T u R aa W false (some bc) aN _ ?side1 A8.out).mono ?_); (case side1 => exact Kd.V_mk ar.out (Kd.F_below (Kd.C_F k35_heap ao.out) bl_)); rintro e e0 ⟨bd, aQ, rfl, av, aw, hb⟩; have q := Z (Kd.V_lower (Kd.V_mono (ok' := fun k_ => k_ ≠ A ∧ k_ ≠ B) av (fun k_ hk_ => ⟨Or.elim hk_ (fun hs_ => fun e_ => Nat.not_le.2 hs_ (by rw [e_]; exact ac.out)) (fun hn_ => (fb a.out k_ hn_)), Or.elim hk_ (fun hs_ => fun e_ => Nat.not_le.2 hs_ (by rw [e_]; exact ad.out)) (fun hn_ => (fb b.out k_ hn_))⟩)) (below_size bl_)); have x := Z (Kd.V_lower (Kd.V_mono (ok' := fun k_ => k_ ≠ A ∧ k_ ≠ B) aw (fun k_ hk_ => ⟨Or.elim hk_ (fun hs_ => fun e_ => Nat.not_le.2 hs_ (by rw [e_]; exact ac.out)) (fun hn_ => (fb a.out k_ hn_)), Or.elim hk_ (fun hs_ => fun e_ => Nat.not_le.2 hs_ (by rw [e_]; exact ad.out)) (fun hn_ => (fb b.out k_ hn_))⟩)) (below_size bl_)); replace a := Z (kb a.out hb); replace b := Z (kb b.out hb); replace HB := Z (below_step bl_ hb); (try clear hb); (try clear ap); (try clear hk); (try clear hi); (try clear av); (try clear aw); (try simp only [errW_none, errW_some])) | ((with_reducible refine gate_dst (N := 7) rfl ?_); refine bx_ 7 24 #[.int .i64 0, .int .i64 0, .slice none 0 0, .int .i64 0, .bool false, .bool false] ?_; intro d hg e1 hbox hb; replace q := Z (ve q.out hg hb); replace x := Z (ve x.out hg hb); have s := Z (hbox); have aU := Z (ln_ hg : w.heap.size ≤ d); have aT := Z (ln_ hg : w.heap.size ≤ d); replace HB := Z (below_step bl_ hb); have O := Z (nl a.out hg); have X := Z (ng a.out hg); replace a := Z (kb a.out hb); have Q := Z (nl b.out hg); have Y := Z (ng b.out hg); replace b := Z (kb b.out hb); clear hb hbox hg; have ef := X.out; have ep := O.out; have eg := Y.out; have eq := Q.out; obtain ⟨cQ, cR, cS, cT, cU, cV, dq, dr, ds, dt, du, dv⟩ := cells6 s.out; obtain ⟨aH, aE, cB⟩ := Kd.V_slice q.out; subst cB; obtain ⟨cW, cX, cY, cZ, c0, c4, dw, dx, dy, dz, dA, dB⟩ := cells6 a.out) | (go_at_call 24; (with_reducible refine (shutterref10_Same.calls k S T _ _ u R aa W G I _ _ D J K L an _ ?side1 ?side2 ?side3 ?side4 ex.out).mono ?_); (case side1 => refine (Kd.V_reads' (e := 35) (base := w.heap.size) (ok := fun k_ => ((k_ ≠ A ∧ k_ ≠ B) ∧ k_ ≠ d)) (n := u.length) (c := aE) ?_).2.2; exact (by (with_reducible repeat apply pV); exact (Kd.V_mono (f6V d (Kd.V_mono q.out (fun k_ hk => (⟨hk, hk.2⟩ : _ ∧ k_ ≠ d))) (fun _ hk => hk.2)) (fun _ h_ => h_.1)))); (case side2 => exact (Kd.V_reads' q.out).2.1); (case side3 => exact Kd.C_below ao.out bl_); (case side4 => exact ar.out); rintro e e2 ⟨rfl, hb⟩; replace q := Z (Kd.V_below (by (with_reducible repeat apply pV); exact (Kd.V_mono (f6V d (Kd.V_mono q.out (fun k_ hk => (⟨hk, hk.2⟩ : _ ∧ k_ ≠ d))) (fun _ hk => hk.2)) (fun _ h_ => h_.1))) hb); replace x := Z (Kd.V_below (by (with_reducible repeat apply pV); exact (Kd.V_mono (f6V d (Kd.V_mono x.out (fun k_ hk => (⟨hk, hk.2⟩ : _ ∧ k_ ≠ d))) (fun _ hk => hk.2)) (fun _ h_ => h_.1))) hb); replace a := Z (blk_below (g := A) (o := .cells #[.int .i64 G, .int .i64 I, .slice aB D.length aC, .int .i64 J, .bool K, .bool L] 24 (0, 0)) (by (with_reducible repeat apply pK); exact blk_off a.out O.out off2_) hb); replace b := Z (blk_below (g := B) (o := .cells #[.int .i64 ag, .int .u8 ah] 58 (0, 0)) (by (with_reducible repeat apply pK); exact blk_off b.out Q.out off2_) hb); replace s := Z (blk_below (g := d) (o := .cells #[.int .i64 S, .int .i64 T, .slice aH u.length aE, .int .i64 R, .bool aa, .bool W] 24 (0, 0)) (put6 s.out) hb); replace HB := Z (below_step bl_ hb); (try clear hb); (try clear ap); (try clear hk); (try clear hi))); try go_wp2_with (first | ((with_reducible refine gate_dst (N := 3) rfl ?_); refine bx_ 3 24 #[.int .i64 G, .int .i64 I, .slice aB D.length aC, .int .i64 J, .bool K, .bool L] ?_; intro A hg eW hbox hb; have a := Z (hbox); have ac := Z (ln_ hg : w.heap.size ≤ A); have aL := Z (ln_ hg : w.heap.size ≤ A); replace HB := Z (below_step bl_ hb); clear hb hbox hg) | ((with_reducible refine gate_dst (N := 5) rfl ?_); refine bx_ 5 58 #[.int .i64 ag, .int .u8 ah] ?_; intro B hg eX hbox hb; have b := Z (hbox); have ad := Z (ln_ hg : w.heap.size ≤ B); have aM := Z (ln_ hg : w.heap.size ≤ B); replace HB := Z (below_step bl_ hb); have M := Z (nl a.out hg); have P := Z (ng a.out hg); replace a := Z (kb a.out hb); clear hb hbox hg) | (go_at_call 41; (with_reducible refine (shutterlaw17_awake.calls k  true _ ?sideG A4.out).mono ?_); (case sideG => exact laidG_below HG.out bl_ rfl); rintro e eY ⟨rfl, hb⟩; replace a := Z (kb a.out hb); replace b := Z (kb b.out hb); replace HB := Z (below_step bl_ hb); (try clear hb); (try clear ap); (try clear hk); (try clear hi); have ee := M.out; have eo := P.out; obtain ⟨cE, cF, cG, cH, cI, cJ, dd, de, df, dg, dh, di⟩ := cells6 a.out) | (go_at_call 18; (with_reducible refine (shutterref10_Few.calls k G I _ _ D J K L true _ ?side1 ?side2 A6.out).mono ?_); (case side1 => repeat (first | exact (Kd.C_below ao.out HB.out) | (with_reducible apply pC))); (case side2 => exact ar.out); rintro e eZ ⟨rfl, hb⟩; replace a := Z (kb a.out hb); replace b := Z (kb b.out hb); replace HB := Z (below_step bl_ hb); (try clear hb); (try clear ap); (try clear hk); (try clear hi); obtain ⟨cK, cL, cM, cN, cO, cP, dj, dk, dl, dm, dn, dp⟩ := cells6 a.out) | (go_at_call 42; (with_reducible refine (keys_Do.calls k G I (fun k_ => k_ < w.heap.size) _ _ D J K L 17 a1 S T u R aa W false (some bc) aN _ ?side1 A8.out).mono ?_); (case side1 => exact Kd.V_mk ar.out (Kd.F_below (Kd.C_F k35_heap ao.out) bl_)); rintro e e0 ⟨bd, aQ, rfl, av, aw, hb⟩; have q := Z (Kd.V_lower (Kd.V_mono (ok' := fun k_ => k_ ≠ A ∧ k_ ≠ B) av (fun k_ hk_ => ⟨Or.elim hk_ (fun hs_ => fun e_ => Nat.not_le.2 hs_ (by rw [e_]; exact ac.out)) (fun hn_ => (fb a.out k_ hn_)), Or.elim hk_ (fun hs_ => fun e_ => Nat.not_le.2 hs_ (by rw [e_]; exact ad.out)) (fun hn_ => (fb b.out k_ hn_))⟩)) (below_size bl_)); have x := Z (Kd.V_lower (Kd.V_mono (ok' := fun k_ => k_ ≠ A ∧ k_ ≠ B) aw (fun k_ hk_ => ⟨Or.elim hk_ (fun hs_ => fun e_ => Nat.not_le.2 hs_ (by rw [e_]; exact ac.out)) (fun hn_ => (fb a.out k_ hn_)), Or.elim hk_ (fun hs_ => fun e_ => Nat.not_le.2 hs_ (by rw [e_]; exact ad.out)) (fun hn_ => (fb b.out k_ hn_))⟩)) (below_size bl_)); replace a := Z (kb a.out hb); replace b := Z (kb b.out hb); replace HB := Z (below_step bl_ hb); (try clear hb); (try clear ap); (try clear hk); (try clear hi); (try clear av); (try clear aw); (try simp only [errW_none, errW_some])) | ((with_reducible refine gate_dst (N := 7) rfl ?_); refine bx_ 7 24 #[.int .i64 0, .int .i64 0, .slice none 0 0, .int .i64 0, .bool false, .bool false] ?_; intro d hg e1 hbox hb; replace q := Z (ve q.out hg hb); replace x := Z (ve x.out hg hb); have s := Z (hbox); have aU := Z (ln_ hg : w.heap.size ≤ d); have aT := Z (ln_ hg : w.heap.size ≤ d); replace HB := Z (below_step bl_ hb); have O := Z (nl a.out hg); have X := Z (ng a.out hg); replace a := Z (kb a.out hb); have Q := Z (nl b.out hg); have Y := Z (ng b.out hg); replace b := Z (kb b.out hb); clear hb hbox hg; have ef := X.out; have ep := O.out; have eg := Y.out; have eq := Q.out; obtain ⟨cQ, cR, cS, cT, cU, cV, dq, dr, ds, dt, du, dv⟩ := cells6 s.out; obtain ⟨aH, aE, cB⟩ := Kd.V_slice q.out; subst cB; obtain ⟨cW, cX, cY, cZ, c0, c4, dw, dx, dy, dz, dA, dB⟩ := cells6 a.out) | (go_at_call 24; (with_reducible refine (shutterref10_Same.calls k S T _ _ u R aa W G I _ _ D J K L an _ ?side1 ?side2 ?side3 ?side4 ex.out).mono ?_); (case side1 => refine (Kd.V_reads' (e := 35) (base := w.heap.size) (ok := fun k_ => ((k_ ≠ A ∧ k_ ≠ B) ∧ k_ ≠ d)) (n := u.length) (c := aE) ?_).2.2; exact (by (with_reducible repeat apply pV); exact (Kd.V_mono (f6V d (Kd.V_mono q.out (fun k_ hk => (⟨hk, hk.2⟩ : _ ∧ k_ ≠ d))) (fun _ hk => hk.2)) (fun _ h_ => h_.1)))); (case side2 => exact (Kd.V_reads' q.out).2.1); (case side3 => exact Kd.C_below ao.out bl_); (case side4 => exact ar.out); rintro e e2 ⟨rfl, hb⟩; replace q := Z (Kd.V_below (by (with_reducible repeat apply pV); exact (Kd.V_mono (f6V d (Kd.V_mono q.out (fun k_ hk => (⟨hk, hk.2⟩ : _ ∧ k_ ≠ d))) (fun _ hk => hk.2)) (fun _ h_ => h_.1))) hb); replace x := Z (Kd.V_below (by (with_reducible repeat apply pV); exact (Kd.V_mono (f6V d (Kd.V_mono x.out (fun k_ hk => (⟨hk, hk.2⟩ : _ ∧ k_ ≠ d))) (fun _ hk => hk.2)) (fun _ h_ => h_.1))) hb); replace a := Z (blk_below (g := A) (o := .cells #[.int .i64 G, .int .i64 I, .slice aB D.length aC, .int .i64 J, .bool K, .bool L] 24 (0, 0)) (by (with_reducible repeat apply pK); exact blk_off a.out O.out off2_) hb); replace b := Z (blk_below (g := B) (o := .cells #[.int .i64 ag, .int .u8 ah] 58 (0, 0)) (by (with_reducible repeat apply pK); exact blk_off b.out Q.out off2_) hb); replace s := Z (blk_below (g := d) (o := .cells #[.int .i64 S, .int .i64 T, .slice aH u.length aE, .int .i64 R, .bool aa, .bool W] 24 (0, 0)) (put6 s.out) hb); replace HB := Z (below_step bl_ hb); (try clear hb); (try clear ap); (try clear hk); (try clear hi))))
     go_ret
     exact ⟨er_, bl_⟩
  ·replace c7 := Bool.eq_false_iff.mpr c7
   subst c7
   have H1 : ((shutterlaw17_awake.f k).bind fun az => (some az)) = some r := by rw [if_neg (show ¬ (false = true) by decide)] at H; exact H
   clear H
   have H := H1
   clear H1
   replace H := Option.bind_eq_some_iff.mp H
   obtain ⟨az, ez, H⟩ := H
   replace H : (some az) = some r := H
   have dY := Z ez
   clear ez
   obtain rfl := Option.some.inj H
   go_enter Tryd.func15, Tryd.ntmps15
   go_wp2_with (first | ((with_reducible refine gate_dst (N := 3) rfl ?_); refine bx_ 3 24 #[.int .i64 G, .int .i64 I, .slice aB D.length aC, .int .i64 J, .bool K, .bool L] ?_; intro A hg e3 hbox hb; have a := Z (hbox); have ac := Z (ln_ hg : w.heap.size ≤ A); have aL := Z (ln_ hg : w.heap.size ≤ A); replace HB := Z (below_step bl_ hb); clear hb hbox hg) | ((with_reducible refine gate_dst (N := 5) rfl ?_); refine bx_ 5 58 #[.int .i64 ag, .int .u8 ah] ?_; intro B hg e4 hbox hb; have b := Z (hbox); have ad := Z (ln_ hg : w.heap.size ≤ B); have aM := Z (ln_ hg : w.heap.size ≤ B); replace HB := Z (below_step bl_ hb); have M := Z (nl a.out hg); have P := Z (ng a.out hg); replace a := Z (kb a.out hb); clear hb hbox hg) | (go_at_call 41; (with_reducible refine (shutterlaw17_awake.calls k  true _ ?sideG A4.out).mono ?_); (case sideG => exact laidG_below HG.out bl_ rfl); rintro e e5 ⟨rfl, hb⟩; replace a := Z (kb a.out hb); replace b := Z (kb b.out hb); replace HB := Z (below_step bl_ hb); (try clear hb); (try clear ap); (try clear hk); (try clear hi); have eh := M.out; have er := P.out; obtain ⟨c6, c8, c9, da, db, dc, dC, dD, dE, dF, dG, dH⟩ := cells6 a.out) | (go_at_call 18; (with_reducible refine (shutterref10_Few.calls k G I _ _ D J K L false _ ?side1 ?side2 A6.out).mono ?_); (case side1 => repeat (first | exact (Kd.C_below ao.out HB.out) | (with_reducible apply pC))); (case side2 => exact ar.out); rintro e e6 ⟨rfl, hb⟩; replace a := Z (kb a.out hb); replace b := Z (kb b.out hb); replace HB := Z (below_step bl_ hb); (try clear hb); (try clear ap); (try clear hk); (try clear hi)) | (go_at_call 41; (with_reducible refine (shutterlaw17_awake.calls k  az _ ?sideG dY.out).mono ?_); (case sideG => exact laidG_below HG.out bl_ rfl); rintro e eA ⟨rfl, hb⟩; replace a := Z (kb a.out hb); replace b := Z (kb b.out hb); replace HB := Z (below_step bl_ hb); (try clear hb); (try clear ap); (try clear hk); (try clear hi)))
   repeat (go_quiet (first | ((with_reducible refine gate_dst (N := 3) rfl ?_); refine bx_ 3 24 #[.int .i64 G, .int .i64 I, .slice aB D.length aC, .int .i64 J, .bool K, .bool L] ?_; intro A hg e3 hbox hb; have a := Z (hbox); have ac := Z (ln_ hg : w.heap.size ≤ A); have aL := Z (ln_ hg : w.heap.size ≤ A); replace HB := Z (below_step bl_ hb); clear hb hbox hg) | ((with_reducible refine gate_dst (N := 5) rfl ?_); refine bx_ 5 58 #[.int .i64 ag, .int .u8 ah] ?_; intro B hg e4 hbox hb; have b := Z (hbox); have ad := Z (ln_ hg : w.heap.size ≤ B); have aM := Z (ln_ hg : w.heap.size ≤ B); replace HB := Z (below_step bl_ hb); have M := Z (nl a.out hg); have P := Z (ng a.out hg); replace a := Z (kb a.out hb); clear hb hbox hg) | (go_at_call 41; (with_reducible refine (shutterlaw17_awake.calls k  true _ ?sideG A4.out).mono ?_); (case sideG => exact laidG_below HG.out bl_ rfl); rintro e e5 ⟨rfl, hb⟩; replace a := Z (kb a.out hb); replace b := Z (kb b.out hb); replace HB := Z (below_step bl_ hb); (try clear hb); (try clear ap); (try clear hk); (try clear hi); have eh := M.out; have er := P.out; obtain ⟨c6, c8, c9, da, db, dc, dC, dD, dE, dF, dG, dH⟩ := cells6 a.out) | (go_at_call 18; (with_reducible refine (shutterref10_Few.calls k G I _ _ D J K L false _ ?side1 ?side2 A6.out).mono ?_); (case side1 => repeat (first | exact (Kd.C_below ao.out HB.out) | (with_reducible apply pC))); (case side2 => exact ar.out); rintro e e6 ⟨rfl, hb⟩; replace a := Z (kb a.out hb); replace b := Z (kb b.out hb); replace HB := Z (below_step bl_ hb); (try clear hb); (try clear ap); (try clear hk); (try clear hi)) | (go_at_call 41; (with_reducible refine (shutterlaw17_awake.calls k  az _ ?sideG dY.out).mono ?_); (case sideG => exact laidG_below HG.out bl_ rfl); rintro e eA ⟨rfl, hb⟩; replace a := Z (kb a.out hb); replace b := Z (kb b.out hb); replace HB := Z (below_step bl_ hb); (try clear hb); (try clear ap); (try clear hk); (try clear hi))); try go_wp2_with (first | ((with_reducible refine gate_dst (N := 3) rfl ?_); refine bx_ 3 24 #[.int .i64 G, .int .i64 I, .slice aB D.length aC, .int .i64 J, .bool K, .bool L] ?_; intro A hg e3 hbox hb; have a := Z (hbox); have ac := Z (ln_ hg : w.heap.size ≤ A); have aL := Z (ln_ hg : w.heap.size ≤ A); replace HB := Z (below_step bl_ hb); clear hb hbox hg) | ((with_reducible refine gate_dst (N := 5) rfl ?_); refine bx_ 5 58 #[.int .i64 ag, .int .u8 ah] ?_; intro B hg e4 hbox hb; have b := Z (hbox); have ad := Z (ln_ hg : w.heap.size ≤ B); have aM := Z (ln_ hg : w.heap.size ≤ B); replace HB := Z (below_step bl_ hb); have M := Z (nl a.out hg); have P := Z (ng a.out hg); replace a := Z (kb a.out hb); clear hb hbox hg) | (go_at_call 41; (with_reducible refine (shutterlaw17_awake.calls k  true _ ?sideG A4.out).mono ?_); (case sideG => exact laidG_below HG.out bl_ rfl); rintro e e5 ⟨rfl, hb⟩; replace a := Z (kb a.out hb); replace b := Z (kb b.out hb); replace HB := Z (below_step bl_ hb); (try clear hb); (try clear ap); (try clear hk); (try clear hi); have eh := M.out; have er := P.out; obtain ⟨c6, c8, c9, da, db, dc, dC, dD, dE, dF, dG, dH⟩ := cells6 a.out) | (go_at_call 18; (with_reducible refine (shutterref10_Few.calls k G I _ _ D J K L false _ ?side1 ?side2 A6.out).mono ?_); (case side1 => repeat (first | exact (Kd.C_below ao.out HB.out) | (with_reducible apply pC))); (case side2 => exact ar.out); rintro e e6 ⟨rfl, hb⟩; replace a := Z (kb a.out hb); replace b := Z (kb b.out hb); replace HB := Z (below_step bl_ hb); (try clear hb); (try clear ap); (try clear hk); (try clear hi)) | (go_at_call 41; (with_reducible refine (shutterlaw17_awake.calls k  az _ ?sideG dY.out).mono ?_); (case sideG => exact laidG_below HG.out bl_ rfl); rintro e eA ⟨rfl, hb⟩; replace a := Z (kb a.out hb); replace b := Z (kb b.out hb); replace HB := Z (below_step bl_ hb); (try clear hb); (try clear ap); (try clear hk); (try clear hi))))
   go_ret
   have e_ : az = true := Option.some.inj (dY.out.symm.trans A4.out)
   exact ⟨er_, bl_⟩
 ·replace c5 := Bool.eq_false_iff.mpr c5
  subst c5
  have H1 : (none) = some r := by rw [if_neg (show ¬ (false = true) by decide)] at H; exact H
  clear H
  have H := H1
  clear H1
  exact absurd H (by simp)

-- NOT PRINTED: function 16 (shutterlaw17_KeysKeeps)

end Go.Proofs.YtggecanpjkpkiaaDoor.P
