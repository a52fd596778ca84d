/- Printed walks of the law's functions, joined by joinpx.py: each function as a plain Lean function, and that Go's code comes to its answer. -/
import Derived.Test.YtggecanpjkpkiaaDoorJKeysKeeps1
import Derived.Test.YtggecanpjkpkiaaDoorJKeysKeeps5
import Derived.Test.YtggecanpjkpkiaaDoorJKeysKeeps3
import Derived.Test.YtggecanpjkpkiaaDoorJKeysKeeps4
namespace Go.Proofs.YtggecanpjkpkiaaDoor.P
open Go.RowKit Go.Proofs.YtggecanpjkpkiaaDoorW.PrintWords Go.Proofs.YtggecanpjkpkiaaDoorW.PrintLast Go.Proofs.YtggecanpjkpkiaaDoorW.PrintMore
attribute [local go_sem] max2_int min2_int max_two min_two max_three min_three max_four min_four
attribute [local go_sem] Instr.field asAgg
set_option linter.unusedVariables false
set_option linter.unusedSimpArgs false
set_option maxHeartbeats 8000000
set_option maxRecDepth 100000
mutual
def edit_Type.j0 : Nat → Int → Bool → Int → Int → List (S35) → Int → Bool → Bool → Option (Int × Int × (List (S35)) × Int × Bool × Bool × Option Er × (List (S164)))
 | 0, _, _, _, _, _, _, _, _ => none
 | k + 1, n, o, e, g, h, b, c, d => if o = true then (some (e, g, h, b, c, d, some (Er.num 3), ([] : List (S164)))) else (if c = true then (some (e, g, h, b, c, d, some (Er.num 7), ([] : List (S164)))) else ((edit_fits.f k e g h b c d n).bind fun j => (if j.1.isNone = true then ((edit_Modify.f e g h b c d b).bind fun a => (if d = true then ((edit_Line.f k e g h b c d b).bind fun m => ((edit_pushed.f k a.1 a.2.1 a.2.2.1 a.2.2.2.1 a.2.2.2.2.1 a.2.2.2.2.2 m).bind fun l => (edit_Type.j1 k n (!l.1) e g h b c d a.1 a.2.1 l.2 a.2.2.2.1 a.2.2.2.2.1 a.2.2.2.2.2))) else (edit_Type.j1 k n false e g h b c d a.1 a.2.1 a.2.2.1 a.2.2.2.1 a.2.2.2.2.1 a.2.2.2.2.2))) else ((edit_Deny.f e g h b c d (some (j.1.getD ez)) j.2).bind fun i => (some (i.1, i.2.1, i.2.2.1, i.2.2.2.1, i.2.2.2.2.1, i.2.2.2.2.2.1, i.2.2.2.2.2.2.1, i.2.2.2.2.2.2.2))))))
def edit_Type.j1 : Nat → Int → Bool → Int → Int → List (S35) → Int → Bool → Bool → Int → Int → List (S35) → Int → Bool → Bool → Option (Int × Int × (List (S35)) × Int × Bool × Bool × Option Er × (List (S164)))
 | 0, _, _, _, _, _, _, _, _, _, _, _, _, _, _ => none
 | k + 1, s, r, i, j, l, b, m, n, c, d, e, o, g, h => if r = true then ((edit_Deny.f i j l b m n (some (Er.num 10)) ([] : List (S164))).bind fun a => (some (a.1, a.2.1, a.2.2.1, a.2.2.2.1, a.2.2.2.2.1, a.2.2.2.2.2.1, a.2.2.2.2.2.2.1, a.2.2.2.2.2.2.2))) else (if 0 ≤ b then (if b < (e.length : Int) then ((some (e.set (b : Int).toNat (⟨false, (⟨false, false, 0, false⟩ : S33), s⟩ : S35) : List (S35))).bind fun p => ((edit_onward.f k c d p o g h).bind fun q => (some (c, d, p, q, g, h, none, ([] : List (S164)))))) else (none)) else (none))
end
def edit_Type.f (k : Nat) (a : Int) (b : Int) (g : List (S35)) (c : Int) (d : Bool) (e : Bool) (a1 : Int) : Option (Int × Int × (List (S35)) × Int × Bool × Bool × Option Er × (List (S164))) := if a1 = 0 then (edit_Type.j0 k a1 true a b g c d e) else ((attr_Char.f a1).bind fun h => (edit_Type.j0 k a1 (!h) a b g c d e))
theorem edit_Type.mono_l : ∀ k, (∀ a b c d e f g i, LeO (edit_Type.j0 k a b c d e f g i) (edit_Type.j0 (k + 1) a b c d e f g i)) ∧ (∀ a b c d e f g i q s m n o p, LeO (edit_Type.j1 k a b c d e f g i q s m n o p) (edit_Type.j1 (k + 1) a b c d e f g i q s m n o p))
 | 0 => ⟨fun _ _ _ _ _ _ _ _ r h => by simp [edit_Type.j0] at h, fun _ _ _ _ _ _ _ _ _ _ _ _ _ _ r h => by simp [edit_Type.j1] at h⟩
 | k + 1 => by
  obtain ⟨j, l⟩ := edit_Type.mono_l k
  refine ⟨?_, ?_⟩
  ·intro a b c d e f g i
   unfold edit_Type.j0
   repeat' first
   | (with_reducible exact j _ _ _ _ _ _ _ _)
   | (with_reducible exact l _ _ _ _ _ _ _ _ _ _ _ _ _ _)
   | (with_reducible exact edit_Line.mono _ _ _ _ _ _ _ _)
   | (with_reducible exact edit_fits.mono _ _ _ _ _ _ _ _)
   | (with_reducible exact edit_onward.mono _ _ _ _ _ _ _)
   | (with_reducible exact edit_pushed.mono _ _ _ _ _ _ _ _)
   | (with_reducible exact LeO.refl _)
   | (with_reducible exact LeO.none _)
   | (with_reducible refine LeO.ite ?_ ?_)
   | (with_reducible refine LeO.bind ?_ (fun _ => ?_))
   | exact j _ _ _ _ _ _ _ _
   | exact l _ _ _ _ _ _ _ _ _ _ _ _ _ _
   | exact edit_Line.mono _ _ _ _ _ _ _ _
   | exact edit_fits.mono _ _ _ _ _ _ _ _
   | exact edit_onward.mono _ _ _ _ _ _ _
   | exact edit_pushed.mono _ _ _ _ _ _ _ _
   | exact LeO.none _
   | refine LeO.ite ?_ ?_
   | refine LeO.bind ?_ (fun _ => ?_)
  ·intro a b c d e f g i q s m n o p
   unfold edit_Type.j1
   repeat' first
   | (with_reducible exact j _ _ _ _ _ _ _ _)
   | (with_reducible exact l _ _ _ _ _ _ _ _ _ _ _ _ _ _)
   | (with_reducible exact edit_Line.mono _ _ _ _ _ _ _ _)
   | (with_reducible exact edit_fits.mono _ _ _ _ _ _ _ _)
   | (with_reducible exact edit_onward.mono _ _ _ _ _ _ _)
   | (with_reducible exact edit_pushed.mono _ _ _ _ _ _ _ _)
   | (with_reducible exact LeO.refl _)
   | (with_reducible exact LeO.none _)
   | (with_reducible refine LeO.ite ?_ ?_)
   | (with_reducible refine LeO.bind ?_ (fun _ => ?_))
   | exact j _ _ _ _ _ _ _ _
   | exact l _ _ _ _ _ _ _ _ _ _ _ _ _ _
   | exact edit_Line.mono _ _ _ _ _ _ _ _
   | exact edit_fits.mono _ _ _ _ _ _ _ _
   | exact edit_onward.mono _ _ _ _ _ _ _
   | exact edit_pushed.mono _ _ _ _ _ _ _ _
   | exact LeO.none _
   | refine LeO.ite ?_ ?_
   | refine LeO.bind ?_ (fun _ => ?_)
theorem edit_Type.mono : ∀ a0 a1 c d a4 e g k, LeO (edit_Type.f k a0 a1 c d a4 e g) (edit_Type.f (k + 1) a0 a1 c d a4 e g) := by
 intro a0 a1 c d a4 e g k
 obtain ⟨a, b⟩ := edit_Type.mono_l k
 unfold edit_Type.f
 repeat' first
   | (with_reducible exact a _ _ _ _ _ _ _ _)
   | (with_reducible exact b _ _ _ _ _ _ _ _ _ _ _ _ _ _)
   | (with_reducible exact edit_Line.mono _ _ _ _ _ _ _ _)
   | (with_reducible exact edit_fits.mono _ _ _ _ _ _ _ _)
   | (with_reducible exact edit_onward.mono _ _ _ _ _ _ _)
   | (with_reducible exact edit_pushed.mono _ _ _ _ _ _ _ _)
   | (with_reducible exact LeO.refl _)
   | (with_reducible exact LeO.none _)
   | (with_reducible refine LeO.ite ?_ ?_)
   | (with_reducible refine LeO.bind ?_ (fun _ => ?_))
   | exact a _ _ _ _ _ _ _ _
   | exact b _ _ _ _ _ _ _ _ _ _ _ _ _ _
   | exact edit_Line.mono _ _ _ _ _ _ _ _
   | exact edit_fits.mono _ _ _ _ _ _ _ _
   | exact edit_onward.mono _ _ _ _ _ _ _
   | exact edit_pushed.mono _ _ _ _ _ _ _ _
   | exact LeO.none _
   | refine LeO.ite ?_ ?_
   | refine LeO.bind ?_ (fun _ => ?_)
def edit_Type.T9 : Bool × List (List Nat × List Nat) := (true, [([], []), ([0], [0]), ([1], [1]), ([2], [2]), ([2], [2]), ([2], [2]), ([5, 2], [2, 5]), ([4, 6, 2, 2], [2, 4, 6]), ([3, 7, 7, 2], [2, 3, 7]), ([8, 2], [2, 8]), ([2, 9], [2, 9])])
def edit_Type.B9 : List Nat := [0, 1, 3, 7, 7, 7, 39, 119, 255, 511, 1023]
theorem edit_Type.tab9 : rtab .any (opsOf Tryd.f31 9) = edit_Type.T9 := by kernel_rfl
theorem edit_Type.bits9 : waitsOk edit_Type.T9.2 edit_Type.B9 = true := by kernel_rfl
theorem edit_Type.calls (k : Nat) (u : Int) (x : Int) (af : Nat → Prop) (aa : Option Addr) (ab : Nat) (r : List (S35)) (b : Int) (ag : Bool) (y : Bool) (a1 : Int) (r1 : Int) (r2 : Int) (r3 : List (S35)) (r4 : Int) (r5 : Bool) (r6 : Bool) (r7 : Option Er) (r8 : List (S164)) (w : World) (dP : Kd.V k35 35 w w.heap.size (fun k_ => af k_) (.slice aa r.length ab) r) (h : edit_Type.f k u x r b ag y a1 = some (r1, r2, r3, r4, r5, r6, r7, r8)) :
  Calls Tryd.prog 31 #[.agg #[.int .i64 u, .int .i64 x, .slice aa r.length ab, .int .i64 b, .bool ag, .bool y], .int .u8 a1] w fun e w' => ∃ d4 d5 : Value, e = .returned (.tuple #[.agg #[.int .i64 r1, .int .i64 r2, d4, .int .i64 r4, .bool r5, .bool r6], errW d5 r7]) ∧ Kd.V k35 35 w' w.heap.size (fun k_ => (af k_ ∨ w.heap.size ≤ k_)) d4 r3 ∧ Kd.V k164 164 w' w.heap.size (fun k_ => (af k_ ∨ w.heap.size ≤ k_)) d5 r8 ∧ Below w.heap.size w w' := by
 have hx := Tryd.underlying24
 have hz := Tryd.underlying35
 have hy := Tryd.underlying28
 have hA := Tryd.underlying52
 have aB := Z (show Kd.V k35 35 w w.heap.size (fun k_ => (af k_ ∨ w.heap.size ≤ k_)) (.slice aa r.length ab) r from Kd.V_mono dP (fun k_ hk => .inl hk))
 have HB := Z (Below.refl w.heap.size w)
 have H : (if a1 = 0 then (edit_Type.j0 k a1 true u x r b ag y) else ((attr_Char.f a1).bind fun aS => (edit_Type.j0 k a1 (!aS) u x r b ag y))) = some (r1, r2, r3, r4, r5, r6, r7, r8) := h
 clear h
 have da := Z H
 clear H
 go_enter Tryd.func31, Tryd.ntmps31
 go_upto_region 1 with (first | ((with_reducible refine gate_dst (N := 2) rfl ?_); refine bx_ 2 24 #[.int .i64 u, .int .i64 x, .slice aa r.length ab, .int .i64 b, .bool ag, .bool y] ?_; intro E hg w4 hbox hb; replace aB := Z (ve aB.out hg hb); have c := Z (hbox); have gP := Z (ln_ hg : w.heap.size ≤ E); have dI := gP; replace HB := bs_ hb; clear hb hbox hg) | ((with_reducible refine gate_dst (N := 4) rfl ?_); refine bx_ 4 24 #[.int .i64 0, .int .i64 0, .slice none 0 0, .int .i64 0, .bool false, .bool false] ?_; intro d hg w5 hbox hb; replace aB := Z (ve aB.out hg hb); have l := Z (hbox); have gQ := Z (ln_ hg : w.heap.size ≤ d); have dJ := gQ; replace HB := bs_ hb; have ak := nl' c hg; have al := ng' c hg; replace c := kb' c hb; clear hb hbox hg))
 (try simp only [Act.put, sA, sB, sC])
 go_cut [8] (fun v8 wc => ∃ (kq : Nat) (a7 : Bool), v8 = .bool a7 ∧ Aside0 (edit_Type.j0 kq a1 a7 u x r b ag y = some (r1, r2, r3, r4, r5, r6, r7, r8)) ∧ Aside0 (kq ≤ k) ∧ Aside0 (Kd.V k35 35 wc w.heap.size (fun k_ => (af k_ ∨ w.heap.size ≤ k_) ∧ k_ ≠ E ∧ k_ ≠ d) (.slice aa r.length ab) r) ∧ Aside0 (wc.heap[E]? = some (.cells #[.int .i64 u, .int .i64 x, (.slice aa r.length ab), .int .i64 b, .bool ag, .bool y] 24 (0, 0))) ∧ Aside0 (wc.heap[d]? = some (.cells #[.int .i64 0, .int .i64 0, (.slice none 0 0), .int .i64 0, .bool false, .bool false] 24 (0, 0))) ∧ Aside0 (Below w.heap.size w wc))
 case first =>
  have H := da.out
  clear da
  by_cases c6 : a1 = 0
  ·rw [if_pos c6] at H
   obtain ⟨aN, bg⟩ := eT_ c6
   clear c6
   (first | rw [aN] | (simp only [i64_w, i32_w]; rw [aN]) | skip)
   have H' := Z H
   clear H
   go_wp2
   go_meet
   case rel => exact ⟨_, (true), (dn_), H', ⟨by first | omega | exact Nat.le_refl _⟩, ⟨by (with_reducible repeat apply pV); exact Kd.V_mono aB.out (fun _ hk => ⟨hk.1.1, ⟨hk.1.2, hk.2⟩⟩)⟩, ⟨vK c.out⟩, ⟨vK l.out⟩, ⟨bl_⟩⟩
  ·rw [if_neg c6] at H
   obtain ⟨aN, bg⟩ := eF_ c6
   (first | rw [aN] | (simp only [i64_w, i32_w]; rw [aN]) | skip)
   replace H := Option.bind_eq_some_iff.mp H
   obtain ⟨aS, dX, H⟩ := H
   replace H : (edit_Type.j0 k a1 (!aS) u x r b ag y) = some (r1, r2, r3, r4, r5, r6, r7, r8) := H
   have A7 := Z dX
   clear dX
   have H' := Z H
   clear H
   go_wp2_with (first | (go_at_call 53; (with_reducible refine (attr_Char.calls a1 aS _ A7.out).mono ?_); rintro e w' ⟨rfl, ⟨nd, rfl⟩⟩))
   go_meet
   case rel => exact ⟨_, (!aS), (dn_), H', ⟨by first | omega | exact Nat.le_refl _⟩, ⟨by (with_reducible repeat apply pV); exact Kd.V_mono aB.out (fun _ hk => ⟨hk.1.1, ⟨hk.1.2, hk.2⟩⟩)⟩, ⟨vK c.out⟩, ⟨vK l.out⟩, ⟨bl_⟩⟩
 case rest =>
  clear da
  obtain ⟨kq, a7, rfl, HA, dY, HO_173002, c, l, HB⟩ := hcut
  cases kq with
  | zero => exact absurd HA.out (by simp [edit_Type.j0])
  | succ ad =>
   have H := HA.out
   clear HA
   simp only [edit_Type.j0] at H
   by_cases c8 : a7 = true
   ·subst c8
    have H1 : (some (u, x, r, b, ag, y, some (Er.num 3), ([] : List (S164)))) = some (r1, r2, r3, r4, r5, r6, r7, r8) := by rw [if_pos rfl] at H; exact H
    clear H
    have H := H1
    clear H1
    simp only [Option.some.injEq, Prod.mk.injEq] at H
    obtain ⟨rfl, rfl, rfl, rfl, rfl, rfl, rfl, rfl⟩ := H
    have hu := ak.out
    have hv := al.out
    obtain ⟨bw, bx, bz, bA, bB, bC, cd, ce, cf, cg, ch, ci⟩ := cells6 c.out
    obtain ⟨bD, bE, bF, bG, bH, bI, cj, ck, cl, cm, cn, co⟩ := cells6 l.out
    go_wp2
    refine bodyPost_ret (results_ct rfl _ _ d 24 #[.int .i64 u, .int .i64 x, .slice aa r.length ab, .int .i64 b, .bool ag, .bool y] (0, 0) _ rfl (put6 l.out) Tryd.underlying24 rfl (by kernel_rfl)) rfl ?_
    exact ⟨_, _, er_, by (with_reducible repeat apply pV); exact Kd.V_mono (f6V d (Kd.V_mono HO_173002.out (fun k_ hk => (⟨hk, hk.2.2⟩ : _ ∧ k_ ≠ d))) (fun _ hk => hk.2)) (fun _ hk => hk.1.1), Kd.R_V (Kd.R_nil _ _ _ 0 _), bl_⟩
   ·replace c8 := Bool.eq_false_iff.mpr c8
    subst c8
    have H1 : (if ag = true then (some (u, x, r, b, ag, y, some (Er.num 7), ([] : List (S164)))) else ((edit_fits.f ad u x r b ag y a1).bind fun aF => (if aF.1.isNone = true then ((edit_Modify.f u x r b ag y b).bind fun m => (if y = true then ((edit_Line.f ad u x r b ag y b).bind fun aj => ((edit_pushed.f ad m.1 m.2.1 m.2.2.1 m.2.2.2.1 m.2.2.2.2.1 m.2.2.2.2.2 aj).bind fun ac => (edit_Type.j1 ad a1 (!ac.1) u x r b ag y m.1 m.2.1 ac.2 m.2.2.2.1 m.2.2.2.2.1 m.2.2.2.2.2))) else (edit_Type.j1 ad a1 false u x r b ag y m.1 m.2.1 m.2.2.1 m.2.2.2.1 m.2.2.2.2.1 m.2.2.2.2.2))) else ((edit_Deny.f u x r b ag y (some (aF.1.getD ez)) aF.2).bind fun G => (some (G.1, G.2.1, G.2.2.1, G.2.2.2.1, G.2.2.2.2.1, G.2.2.2.2.2.1, G.2.2.2.2.2.2.1, G.2.2.2.2.2.2.2)))))) = some (r1, r2, r3, r4, r5, r6, r7, r8) := by rw [if_neg (show ¬ (false = true) by decide)] at H; exact H
    clear H
    have H := H1
    clear H1
    by_cases a8 : ag = true
    ·subst a8
     have H1 : (some (u, x, r, b, true, y, some (Er.num 7), ([] : List (S164)))) = some (r1, r2, r3, r4, r5, r6, r7, r8) := by rw [if_pos rfl] at H; exact H
     clear H
     have H := H1
     clear H1
     simp only [Option.some.injEq, Prod.mk.injEq] at H
     obtain ⟨rfl, rfl, rfl, rfl, rfl, rfl, rfl, rfl⟩ := H
     have gU := ak.out
     have g5 := al.out
     obtain ⟨bJ, bK, bL, bM, bN, bO, cp, cq, cr, ct, cu, cv⟩ := cells6 c.out
     obtain ⟨bP, bQ, bR, bS, bT, bU, cw, cx, cy, cz, cA, cB⟩ := cells6 l.out
     go_wp2
     refine bodyPost_ret (results_ct rfl _ _ d 24 #[.int .i64 u, .int .i64 x, .slice aa r.length ab, .int .i64 b, .bool true, .bool y] (0, 0) _ rfl (put6 l.out) Tryd.underlying24 rfl (by kernel_rfl)) rfl ?_
     exact ⟨_, _, er_, by (with_reducible repeat apply pV); exact Kd.V_mono (f6V d (Kd.V_mono HO_173002.out (fun k_ hk => (⟨hk, hk.2.2⟩ : _ ∧ k_ ≠ d))) (fun _ hk => hk.2)) (fun _ hk => hk.1.1), Kd.R_V (Kd.R_nil _ _ _ 0 _), bl_⟩
    ·replace a8 := Bool.eq_false_iff.mpr a8
     subst a8
     have H1 : ((edit_fits.f ad u x r b false y a1).bind fun aF => (if aF.1.isNone = true then ((edit_Modify.f u x r b false y b).bind fun m => (if y = true then ((edit_Line.f ad u x r b false y b).bind fun aj => ((edit_pushed.f ad m.1 m.2.1 m.2.2.1 m.2.2.2.1 m.2.2.2.2.1 m.2.2.2.2.2 aj).bind fun ac => (edit_Type.j1 ad a1 (!ac.1) u x r b false y m.1 m.2.1 ac.2 m.2.2.2.1 m.2.2.2.2.1 m.2.2.2.2.2))) else (edit_Type.j1 ad a1 false u x r b false y m.1 m.2.1 m.2.2.1 m.2.2.2.1 m.2.2.2.2.1 m.2.2.2.2.2))) else ((edit_Deny.f u x r b false y (some (aF.1.getD ez)) aF.2).bind fun G => (some (G.1, G.2.1, G.2.2.1, G.2.2.2.1, G.2.2.2.2.1, G.2.2.2.2.2.1, G.2.2.2.2.2.2.1, G.2.2.2.2.2.2.2))))) = some (r1, r2, r3, r4, r5, r6, r7, r8) := by rw [if_neg (show ¬ (false = true) by decide)] at H; exact H
     clear H
     have H := H1
     clear H1
     replace H := Option.bind_eq_some_iff.mp H
     obtain ⟨⟨bl, aL⟩, cU, H⟩ := H
     replace H : (if bl.isNone = true then ((edit_Modify.f u x r b false y b).bind fun m => (if y = true then ((edit_Line.f ad u x r b false y b).bind fun aj => ((edit_pushed.f ad m.1 m.2.1 m.2.2.1 m.2.2.2.1 m.2.2.2.2.1 m.2.2.2.2.2 aj).bind fun ac => (edit_Type.j1 ad a1 (!ac.1) u x r b false y m.1 m.2.1 ac.2 m.2.2.2.1 m.2.2.2.2.1 m.2.2.2.2.2))) else (edit_Type.j1 ad a1 false u x r b false y m.1 m.2.1 m.2.2.1 m.2.2.2.1 m.2.2.2.2.1 m.2.2.2.2.2))) else ((edit_Deny.f u x r b false y (some (bl.getD ez)) aL).bind fun G => (some (G.1, G.2.1, G.2.2.1, G.2.2.2.1, G.2.2.2.2.1, G.2.2.2.2.2.1, G.2.2.2.2.2.2.1, G.2.2.2.2.2.2.2)))) = some (r1, r2, r3, r4, r5, r6, r7, r8) := H
     have dW := Z cU
     clear cU
     rcases bl with _ | aR
     ·have H1 : ((edit_Modify.f u x r b false y b).bind fun m => (if y = true then ((edit_Line.f ad u x r b false y b).bind fun aj => ((edit_pushed.f ad m.1 m.2.1 m.2.2.1 m.2.2.2.1 m.2.2.2.2.1 m.2.2.2.2.2 aj).bind fun ac => (edit_Type.j1 ad a1 (!ac.1) u x r b false y m.1 m.2.1 ac.2 m.2.2.2.1 m.2.2.2.2.1 m.2.2.2.2.2))) else (edit_Type.j1 ad a1 false u x r b false y m.1 m.2.1 m.2.2.1 m.2.2.2.1 m.2.2.2.2.1 m.2.2.2.2.2))) = some (r1, r2, r3, r4, r5, r6, r7, r8) := by rw [if_pos (show (none : Option Er).isNone = true by rfl)] at H; exact H
      clear H
      have H := H1
      clear H1
      try simp only [errW_none, errW_some]
      replace H := Option.bind_eq_some_iff.mp H
      obtain ⟨⟨z, A, D, F, B, C⟩, cV, H⟩ := H
      replace H : (if y = true then ((edit_Line.f ad u x r b false y b).bind fun aj => ((edit_pushed.f ad z A D F B C aj).bind fun ac => (edit_Type.j1 ad a1 (!ac.1) u x r b false y z A ac.2 F B C))) else (edit_Type.j1 ad a1 false u x r b false y z A D F B C)) = some (r1, r2, r3, r4, r5, r6, r7, r8) := H
      have gr := Z cV
      clear cV
      have be := Z H
      clear H
      have gV := ak.out
      have g6 := al.out
      obtain ⟨bV, bW, bX, bY, bZ, b0, cC, cD, cE, cF, cG, cH⟩ := cells6 c.out
      go_upto_region 9 with (first | ((with_reducible refine gate_callee (f := 54) rfl ?_); refine goesL_ (some 25) rfl rfl Tryd.func54 (by kernel_rfl) rfl #[.agg #[.int .i64 u, .int .i64 x, .slice aa r.length ab, .int .i64 b, .bool false, .bool y], .int .u8 a1] rfl ag_ ?_; (with_reducible refine (edit_fits.calls ad u x _ _ r b false y a1 none aL _ ?side1 ?side2 dW.out).mono ?_); (case side1 => repeat (first | exact (Kd.V_reads' HO_173002.out).2.2 | (with_reducible apply pC))); (case side2 => exact (Kd.V_reads' HO_173002.out).2.1); rintro e hO ⟨bo, rfl, ai, hb⟩; refine ⟨_, rfl, ?_⟩; replace HO_173002 := vb' HO_173002 hb; have I := Z (Kd.V_lower (Kd.V_mono (ok' := fun k_ => (af k_ ∨ w.heap.size ≤ k_) ∧ k_ ≠ E ∧ k_ ≠ d) ai (fun k_ hk_ => ⟨(.inr (Nat.le_trans (below_size bl_) hk_)), (Kd.freshB (g := E) (o := .cells #[.int .i64 u, .int .i64 x, .slice aa r.length ab, .int .i64 b, .bool false, .bool y] 24 (0, 0)) (vK c.out) k_ hk_), (Kd.freshB (g := d) (o := .cells #[.int .i64 0, .int .i64 0, .slice none 0 0, .int .i64 0, .bool false, .bool false] 24 (0, 0)) (vK l.out) k_ hk_)⟩)) (below_size bl_)); replace c := kb' c hb; replace l := kb' l hb; replace HB := bs_ hb; clear hb ai; (try simp only [errW_none, errW_some]); obtain ⟨b1, b2, b3, b4, b5, b6, cI, cJ, cK, cL, cM, cN⟩ := cells6 c.out) | ((with_reducible refine gate_callee (f := 36) rfl ?_); refine goesL_ (some 36) rfl rfl Tryd.func36 (by kernel_rfl) rfl #[.agg #[.int .i64 u, .int .i64 x, .slice aa r.length ab, .int .i64 b, .bool false, .bool y], .int .i64 b] rfl ag_ ?_; (with_reducible refine (edit_Modify.calls u x _ _ r b false y b z A D F B C _ ?side1 ?side2 gr.out).mono ?_); (case side1 => repeat (first | exact (Kd.V_reads' HO_173002.out).2.2 | (with_reducible apply pC))); (case side2 => exact (Kd.V_reads' HO_173002.out).2.1); rintro e hP ⟨hB, rfl, ai, hb⟩; refine ⟨_, rfl, ?_⟩; replace HO_173002 := Z (Kd.V_elder' (vV HO_173002.out) (Kd.R_base ai) hb); replace I := Z (Kd.V_elder' (vV I.out) (Kd.R_base ai) hb); have J := Z (Kd.R_lower (Kd.R_newM (M := fun k_ => (w.heap.size ≤ k_)) ai (below_size bl_) (fun k_ h_ => h_)) (below_size bl_)); replace c := kb' c hb; replace l := kb' l hb; replace HB := bs_ hb; clear hb ai) | ((with_reducible refine gate_dst (N := 7) rfl ?_); refine bx_ 7 24 #[.int .i64 0, .int .i64 0, .slice none 0 0, .int .i64 0, .bool false, .bool false] ?_; intro a hg ao hbox hb; replace HO_173002 := Z (ve HO_173002.out hg hb); replace I := Z (ve I.out hg hb); replace J := rb' J hb; have s := Z (hbox); have gR := Z (ln_ hg : w.heap.size ≤ a); have dK := gR; replace HB := bs_ hb; have an := nl' c hg; have aJ := ng' c hg; replace c := kb' c hb; have am := nl' l hg; have aK := ng' l hg; replace l := kb' l hb; clear hb hbox hg; have gW := aJ.out; have g7 := an.out; have gX := aK.out; have g8 := am.out; obtain ⟨b7, b8, b9, ca, cb, cc, cO, cP, cQ, cR, cS, cT⟩ := cells6 s.out; obtain ⟨L, O, d8⟩ := Kd.R_slice J.out; subst d8))
      (try simp only [Act.put, sA, sB, sC])
      go_cut [47] (fun gM wc => ∃ (kq : Nat) (aP : Bool) (ah : List (S35)) (q : List (S35)) (u173002 : Value) (u189002 : Value), gM = .bool aP ∧ Aside0 (edit_Type.j1 kq a1 aP u x ah b false y z A q F B C = some (r1, r2, r3, r4, r5, r6, r7, r8)) ∧ Aside0 (kq ≤ ad) ∧ Aside0 (Kd.V k35 35 wc w.heap.size (fun k_ => (af k_ ∨ w.heap.size ≤ k_) ∧ some k_ ≠ (u189002 : Value).ownBlock ∧ k_ ≠ E ∧ k_ ≠ d ∧ k_ ≠ a) u173002 ah) ∧ Aside0 (Kd.R k35 35 wc w.heap.size (fun k_ => (w.heap.size ≤ k_)) u189002 q) ∧ Aside0 (wc.heap[E]? = some (.cells #[.int .i64 u, .int .i64 x, u173002, .int .i64 b, .bool false, .bool y] 24 (0, 0))) ∧ Aside0 (wc.heap[d]? = some (.cells #[.int .i64 0, .int .i64 0, (.slice none 0 0), .int .i64 0, .bool false, .bool false] 24 (0, 0))) ∧ Aside0 (wc.heap[a]? = some (.cells #[.int .i64 z, .int .i64 A, u189002, .int .i64 F, .bool B, .bool C] 24 (0, 0))) ∧ Aside0 (Below w.heap.size w wc))
      case first =>
       have H := be.out
       clear be
       by_cases a9 : y = true
       ·subst a9
        have H1 : ((edit_Line.f ad u x r b false true b).bind fun aj => ((edit_pushed.f ad z A D F B C aj).bind fun ac => (edit_Type.j1 ad a1 (!ac.1) u x r b false true z A ac.2 F B C))) = some (r1, r2, r3, r4, r5, r6, r7, r8) := by rw [if_pos rfl] at H; exact H
        clear H
        have H := H1
        clear H1
        replace H := Option.bind_eq_some_iff.mp H
        obtain ⟨aj, cW, H⟩ := H
        replace H : ((edit_pushed.f ad z A D F B C aj).bind fun ac => (edit_Type.j1 ad a1 (!ac.1) u x r b false true z A ac.2 F B C)) = some (r1, r2, r3, r4, r5, r6, r7, r8) := H
        have gs := Z cW
        clear cW
        replace H := Option.bind_eq_some_iff.mp H
        obtain ⟨⟨bm, bn⟩, cX, H⟩ := H
        replace H : (edit_Type.j1 ad a1 (!bm) u x r b false true z A bn F B C) = some (r1, r2, r3, r4, r5, r6, r7, r8) := H
        have gt := Z cX
        clear cX
        have H' := Z H
        clear H
        try go_wp2
        have P : Aside0 (Kd.V k35 35 ((((((ao.setCell ⟨a, 0, none⟩ (.int .i64 z)).setCell ⟨a, 1, none⟩ (.int .i64 A)).setCell ⟨a, 2, none⟩ (.slice L D.length O)).setCell ⟨a, 3, none⟩ (.int .i64 F)).setCell ⟨a, 4, none⟩ (.bool B)).setCell ⟨a, 5, none⟩ (.bool C)) w.heap.size (fun k_ => (af k_ ∨ w.heap.size ≤ k_) ∧ some k_ ≠ (.slice L D.length O : Value).ownBlock ∧ k_ ≠ E ∧ k_ ≠ d ∧ k_ ≠ a) (.slice aa r.length ab) r) := ⟨by (with_reducible repeat apply pV); exact Kd.V_mono (f6V a (Kd.V_mono HO_173002.out (fun k_ hk => (⟨hk, hk.2⟩ : _ ∧ k_ ≠ a))) (fun _ hk => hk.2)) (fun _ hk => ⟨hk.1.1.1.1, ⟨hk.1.1.2, ⟨hk.1.1.1.2.1, ⟨hk.1.1.1.2.2, hk.1.2⟩⟩⟩⟩)⟩
        have Q : Aside0 (Kd.V k164 164 ((((((ao.setCell ⟨a, 0, none⟩ (.int .i64 z)).setCell ⟨a, 1, none⟩ (.int .i64 A)).setCell ⟨a, 2, none⟩ (.slice L D.length O)).setCell ⟨a, 3, none⟩ (.int .i64 F)).setCell ⟨a, 4, none⟩ (.bool B)).setCell ⟨a, 5, none⟩ (.bool C)) w.heap.size (fun k_ => (af k_ ∨ w.heap.size ≤ k_) ∧ some k_ ≠ (.slice L D.length O : Value).ownBlock ∧ k_ ≠ E ∧ k_ ≠ d ∧ k_ ≠ a) bo aL) := ⟨by (with_reducible repeat apply pV); exact Kd.V_mono (f6V a (Kd.V_mono I.out (fun k_ hk => (⟨hk, hk.2⟩ : _ ∧ k_ ≠ a))) (fun _ hk => hk.2)) (fun _ hk => ⟨hk.1.1.1.1, ⟨hk.1.1.2, ⟨hk.1.1.1.2.1, ⟨hk.1.1.1.2.2, hk.1.2⟩⟩⟩⟩)⟩
        have T : Aside0 (Kd.R k35 35 ((((((ao.setCell ⟨a, 0, none⟩ (.int .i64 z)).setCell ⟨a, 1, none⟩ (.int .i64 A)).setCell ⟨a, 2, none⟩ (.slice L D.length O)).setCell ⟨a, 3, none⟩ (.int .i64 F)).setCell ⟨a, 4, none⟩ (.bool B)).setCell ⟨a, 5, none⟩ (.bool C)) w.heap.size (fun k_ => (w.heap.size ≤ k_)) (.slice L D.length O) D) := ⟨by (with_reducible repeat apply pR); exact Kd.R_mono (f6R a (Kd.R_types J.out s.out (by decide)) (fun _ hk => hk.2)) (fun _ hk => hk.1.1)⟩
        have U : Aside0 (((((((ao.setCell ⟨a, 0, none⟩ (.int .i64 z)).setCell ⟨a, 1, none⟩ (.int .i64 A)).setCell ⟨a, 2, none⟩ (.slice L D.length O)).setCell ⟨a, 3, none⟩ (.int .i64 F)).setCell ⟨a, 4, none⟩ (.bool B)).setCell ⟨a, 5, none⟩ (.bool C)).heap[E]? = some (.cells #[.int .i64 u, .int .i64 x, .slice aa r.length ab, .int .i64 b, .bool false, .bool true] 24 (0, 0))) := ⟨blk_off c.out an.out off2_⟩
        have W : Aside0 (((((((ao.setCell ⟨a, 0, none⟩ (.int .i64 z)).setCell ⟨a, 1, none⟩ (.int .i64 A)).setCell ⟨a, 2, none⟩ (.slice L D.length O)).setCell ⟨a, 3, none⟩ (.int .i64 F)).setCell ⟨a, 4, none⟩ (.bool B)).setCell ⟨a, 5, none⟩ (.bool C)).heap[d]? = some (.cells #[.int .i64 0, .int .i64 0, .slice none 0 0, .int .i64 0, .bool false, .bool false] 24 (0, 0))) := ⟨blk_off l.out am.out off2_⟩
        have Y : Aside0 (((((((ao.setCell ⟨a, 0, none⟩ (.int .i64 z)).setCell ⟨a, 1, none⟩ (.int .i64 A)).setCell ⟨a, 2, none⟩ (.slice L D.length O)).setCell ⟨a, 3, none⟩ (.int .i64 F)).setCell ⟨a, 4, none⟩ (.bool B)).setCell ⟨a, 5, none⟩ (.bool C)).heap[a]? = some (.cells #[.int .i64 z, .int .i64 A, .slice L D.length O, .int .i64 F, .bool B, .bool C] 24 (0, 0))) := ⟨put6 s.out⟩
        have ae : Aside0 (Below w.heap.size w ((((((ao.setCell ⟨a, 0, none⟩ (.int .i64 z)).setCell ⟨a, 1, none⟩ (.int .i64 A)).setCell ⟨a, 2, none⟩ (.slice L D.length O)).setCell ⟨a, 3, none⟩ (.int .i64 F)).setCell ⟨a, 4, none⟩ (.bool B)).setCell ⟨a, 5, none⟩ (.bool C))) := ⟨bl_⟩
        clear HO_173002 I J c l s HB
        generalize ((((((ao.setCell ⟨a, 0, none⟩ (.int .i64 z)).setCell ⟨a, 1, none⟩ (.int .i64 A)).setCell ⟨a, 2, none⟩ (.slice L D.length O)).setCell ⟨a, 3, none⟩ (.int .i64 F)).setCell ⟨a, 4, none⟩ (.bool B)).setCell ⟨a, 5, none⟩ (.bool C)) = gN at P Q T U W Y ae ⊢
        have HO_173002 := P
        have I := Q
        have J := T
        have c := U
        have l := W
        have s := Y
        have HB := ae
        clear P Q T U W Y ae
        replace HO_173002 := Z (Kd.V_drew HO_173002.out)
        replace I := Z (Kd.V_drew I.out)
        replace J := Z (Kd.R_drew J.out)
        replace c := Z (blk_drew c.out)
        replace l := Z (blk_drew l.out)
        replace s := Z (blk_drew s.out)
        replace HB := Z (below_drew1 HB.out)
        refine start_ (n := 11) (S := fun w' => w'.cell? ⟨E, 0, none⟩ = some (.int .i64 u) ∧ w'.cell? ⟨E, 1, none⟩ = some (.int .i64 x) ∧ w'.cell? ⟨E, 2, none⟩ = some (.slice aa r.length ab) ∧ w'.cell? ⟨E, 3, none⟩ = some (.int .i64 b) ∧ w'.cell? ⟨E, 4, none⟩ = some (.bool false) ∧ w'.cell? ⟨E, 5, none⟩ = some (.bool true) ∧ w'.cell? ⟨a, 0, none⟩ = some (.int .i64 z) ∧ w'.cell? ⟨a, 1, none⟩ = some (.int .i64 A) ∧ w'.cell? ⟨a, 2, none⟩ = some (.slice L D.length O) ∧ w'.cell? ⟨a, 3, none⟩ = some (.int .i64 F) ∧ w'.cell? ⟨a, 4, none⟩ = some (.bool B) ∧ w'.cell? ⟨a, 5, none⟩ = some (.bool C)) (ds := []) (bv 11 0) (by kernel_rfl) rfl rfl ⟨(blk_cell c.out 0).trans rfl, (blk_cell c.out 1).trans rfl, (blk_cell c.out 2).trans rfl, (blk_cell c.out 3).trans rfl, (blk_cell c.out 4).trans rfl, (blk_cell c.out 5).trans rfl, (blk_cell s.out 0).trans rfl, (blk_cell s.out 1).trans rfl, (blk_cell s.out 2).trans rfl, (blk_cell s.out 3).trans rfl, (blk_cell s.out 4).trans rfl, (blk_cell s.out 5).trans rfl⟩ (fun hHeld => ?_); refine with_tabW edit_Type.tab9 edit_Type.bits9 (fun HT_ HW_ => ?_)
        generalize gN.drew = hQ at HO_173002 I J c l s HB hHeld ⊢
        refine pT_ HT_ 0 11 1 (some 37) ?_
        refine tT_ HT_ HW_ hHeld 1 11 3 (some 38) ?_
        refine pT_ HT_ 2 11 7 (some 39) ?_
        refine pT_ HT_ 5 11 39 (some 42) ?_
        refine tT_ HT_ HW_ hHeld 3 11 47 (some 40) ?_
        refine tT_ HT_ HW_ hHeld 4 11 63 (some 41) ?_
        refine tT_ HT_ HW_ hHeld 6 11 127 (some 43) ?_
        refine oT_ HT_ 7 11 255 (some 44) (fun K hK => ?_)
        refine goes_ Tryd.func26 (by kernel_rfl) rfl #[.agg #[.int .i64 u, .int .i64 x, .slice aa r.length ab, .int .i64 b, .bool false, .bool true], .int .i64 b] (by rfl) rfl rfl ag_ ?_
        with_reducible refine (edit_Line.calls ad u x _ _ r b false true b aj _ ?side1 ?side2 gs.out).mono ?_
        (case side1 => repeat (first | exact (Kd.V_reads' HO_173002.out).2.2 | (with_reducible apply pC)))
        (case side2 => exact (Kd.V_reads' HO_173002.out).2.1)
        rintro e hR ⟨hC, rfl, ai, hb⟩
        refine ⟨_, rfl, ?_⟩
        have P := Z (Kd.V_elder' (vV HO_173002.out) (Kd.Q_base ai) hb)
        have Q := Z (Kd.V_elder' (vV I.out) (Kd.Q_base ai) hb)
        have T := rb' J hb
        have U := Z (Kd.Q_lower (Kd.Q_newM (M := fun k_ => (w.heap.size ≤ k_)) ai (below_size bl_) (fun k_ h_ => h_)) (below_size bl_))
        have W := kb' c hb
        have Y := kb' l hb
        have ae := kb' s hb
        have aE := bs_ hb
        clear HO_173002
        clear I
        clear J
        clear c
        clear l
        clear s
        clear HB
        have HO_173002 := P
        have I := Q
        have J := T
        have aM := U
        have c := W
        have l := Y
        have s := ae
        have HB := aE
        clear P Q T U W Y ae aE
        clear hb ai
        obtain ⟨bb, bh, de, _⟩ := Kd.Q_slice aM.out
        (first | subst de | (injection de with dZ gx d0; have gy := dZ.symm; have gz := d0.symm; clear dZ gx d0; subst gy; subst gz))
        refine hK.out _ _ ⟨(blk_cell c.out 0).trans rfl, (blk_cell c.out 1).trans rfl, (blk_cell c.out 2).trans rfl, (blk_cell c.out 3).trans rfl, (blk_cell c.out 4).trans rfl, (blk_cell c.out 5).trans rfl, (blk_cell s.out 0).trans rfl, (blk_cell s.out 1).trans rfl, (blk_cell s.out 2).trans rfl, (blk_cell s.out 3).trans rfl, (blk_cell s.out 4).trans rfl, (blk_cell s.out 5).trans rfl⟩ (fun hHeld => ?_)
        clear hK K
        refine nA_ (some 44) ?_
        refine oT_ HT_ 8 11 511 (some 45) (fun K hK => ?_)
        refine goes_ Tryd.func55 (by kernel_rfl) rfl #[.agg #[.int .i64 z, .int .i64 A, .slice L D.length O, .int .i64 F, .bool B, .bool C], .slice bb aj.length bh] (by rfl) rfl rfl ag_ ?_
        with_reducible refine (edit_pushed.calls ad z A (fun k_ => some k_ = (.slice L D.length O : Value).ownBlock) (.slice L D.length O) D F B C _ _ aj bm bn w _ ?side1 ?side2 ?side3 ?side4 gt.out).mono ?_
        (case side1 => repeat (first | (with_reducible first | exact HB.out | apply below_alloc | apply pw_below_drewN | apply below_drew1 | refine below_set ?_ dI.out | refine below_set ?_ dJ.out | refine below_set ?_ dK.out) | exact HB.out))
        (case side2 => exact Kd.R_tight rfl J.out)
        (case side3 => exact Kd.C_kept_ownQ ((Kd.Q_apart' aM.out (Kd.R_typed J.out) (by decide))) (fun k_ hk_ hs_ => (hk_.2) hs_))
        (case side4 => exact (Kd.Q_reads' aM.out).2.1)
        rintro e hS ⟨rfl, d1, hb, hkp⟩
        refine ⟨_, rfl, ?_⟩
        replace HO_173002 := Z (Kd.V_mono (ok' := fun k_ => (af k_ ∨ w.heap.size ≤ k_) ∧ some k_ ≠ (.slice L D.length O : Value).ownBlock ∧ some k_ ≠ (.slice bb aj.length bh : Value).ownBlock ∧ k_ ≠ E ∧ k_ ≠ d ∧ k_ ≠ a) (Kd.V_keptB (HO_173002.out) hkp (fun k_ hk_ hs_ => (hk_.1.2.1) hs_)) (fun k_ hk_ => ⟨hk_.1.1.1, hk_.1.1.2.1, hk_.1.2, hk_.1.1.2.2.1, hk_.1.1.2.2.2.1, hk_.1.1.2.2.2.2⟩))
        replace c := Z (blk_kept (vK c.out) hkp (fun hs_ => (fun e_ => (Kd.R_ne J.out c.out (by decide)) e_) hs_))
        replace l := Z (blk_kept (vK l.out) hkp (fun hs_ => (fun e_ => (Kd.R_ne J.out l.out (by decide)) e_) hs_))
        replace I := Z (Kd.V_mono (ok' := fun k_ => (af k_ ∨ w.heap.size ≤ k_) ∧ some k_ ≠ (.slice L D.length O : Value).ownBlock ∧ some k_ ≠ (.slice bb aj.length bh : Value).ownBlock ∧ k_ ≠ E ∧ k_ ≠ d ∧ k_ ≠ a) (Kd.V_keptB (I.out) hkp (fun k_ hk_ hs_ => (hk_.1.2.1) hs_)) (fun k_ hk_ => ⟨hk_.1.1.1, hk_.1.1.2.1, hk_.1.2, hk_.1.1.2.2.1, hk_.1.1.2.2.2.1, hk_.1.1.2.2.2.2⟩))
        replace s := Z (blk_kept (vK s.out) hkp (fun hs_ => (fun e_ => (Kd.R_ne J.out s.out (by decide)) e_) hs_))
        replace aM := Z (Kd.Q_mono (ok' := fun k_ => (w.heap.size ≤ k_)) (Kd.Q_keptB ((Kd.Q_apart' aM.out (Kd.R_typed J.out) (by decide))) hkp (fun k_ hk_ hs_ => (hk_.2) hs_)) (fun k_ hk_ => hk_.1.1.1))
        replace J := Z (Kd.R_reok rfl d1 (fun k_ e_ => J.out.1 k_ e_))
        replace HB := Z (hb)
        clear hb hkp d1
        refine hK.out _ _ ⟨(blk_cell c.out 0).trans rfl, (blk_cell c.out 1).trans rfl, (blk_cell c.out 2).trans rfl, (blk_cell c.out 3).trans rfl, (blk_cell c.out 4).trans rfl, (blk_cell c.out 5).trans rfl, (blk_cell s.out 0).trans rfl, (blk_cell s.out 1).trans rfl, (blk_cell s.out 2).trans rfl, (blk_cell s.out 3).trans rfl, (blk_cell s.out 4).trans rfl, (blk_cell s.out 5).trans rfl⟩ (fun hHeld => ?_)
        clear hK K
        refine nA_ (some 45) ?_
        refine pT_ HT_ 9 11 1023 (some 46) ?_
        refine pT_ HT_ 10 11 2047 (some 47) ?_
        refine done_ (done_of HT_.out (by kernel_rfl)) ?_
        try go_wp2
        go_meet
        case rel => exact ⟨_, (!bm), (r), (bn), (.slice aa r.length ab), (.slice L D.length O), (dn_), H', ⟨by have := dY.out; first | omega | exact Nat.le_refl _⟩, ⟨by (with_reducible repeat apply pV); exact Kd.V_mono HO_173002.out (fun _ hk => ⟨hk.1, ⟨hk.2.1, ⟨hk.2.2.2.1, ⟨hk.2.2.2.2.1, hk.2.2.2.2.2⟩⟩⟩⟩)⟩, ⟨by (with_reducible repeat apply pR); exact J.out⟩, ⟨vK c.out⟩, ⟨vK l.out⟩, ⟨vK s.out⟩, ⟨bl_⟩⟩
       ·replace a9 := Bool.eq_false_iff.mpr a9
        subst a9
        have H1 : (edit_Type.j1 ad a1 false u x r b false false z A D F B C) = some (r1, r2, r3, r4, r5, r6, r7, r8) := by rw [if_neg (show ¬ (false = true) by decide)] at H; exact H
        clear H
        have H := H1
        clear H1
        have H' := Z H
        clear H
        try go_wp2
        have P : Aside0 (Kd.V k35 35 ((((((ao.setCell ⟨a, 0, none⟩ (.int .i64 z)).setCell ⟨a, 1, none⟩ (.int .i64 A)).setCell ⟨a, 2, none⟩ (.slice L D.length O)).setCell ⟨a, 3, none⟩ (.int .i64 F)).setCell ⟨a, 4, none⟩ (.bool B)).setCell ⟨a, 5, none⟩ (.bool C)) w.heap.size (fun k_ => (af k_ ∨ w.heap.size ≤ k_) ∧ some k_ ≠ (.slice L D.length O : Value).ownBlock ∧ k_ ≠ E ∧ k_ ≠ d ∧ k_ ≠ a) (.slice aa r.length ab) r) := ⟨by (with_reducible repeat apply pV); exact Kd.V_mono (f6V a (Kd.V_mono HO_173002.out (fun k_ hk => (⟨hk, hk.2⟩ : _ ∧ k_ ≠ a))) (fun _ hk => hk.2)) (fun _ hk => ⟨hk.1.1.1.1, ⟨hk.1.1.2, ⟨hk.1.1.1.2.1, ⟨hk.1.1.1.2.2, hk.1.2⟩⟩⟩⟩)⟩
        have Q : Aside0 (Kd.V k164 164 ((((((ao.setCell ⟨a, 0, none⟩ (.int .i64 z)).setCell ⟨a, 1, none⟩ (.int .i64 A)).setCell ⟨a, 2, none⟩ (.slice L D.length O)).setCell ⟨a, 3, none⟩ (.int .i64 F)).setCell ⟨a, 4, none⟩ (.bool B)).setCell ⟨a, 5, none⟩ (.bool C)) w.heap.size (fun k_ => (af k_ ∨ w.heap.size ≤ k_) ∧ some k_ ≠ (.slice L D.length O : Value).ownBlock ∧ k_ ≠ E ∧ k_ ≠ d ∧ k_ ≠ a) bo aL) := ⟨by (with_reducible repeat apply pV); exact Kd.V_mono (f6V a (Kd.V_mono I.out (fun k_ hk => (⟨hk, hk.2⟩ : _ ∧ k_ ≠ a))) (fun _ hk => hk.2)) (fun _ hk => ⟨hk.1.1.1.1, ⟨hk.1.1.2, ⟨hk.1.1.1.2.1, ⟨hk.1.1.1.2.2, hk.1.2⟩⟩⟩⟩)⟩
        have T : Aside0 (Kd.R k35 35 ((((((ao.setCell ⟨a, 0, none⟩ (.int .i64 z)).setCell ⟨a, 1, none⟩ (.int .i64 A)).setCell ⟨a, 2, none⟩ (.slice L D.length O)).setCell ⟨a, 3, none⟩ (.int .i64 F)).setCell ⟨a, 4, none⟩ (.bool B)).setCell ⟨a, 5, none⟩ (.bool C)) w.heap.size (fun k_ => (w.heap.size ≤ k_)) (.slice L D.length O) D) := ⟨by (with_reducible repeat apply pR); exact Kd.R_mono (f6R a (Kd.R_types J.out s.out (by decide)) (fun _ hk => hk.2)) (fun _ hk => hk.1.1)⟩
        have U : Aside0 (((((((ao.setCell ⟨a, 0, none⟩ (.int .i64 z)).setCell ⟨a, 1, none⟩ (.int .i64 A)).setCell ⟨a, 2, none⟩ (.slice L D.length O)).setCell ⟨a, 3, none⟩ (.int .i64 F)).setCell ⟨a, 4, none⟩ (.bool B)).setCell ⟨a, 5, none⟩ (.bool C)).heap[E]? = some (.cells #[.int .i64 u, .int .i64 x, .slice aa r.length ab, .int .i64 b, .bool false, .bool false] 24 (0, 0))) := ⟨blk_off c.out an.out off2_⟩
        have W : Aside0 (((((((ao.setCell ⟨a, 0, none⟩ (.int .i64 z)).setCell ⟨a, 1, none⟩ (.int .i64 A)).setCell ⟨a, 2, none⟩ (.slice L D.length O)).setCell ⟨a, 3, none⟩ (.int .i64 F)).setCell ⟨a, 4, none⟩ (.bool B)).setCell ⟨a, 5, none⟩ (.bool C)).heap[d]? = some (.cells #[.int .i64 0, .int .i64 0, .slice none 0 0, .int .i64 0, .bool false, .bool false] 24 (0, 0))) := ⟨blk_off l.out am.out off2_⟩
        have Y : Aside0 (((((((ao.setCell ⟨a, 0, none⟩ (.int .i64 z)).setCell ⟨a, 1, none⟩ (.int .i64 A)).setCell ⟨a, 2, none⟩ (.slice L D.length O)).setCell ⟨a, 3, none⟩ (.int .i64 F)).setCell ⟨a, 4, none⟩ (.bool B)).setCell ⟨a, 5, none⟩ (.bool C)).heap[a]? = some (.cells #[.int .i64 z, .int .i64 A, .slice L D.length O, .int .i64 F, .bool B, .bool C] 24 (0, 0))) := ⟨put6 s.out⟩
        have ae : Aside0 (Below w.heap.size w ((((((ao.setCell ⟨a, 0, none⟩ (.int .i64 z)).setCell ⟨a, 1, none⟩ (.int .i64 A)).setCell ⟨a, 2, none⟩ (.slice L D.length O)).setCell ⟨a, 3, none⟩ (.int .i64 F)).setCell ⟨a, 4, none⟩ (.bool B)).setCell ⟨a, 5, none⟩ (.bool C))) := ⟨bl_⟩
        clear HO_173002 I J c l s HB
        generalize ((((((ao.setCell ⟨a, 0, none⟩ (.int .i64 z)).setCell ⟨a, 1, none⟩ (.int .i64 A)).setCell ⟨a, 2, none⟩ (.slice L D.length O)).setCell ⟨a, 3, none⟩ (.int .i64 F)).setCell ⟨a, 4, none⟩ (.bool B)).setCell ⟨a, 5, none⟩ (.bool C)) = gO at P Q T U W Y ae ⊢
        have HO_173002 := P
        have I := Q
        have J := T
        have c := U
        have l := W
        have s := Y
        have HB := ae
        clear P Q T U W Y ae
        replace HO_173002 := Z (Kd.V_drew HO_173002.out)
        replace I := Z (Kd.V_drew I.out)
        replace J := Z (Kd.R_drew J.out)
        replace c := Z (blk_drew c.out)
        replace l := Z (blk_drew l.out)
        replace s := Z (blk_drew s.out)
        replace HB := Z (below_drew1 HB.out)
        refine start_ (n := 11) (S := fun w' => w'.cell? ⟨E, 0, none⟩ = some (.int .i64 u) ∧ w'.cell? ⟨E, 1, none⟩ = some (.int .i64 x) ∧ w'.cell? ⟨E, 2, none⟩ = some (.slice aa r.length ab) ∧ w'.cell? ⟨E, 3, none⟩ = some (.int .i64 b) ∧ w'.cell? ⟨E, 4, none⟩ = some (.bool false) ∧ w'.cell? ⟨E, 5, none⟩ = some (.bool false)) (ds := []) (bv 11 0) (by kernel_rfl) rfl rfl ⟨(blk_cell c.out 0).trans rfl, (blk_cell c.out 1).trans rfl, (blk_cell c.out 2).trans rfl, (blk_cell c.out 3).trans rfl, (blk_cell c.out 4).trans rfl, (blk_cell c.out 5).trans rfl⟩ (fun hHeld => ?_); refine with_tabW edit_Type.tab9 edit_Type.bits9 (fun HT_ HW_ => ?_)
        generalize gO.drew = hT at HO_173002 I J c l s HB hHeld ⊢
        refine pT_ HT_ 0 11 1 (some 37) ?_
        refine tT_ HT_ HW_ hHeld 1 11 3 (some 38) ?_
        refine pT_ HT_ 2 11 7 (some 39) ?_
        refine pU_ HT_ 3 11 15 (some 40) ?_
        refine pU_ HT_ 4 11 31 (some 41) ?_
        refine pU_ HT_ 5 11 63 (some 42) ?_
        refine pU_ HT_ 6 11 127 (some 43) ?_
        refine pU_ HT_ 7 11 255 (some 44) ?_
        refine pU_ HT_ 8 11 511 (some 45) ?_
        refine pU_ HT_ 9 11 1023 (some 46) ?_
        refine pT_ HT_ 10 11 2047 (some 47) ?_
        refine done_ (done_of HT_.out (by kernel_rfl)) ?_
        try go_wp2
        go_meet
        case rel => exact ⟨_, (false), (r), (D), (.slice aa r.length ab), (.slice L D.length O), (dn_), H', ⟨by have := dY.out; first | omega | exact Nat.le_refl _⟩, ⟨vV HO_173002.out⟩, ⟨by (with_reducible repeat apply pR); exact J.out⟩, ⟨vK c.out⟩, ⟨vK l.out⟩, ⟨vK s.out⟩, ⟨bl_⟩⟩
      case rest =>
       clear be
       clear bV bW bX bY bZ b0 b1 b2 b3 b4 b5 b6 b7 b8 b9 ca cb cc cC cD cE cF cG cH cI cJ cK cL cM cN cO cP cQ cR cS cT
       obtain ⟨kq, aP, ah, q, u173002, u189002, rfl, HA, hp, HO_173002, HO_189002, c, l, s, HB⟩ := hcut
       cases kq with
       | zero => exact absurd HA.out (by simp [edit_Type.j1])
       | succ bk =>
        have H := HA.out
        clear HA
        simp only [edit_Type.j1] at H
        by_cases br : aP = true
        ·subst br
         have H1 : ((edit_Deny.f u x ah b false y (some (Er.num 10)) ([] : List (S164))).bind fun aC => (some (aC.1, aC.2.1, aC.2.2.1, aC.2.2.2.1, aC.2.2.2.2.1, aC.2.2.2.2.2.1, aC.2.2.2.2.2.2.1, aC.2.2.2.2.2.2.2))) = some (r1, r2, r3, r4, r5, r6, r7, r8) := by rw [if_pos rfl] at H; exact H
         clear H
         have H := H1
         clear H1
         replace H := Option.bind_eq_some_iff.mp H
         obtain ⟨⟨aT, aU, aV, aW, aX, aY, dD, dE⟩, cY, H⟩ := H
         replace H : (some (aT, aU, aV, aW, aX, aY, dD, dE)) = some (r1, r2, r3, r4, r5, r6, r7, r8) := H
         have gu := Z cY
         clear cY
         simp only [Option.some.injEq, Prod.mk.injEq] at H
         obtain ⟨rfl, rfl, rfl, rfl, rfl, rfl, rfl, rfl⟩ := H
         have gY := ak.out
         have g9 := al.out
         have gZ := an.out
         have ha := aJ.out
         obtain ⟨ek, el, em, en, eo, ep, fj, fk, fl, fm, fn, fo⟩ := cells6 c.out
         obtain ⟨c4, dd, d9⟩ := Kd.V_slice HO_173002.out
         subst d9
         go_wp2_with (first | ((with_reducible refine gate_callee (f := 34) rfl ?_); refine goesL_ (some 50) rfl rfl Tryd.func34 (by kernel_rfl) rfl #[.agg #[.int .i64 u, .int .i64 x, .slice c4 ah.length dd, .int .i64 b, .bool false, .bool y], errW (.slice none 0 0) (some (Er.num 10))] rfl ag_ ?_; (refine (edit_Deny.calls u x _ _ ah b false y (some (Er.num 10)) _ _ ([] : List (S164)) aT aU aV aW aX aY dD dE _ ?side1 ?side2 ?side3 ?side4 gu.out).mono ?_); (case side1 => repeat (first | exact (Kd.V_reads' HO_173002.out).2.2 | (with_reducible apply pC))); (case side2 => exact (Kd.V_reads' HO_173002.out).2.1); (case side3 => exact Kd.C_nil _ _); (case side4 => exact Nat.le_refl _); rintro e hU ⟨ei, hD, rfl, ai, ba, hb⟩; refine ⟨_, rfl, ?_⟩; replace HO_173002 := Z (Kd.V_elder' (vV HO_173002.out) (Kd.R_base ai) hb); have bp := Z (Kd.R_lower (Kd.R_new' (Kd.R_newM (M := fun k_ => (w.heap.size ≤ k_)) (Kd.R_mono (ok' := fun k_ => True) ai (fun _ hk_ => trivial)) (below_size bl_) (fun k_ h_ => h_)) (Kd.R_lt (by (with_reducible repeat apply pR); exact HO_189002.out))) (below_size bl_)); have dL := Z (Kd.V_lower (Kd.V_mono (ok' := fun k_ => (af k_ ∨ w.heap.size ≤ k_) ∧ some k_ ≠ (ei : Value).ownBlock ∧ some k_ ≠ (u189002 : Value).ownBlock ∧ k_ ≠ E ∧ k_ ≠ d ∧ k_ ≠ a) ba (fun k_ hk_ => ⟨(.inr (Nat.le_trans (below_size bl_) hk_.1)), hk_.2, (Kd.fresh' (Kd.R_lt (by (with_reducible repeat apply pR); exact HO_189002.out)) k_ hk_.1), (Kd.freshB (g := E) (o := .cells #[.int .i64 u, .int .i64 x, .slice c4 ah.length dd, .int .i64 b, .bool false, .bool y] 24 (0, 0)) (vK c.out) k_ hk_.1), (Kd.freshB (g := d) (o := .cells #[.int .i64 0, .int .i64 0, .slice none 0 0, .int .i64 0, .bool false, .bool false] 24 (0, 0)) (vK l.out) k_ hk_.1), (Kd.freshB (g := a) (o := .cells #[.int .i64 z, .int .i64 A, u189002, .int .i64 F, .bool B, .bool C] 24 (0, 0)) (vK s.out) k_ hk_.1)⟩)) (below_size bl_)); replace HO_189002 := Z (Kd.R_elder' (by (with_reducible repeat apply pR); exact HO_189002.out) (Kd.R_base ai) hb); replace c := kb' c hb; replace l := kb' l hb; replace s := kb' s hb; replace HB := bs_ hb; clear hb ai ba; (try simp only [errW_none, errW_some]); have g0 := am.out; have hc := aK.out; obtain ⟨eq, er, es, et, eu, ev, fp, fq, fr, fs, ft, fu⟩ := cells6 l.out; obtain ⟨bc, bi, ea⟩ := Kd.R_slice bp.out; subst ea))
         refine bodyPost_ret (results_ct rfl _ _ d 24 #[.int .i64 aT, .int .i64 aU, .slice bc aV.length bi, .int .i64 aW, .bool aX, .bool aY] (0, 0) _ rfl (put6 l.out) Tryd.underlying24 rfl (by kernel_rfl)) rfl ?_
         exact ⟨_, _, er_, Kd.V_mono (Kd.R_V (by (with_reducible repeat apply pR); exact Kd.R_mono (f6R d (Kd.R_types bp.out l.out (by decide)) (fun _ hk => hk.2)) (fun _ hk => hk.1.1.1))) (fun k_ hk => by first | exact ⟨(.inr (hk.1)), hk.2⟩ | exact (.inr (hk))), by (with_reducible repeat apply pV); exact Kd.V_mono (f6V d (Kd.V_mono dL.out (fun k_ hk => (⟨hk, hk.2.2.2.2.1⟩ : _ ∧ k_ ≠ d))) (fun _ hk => hk.2)) (fun _ hk => hk.1.1), bl_⟩
        ·replace br := Bool.eq_false_iff.mpr br
         subst br
         have H1 : (if 0 ≤ b then (if b < (q.length : Int) then ((some (q.set (b : Int).toNat (⟨false, (⟨false, false, 0, false⟩ : S33), a1⟩ : S35) : List (S35))).bind fun aA => ((edit_onward.f bk z A aA F B C).bind fun az => (some (z, A, aA, az, B, C, none, ([] : List (S164)))))) else (none)) else (none)) = some (r1, r2, r3, r4, r5, r6, r7, r8) := by rw [if_neg (show ¬ (false = true) by decide)] at H; exact H
         clear H
         have H := H1
         clear H1
         by_cases bs : 0 ≤ b
         ·rw [if_pos bs] at H
          have gS : decide (0 ≤ b) = true := decide_eq_true bs
          clear bs
          by_cases bt : b < (q.length : Int)
          ·rw [if_pos bt] at H
           have gT : decide (b < (q.length : Int)) = true := decide_eq_true bt
           clear bt
           obtain ⟨aA, aO⟩ : ∃ y_ : List (S35), y_ = (q.set (b : Int).toNat (⟨false, (⟨false, false, 0, false⟩ : S33), a1⟩ : S35)) := ⟨_, rfl⟩
           replace H : ((edit_onward.f bk z A aA F B C).bind fun az => (some (z, A, aA, az, B, C, none, ([] : List (S164))))) = some (r1, r2, r3, r4, r5, r6, r7, r8) := by first | (rw [aO]; with_reducible exact H) | (have c7 := (Option.bind_some _ _).symm.trans H; rw [aO]; with_reducible exact c7) | (have c7 := (Option.bind_some _ _).symm.trans H; with_reducible exact c7) | with_reducible exact H | (rw [aO]; exact H) | exact H
           have dN := Z aO
           clear aO
           replace H := Option.bind_eq_some_iff.mp H
           obtain ⟨az, cZ, H⟩ := H
           replace H : (some (z, A, aA, az, B, C, none, ([] : List (S164)))) = some (r1, r2, r3, r4, r5, r6, r7, r8) := H
           have gv := Z cZ
           clear cZ
           simp only [Option.some.injEq, Prod.mk.injEq] at H
           obtain ⟨rfl, rfl, rfl, rfl, rfl, rfl, rfl, rfl⟩ := H
           have g1 := aJ.out
           have he := an.out
           have g2 := aK.out
           have hf := am.out
           obtain ⟨ew, ex, ey, eA, eB, eC, fv, fw, fx, fy, fz, fA⟩ := cells6 s.out
           have g3 := ak.out
           have hh := al.out
           obtain ⟨eD, eE, eF, eG, eH, eI, fB, fC, fD, fE, fF, fG⟩ := cells6 c.out
           have p51 : 0 ≤ (b : Int) := od_
           have dA : (b : Int) < ((q.length : Int) : Int) := od_
           obtain ⟨X, ay, df, dg, ed, ht, db⟩ := Kd.R_form HO_189002.out (by omega)
           (first | cases df | (injection df with ea_ en_ ec_; (first | subst ea_ | (injection ea_ with ea_; subst ea_)); subst ec_; clear en_))
           have aQ := Z dg
           have hm := Z db
           clear dg ed db
           obtain ⟨hq, dO, dh, aG, aH⟩ := Kd.R_elem HO_189002.out z35 (b : Int) p51 dA
           obtain rfl := k35_openM dh
           have gG : wc.cell? ⟨X, (b : Int).toNat * 6, none⟩ = some (.bool ((rd_T35 q b).f0)) := aG 0 _ rfl
           have gH : wc.cell? ⟨X, (b : Int).toNat * 6 + 1, none⟩ = some (.bool ((rd_T35 q b).f1.f0)) := aG 1 _ rfl
           have gI : wc.cell? ⟨X, (b : Int).toNat * 6 + 2, none⟩ = some (.bool ((rd_T35 q b).f1.f1)) := aG 2 _ rfl
           have gJ : wc.cell? ⟨X, (b : Int).toNat * 6 + 3, none⟩ = some (.int .i64 ((rd_T35 q b).f1.f2)) := aG 3 _ rfl
           have gK : wc.cell? ⟨X, (b : Int).toNat * 6 + 4, none⟩ = some (.bool ((rd_T35 q b).f1.f3)) := aG 4 _ rfl
           have gL : wc.cell? ⟨X, (b : Int).toNat * 6 + 5, none⟩ = some (.int .u8 ((rd_T35 q b).f2)) := aG 5 _ rfl
           have gA : wc.frozen? ⟨X, (b : Int).toNat * 6, none⟩ = false := aH 0
           have gB : wc.frozen? ⟨X, (b : Int).toNat * 6 + 1, none⟩ = false := aH 1
           have gC : wc.frozen? ⟨X, (b : Int).toNat * 6 + 2, none⟩ = false := aH 2
           have gD : wc.frozen? ⟨X, (b : Int).toNat * 6 + 3, none⟩ = false := aH 3
           have gE : wc.frozen? ⟨X, (b : Int).toNat * 6 + 4, none⟩ = false := aH 4
           have gF : wc.frozen? ⟨X, (b : Int).toNat * 6 + 5, none⟩ = false := aH 5
           clear dO aG aH dh
           replace p51 := eq_true p51
           replace dA := eq_true dA
           have dc := Z (show Kd.R k35 35 wc w.heap.size (fun k_ => (w.heap.size ≤ k_)) (.slice (some ⟨X, 0, none⟩) q.length ay) q from (by (with_reducible repeat apply pR); exact HO_189002.out))
           obtain ⟨hs, bu, di, aD, aI⟩ := Kd.R_elem dc.out z35 (b : Int) (od_) (by have h_ : (b : Int) < ((q.length : Int) : Int) := od_; first | exact h_ | (have e_ := (Kd.R_reads' HO_189002.out).1; omega) | simpa using h_)
           obtain rfl := k35_openM di
           have bf := Kd.R_seg dc.out (b : Int) (od_) (by have h_ : (b : Int) < ((q.length : Int) : Int) := od_; first | exact h_ | (have e_ := (Kd.R_reads' HO_189002.out).1; omega) | simpa using h_) (seg := [.bool false, .bool false, .bool false, .int .i64 0, .bool false, .int .u8 a1]) (j := 0) bu aD (show 6 ≤ 6 from by decide) (x' := (⟨false, (⟨false, false, 0, false⟩ : S33), a1⟩ : S35)) (k35_mkM _ _ _ (⟨false, (⟨false, false, 0, false⟩ : S33), a1⟩ : S35) ) (fun _ hk => hk)
           have dq := aD 0 _ rfl
           (try simp only [show (k35).sz = 6 from rfl, Nat.mul_one, Nat.add_zero] at dq)
           have dj := aI 0
           (try simp only [show (k35).sz = 6 from rfl, Nat.mul_one, Nat.add_zero] at dj)
           have dr := aD 1 _ rfl
           (try simp only [show (k35).sz = 6 from rfl, Nat.mul_one, Nat.add_zero] at dr)
           have dk := aI 1
           (try simp only [show (k35).sz = 6 from rfl, Nat.mul_one, Nat.add_zero] at dk)
           have dt := aD 2 _ rfl
           (try simp only [show (k35).sz = 6 from rfl, Nat.mul_one, Nat.add_zero] at dt)
           have dl := aI 2
           (try simp only [show (k35).sz = 6 from rfl, Nat.mul_one, Nat.add_zero] at dl)
           have du := aD 3 _ rfl
           (try simp only [show (k35).sz = 6 from rfl, Nat.mul_one, Nat.add_zero] at du)
           have dm := aI 3
           (try simp only [show (k35).sz = 6 from rfl, Nat.mul_one, Nat.add_zero] at dm)
           have dv := aD 4 _ rfl
           (try simp only [show (k35).sz = 6 from rfl, Nat.mul_one, Nat.add_zero] at dv)
           have dn := aI 4
           (try simp only [show (k35).sz = 6 from rfl, Nat.mul_one, Nat.add_zero] at dn)
           have dw := aD 5 _ rfl
           (try simp only [show (k35).sz = 6 from rfl, Nat.mul_one, Nat.add_zero] at dw)
           have dp := aI 5
           (try simp only [show (k35).sz = 6 from rfl, Nat.mul_one, Nat.add_zero] at dp)
           clear bu aD aI di
           go_wp2_with (first | ((with_reducible refine gate_store (t := 35) (p := 59) rfl ?_); refine sx_ 35 59 ((((((wc.setCell ⟨X, (b : Int).toNat * 6, none⟩ (.bool false)).setCell ⟨X, (b : Int).toNat * 6 + 1, none⟩ (.bool false)).setCell ⟨X, (b : Int).toNat * 6 + 2, none⟩ (.bool false)).setCell ⟨X, (b : Int).toNat * 6 + 3, none⟩ (.int .i64 0)).setCell ⟨X, (b : Int).toNat * 6 + 4, none⟩ (.bool false)).setCell ⟨X, (b : Int).toNat * 6 + 5, none⟩ (.int .u8 a1)) ?_; intro dH hw; have hg : wc.grownBy dH (some X) := (by rw [hw]; exact bf.2); have hp_ : Kd.R k35 35 dH w.heap.size (fun k_ => (w.heap.size ≤ k_)) (.slice (some ⟨X, 0, none⟩) q.length ay) aA := (by rw [hw, dN.out]; exact bf.1); clear bf; replace HO_173002 := Z (Kd.V_afterv (v := (.slice (some ⟨X, 0, none⟩) q.length ay)) (v1 := (.slice (some ⟨X, 0, none⟩) q.length ay)) (ok := (fun k_ => (af k_ ∨ w.heap.size ≤ k_) ∧ k_ ≠ E ∧ k_ ≠ d ∧ k_ ≠ a)) (by (with_reducible repeat apply pV); exact Kd.V_mono HO_173002.out (fun _ hk => ⟨⟨hk.1, ⟨hk.2.2.1, ⟨hk.2.2.2.1, hk.2.2.2.2⟩⟩⟩, hk.2.1⟩)) hg (.inl rfl)); replace c := Z (blk_grown (g := E) (o := .cells #[.int .i64 u, .int .i64 x, u173002, .int .i64 b, .bool false, .bool y] 24 (0, 0)) (vK c.out) hg (Kd.R_ne HO_189002.out c.out (by decide))); replace l := Z (blk_grown (g := d) (o := .cells #[.int .i64 0, .int .i64 0, .slice none 0 0, .int .i64 0, .bool false, .bool false] 24 (0, 0)) (vK l.out) hg (Kd.R_ne HO_189002.out l.out (by decide))); replace s := Z (blk_grown (g := a) (o := .cells #[.int .i64 z, .int .i64 A, .slice (some ⟨X, 0, none⟩) q.length ay, .int .i64 F, .bool B, .bool C] 24 (0, 0)) (vK s.out) hg (Kd.R_ne HO_189002.out s.out (by decide))); replace HO_189002 := Z (hp_); replace HB := Z ((by rw [hw]; exact below_set (below_set (below_set (below_set (below_set (below_set (HB.out) aQ.out) aQ.out) aQ.out) aQ.out) aQ.out) aQ.out : Below w.heap.size w dH)); clear hg hw hp_; obtain ⟨eJ, eK, eL, eM, eN, eO, fH, fI, fJ, fK, fL, fM⟩ := cells6 s.out) | ((with_reducible refine gate_callee (f := 56) rfl ?_); refine goesL_ (some 61) rfl rfl Tryd.func56 (by kernel_rfl) rfl #[.agg #[.int .i64 z, .int .i64 A, .slice (some ⟨X, 0, none⟩) aA.length ay, .int .i64 F, .bool B, .bool C]] rfl (by (try simp only [List.map_toArray, List.map_cons, List.map_nil]); first | done | (rw [show aA.length = q.length from (Kd.R_reads' HO_189002.out).1.symm] <;> rfl) | rfl | (simp only [List.length_drop, List.length_take]; rfl)) ?_; (with_reducible refine (edit_onward.calls bk z A _ _ aA F B C az _ ?side1 ?side2 gv.out).mono ?_); (case side1 => repeat (first | exact (Kd.R_reads' HO_189002.out).2.2 | (with_reducible apply pC))); (case side2 => rw [show aA.length = q.length from (Kd.R_reads' HO_189002.out).1.symm]; exact (Kd.R_reads' HO_189002.out).2.1); rintro e hV ⟨rfl, hb⟩; refine ⟨_, rfl, ?_⟩; replace HO_173002 := vb' HO_173002 hb; replace HO_189002 := rb' HO_189002 hb; replace c := kb' c hb; replace l := kb' l hb; replace s := kb' s hb; replace HB := bs_ hb; clear hb; obtain ⟨eP, eQ, eR, eS, eT, eU, fN, fO, fP, fQ, fR, fS⟩ := cells6 s.out; obtain ⟨eV, eW, eX, eY, eZ, e0, fT, fU, fV, fW, fX, fY⟩ := cells6 l.out))
           refine bodyPost_ret (results_ct rfl _ _ d 24 #[.int .i64 z, .int .i64 A, .slice (some ⟨X, 0, none⟩) q.length ay, .int .i64 az, .bool B, .bool C] (0, 0) _ rfl (by (with_reducible repeat apply pK); refine blk_put (cs := #[.int .i64 z, .int .i64 A, .slice (some ⟨X, 0, none⟩) q.length ay, .int .i64 az, .bool B, .bool false]) ?_ 5 _ rfl; (with_reducible repeat apply pK); refine blk_put (cs := #[.int .i64 z, .int .i64 A, .slice (some ⟨X, 0, none⟩) q.length ay, .int .i64 az, .bool false, .bool false]) ?_ 4 _ rfl; (with_reducible repeat apply pK); refine blk_put (cs := #[.int .i64 z, .int .i64 A, .slice (some ⟨X, 0, none⟩) q.length ay, .int .i64 0, .bool false, .bool false]) ?_ 3 _ rfl; (with_reducible repeat apply pK); refine blk_put (cs := #[.int .i64 z, .int .i64 A, .slice none 0 0, .int .i64 0, .bool false, .bool false]) ?_ 2 _ rfl; (with_reducible repeat apply pK); refine blk_put (cs := #[.int .i64 z, .int .i64 0, .slice none 0 0, .int .i64 0, .bool false, .bool false]) ?_ 1 _ rfl; (with_reducible repeat apply pK); refine blk_put (cs := #[.int .i64 0, .int .i64 0, .slice none 0 0, .int .i64 0, .bool false, .bool false]) ?_ 0 _ rfl; (with_reducible repeat apply pK); refine blk_far ?_ am.out _; (with_reducible repeat apply pK); exact l.out) Tryd.underlying24 rfl (by kernel_rfl)) rfl ?_
           exact ⟨_, _, er_, Kd.V_mono (Kd.R_V (by (with_reducible repeat apply pR); exact Kd.R_mono (f6R d (Kd.R_far (p := ⟨a, 3, none⟩) (Kd.R_types (Kd.R_types HO_189002.out s.out (by decide)) l.out (by decide)) (fun _ hk => hk.1.2) (.int .i64 az)) (fun _ hk => hk.2)) (fun _ hk => hk.1.1))) (fun k_ hk => by first | exact ⟨(.inr (hk.1)), hk.2⟩ | exact (.inr (hk))), Kd.R_V (Kd.R_nil _ _ _ 0 _), bl_⟩
          ·rw [if_neg bt] at H
           exact absurd H (by simp)
         ·rw [if_neg bs] at H
          exact absurd H (by simp)
     ·have H1 : ((edit_Deny.f u x r b false y (some aR) aL).bind fun G => (some (G.1, G.2.1, G.2.2.1, G.2.2.2.1, G.2.2.2.2.1, G.2.2.2.2.2.1, G.2.2.2.2.2.2.1, G.2.2.2.2.2.2.2))) = some (r1, r2, r3, r4, r5, r6, r7, r8) := by rw [if_neg (show ¬ (some aR).isNone = true by simp)] at H; exact H
      clear H
      have H := H1
      clear H1
      try simp only [errW_none, errW_some]
      replace H := Option.bind_eq_some_iff.mp H
      obtain ⟨⟨aZ, a0, a2, a3, a4, a5, dF, dG⟩, c0, H⟩ := H
      replace H : (some (aZ, a0, a2, a3, a4, a5, dF, dG)) = some (r1, r2, r3, r4, r5, r6, r7, r8) := H
      have gw := Z c0
      clear c0
      simp only [Option.some.injEq, Prod.mk.injEq] at H
      obtain ⟨rfl, rfl, rfl, rfl, rfl, rfl, rfl, rfl⟩ := H
      have g4 := ak.out
      have hj := al.out
      obtain ⟨e1, e2, e3, e4, e5, e6, fZ, ga, gb, gc, gd, ge⟩ := cells6 c.out
      go_wp2_with (first | ((with_reducible refine gate_callee (f := 54) rfl ?_); refine goesL_ (some 25) rfl rfl Tryd.func54 (by kernel_rfl) rfl #[.agg #[.int .i64 u, .int .i64 x, .slice aa r.length ab, .int .i64 b, .bool false, .bool y], .int .u8 a1] rfl ag_ ?_; (with_reducible refine (edit_fits.calls ad u x _ _ r b false y a1 (some aR) aL _ ?side1 ?side2 dW.out).mono ?_); (case side1 => repeat (first | exact (Kd.V_reads' HO_173002.out).2.2 | (with_reducible apply pC))); (case side2 => exact (Kd.V_reads' HO_173002.out).2.1); rintro e hW ⟨bo, rfl, ai, hb⟩; refine ⟨_, rfl, ?_⟩; replace HO_173002 := vb' HO_173002 hb; have I := Z (Kd.V_lower (Kd.V_mono (ok' := fun k_ => (af k_ ∨ w.heap.size ≤ k_) ∧ k_ ≠ E ∧ k_ ≠ d) ai (fun k_ hk_ => ⟨(.inr (Nat.le_trans (below_size bl_) hk_)), (Kd.freshB (g := E) (o := .cells #[.int .i64 u, .int .i64 x, .slice aa r.length ab, .int .i64 b, .bool false, .bool y] 24 (0, 0)) (vK c.out) k_ hk_), (Kd.freshB (g := d) (o := .cells #[.int .i64 0, .int .i64 0, .slice none 0 0, .int .i64 0, .bool false, .bool false] 24 (0, 0)) (vK l.out) k_ hk_)⟩)) (below_size bl_)); replace c := kb' c hb; replace l := kb' l hb; replace HB := bs_ hb; clear hb ai; (try simp only [errW_none, errW_some]); obtain ⟨e7, e8, e9, fa, fb, fc, gf, gg, gh, gi, gj, gk⟩ := cells6 c.out; obtain ⟨d6, d7, eb⟩ := Kd.V_slice I.out; subst eb) | ((with_reducible refine gate_callee (f := 34) rfl ?_); refine goesL_ (some 30) rfl rfl Tryd.func34 (by kernel_rfl) rfl #[.agg #[.int .i64 u, .int .i64 x, .slice aa r.length ab, .int .i64 b, .bool false, .bool y], errW (.slice d6 aL.length d7) (some aR)] rfl ag_ ?_; (with_reducible refine (edit_Deny.calls u x _ _ r b false y (some aR) _ _ aL aZ a0 a2 a3 a4 a5 dF dG _ ?side1 ?side2 ?side3 ?side4 gw.out).mono ?_); (case side1 => repeat (first | exact (Kd.V_reads' HO_173002.out).2.2 | (with_reducible apply pC))); (case side2 => exact (Kd.V_reads' HO_173002.out).2.1); (case side3 => repeat (first | exact (Kd.V_reads' I.out).2.2 | (with_reducible apply pC))); (case side4 => exact (Kd.V_reads' I.out).2.1); rintro e hX ⟨ej, hE, rfl, ai, ba, hb⟩; refine ⟨_, rfl, ?_⟩; replace HO_173002 := Z (Kd.V_elder' (vV HO_173002.out) (Kd.R_base ai) hb); replace I := Z (Kd.V_elder' (vV I.out) (Kd.R_base ai) hb); have bq := Z (Kd.R_lower (Kd.R_newM (M := fun k_ => (w.heap.size ≤ k_)) (Kd.R_mono (ok' := fun k_ => True) ai (fun _ hk_ => trivial)) (below_size bl_) (fun k_ h_ => h_)) (below_size bl_)); have dM := Z (Kd.V_lower (Kd.V_mono (ok' := fun k_ => (af k_ ∨ w.heap.size ≤ k_) ∧ some k_ ≠ (ej : Value).ownBlock ∧ k_ ≠ E ∧ k_ ≠ d) ba (fun k_ hk_ => ⟨(.inr (Nat.le_trans (below_size bl_) hk_.1)), hk_.2, (Kd.freshB (g := E) (o := .cells #[.int .i64 u, .int .i64 x, .slice aa r.length ab, .int .i64 b, .bool false, .bool y] 24 (0, 0)) (vK c.out) k_ hk_.1), (Kd.freshB (g := d) (o := .cells #[.int .i64 0, .int .i64 0, .slice none 0 0, .int .i64 0, .bool false, .bool false] 24 (0, 0)) (vK l.out) k_ hk_.1)⟩)) (below_size bl_)); replace c := kb' c hb; replace l := kb' l hb; replace HB := bs_ hb; clear hb ai ba; (try simp only [errW_none, errW_some]); obtain ⟨fd, fe, ff, fg, fh, fi, gl, gm, gn, go, gp, gq⟩ := cells6 l.out; obtain ⟨bd, bj, ec⟩ := Kd.R_slice bq.out; subst ec))
      refine bodyPost_ret (results_ct rfl _ _ d 24 #[.int .i64 aZ, .int .i64 a0, .slice bd a2.length bj, .int .i64 a3, .bool a4, .bool a5] (0, 0) _ rfl (put6 l.out) Tryd.underlying24 rfl (by kernel_rfl)) rfl ?_
      exact ⟨_, _, er_, Kd.V_mono (Kd.R_V (by (with_reducible repeat apply pR); exact Kd.R_mono (f6R d (Kd.R_types bq.out l.out (by decide)) (fun _ hk => hk.2)) (fun _ hk => hk.1.1))) (fun k_ hk => by first | exact ⟨(.inr (hk.1)), hk.2⟩ | exact (.inr (hk))), by (with_reducible repeat apply pV); exact Kd.V_mono (f6V d (Kd.V_mono dM.out (fun k_ hk => (⟨hk, hk.2.2.2⟩ : _ ∧ k_ ≠ d))) (fun _ hk => hk.2)) (fun _ hk => hk.1.1), bl_⟩
theorem edit_Type.callsN (k : Nat) (u : Int) (x : Int) (af : Nat → Prop) (ad : Option Addr) (ae : Nat) (s : List (S35)) (b : Int) (ai : Bool) (y : Bool) (a1 : Int) (r1 : Int) (r2 : Int) (r3 : List (S35)) (r4 : Int) (r5 : Bool) (r6 : Bool) (r8 : List (S164)) (w : World) (cT : Kd.V k35 35 w w.heap.size (fun k_ => af k_) (.slice ad s.length ae) s) (h : edit_Type.f k u x s b ai y a1 = some (r1, r2, r3, r4, r5, r6, (none : Option Er), r8)) :
  Calls Tryd.prog 31 #[.agg #[.int .i64 u, .int .i64 x, .slice ad s.length ae, .int .i64 b, .bool ai, .bool y], .int .u8 a1] w fun e w' => ∃ cK df : Value, e = .returned (.tuple #[.agg #[.int .i64 r1, .int .i64 r2, cK, .int .i64 r4, .bool r5, .bool r6], errW df (none : Option Er)]) ∧ Kd.R k35 35 w' w.heap.size (fun k_ => (w.heap.size ≤ k_)) cK r3 ∧ Kd.V k164 164 w' w.heap.size (fun k_ => (af k_ ∨ w.heap.size ≤ k_) ∧ some k_ ≠ (cK : Value).ownBlock) df r8 ∧ Below w.heap.size w w' := by
 have gw := Tryd.underlying24
 have gy := Tryd.underlying35
 have gx := Tryd.underlying28
 have gz := Tryd.underlying52
 have ay := Z (show Kd.V k35 35 w w.heap.size (fun k_ => (af k_ ∨ w.heap.size ≤ k_)) (.slice ad s.length ae) s from Kd.V_mono cT (fun k_ hk => .inl hk))
 have HB := Z (Below.refl w.heap.size w)
 have H : (if a1 = 0 then (edit_Type.j0 k a1 true u x s b ai y) else ((attr_Char.f a1).bind fun aR => (edit_Type.j0 k a1 (!aR) u x s b ai y))) = some (r1, r2, r3, r4, r5, r6, (none : Option Er), r8) := h
 clear h
 have ce := Z H
 clear H
 go_enter Tryd.func31, Tryd.ntmps31
 go_upto_region 1 with (first | ((with_reducible refine gate_dst (N := 2) rfl ?_); refine bx_ 2 24 #[.int .i64 u, .int .i64 x, .slice ad s.length ae, .int .i64 b, .bool ai, .bool y] ?_; intro E hg w4 hbox hb; replace ay := Z (ve ay.out hg hb); have c := Z (hbox); have fR := Z (ln_ hg : w.heap.size ≤ E); have cM := fR; replace HB := bs_ hb; clear hb hbox hg) | ((with_reducible refine gate_dst (N := 4) rfl ?_); refine bx_ 4 24 #[.int .i64 0, .int .i64 0, .slice none 0 0, .int .i64 0, .bool false, .bool false] ?_; intro r hg w5 hbox hb; replace ay := Z (ve ay.out hg hb); have l := Z (hbox); have fS := Z (ln_ hg : w.heap.size ≤ r); have cN := fS; replace HB := bs_ hb; have az := nl' c hg; have aA := ng' c hg; replace c := kb' c hb; clear hb hbox hg))
 (try simp only [Act.put, sA, sB, sC])
 go_cut [8] (fun v8 wc => ∃ (kq : Nat) (a6 : Bool), v8 = .bool a6 ∧ Aside0 (edit_Type.j0 kq a1 a6 u x s b ai y = some (r1, r2, r3, r4, r5, r6, (none : Option Er), r8)) ∧ Aside0 (kq ≤ k) ∧ Aside0 (Kd.V k35 35 wc w.heap.size (fun k_ => (af k_ ∨ w.heap.size ≤ k_) ∧ k_ ≠ E ∧ k_ ≠ r) (.slice ad s.length ae) s) ∧ Aside0 (wc.heap[E]? = some (.cells #[.int .i64 u, .int .i64 x, (.slice ad s.length ae), .int .i64 b, .bool ai, .bool y] 24 (0, 0))) ∧ Aside0 (wc.heap[r]? = some (.cells #[.int .i64 0, .int .i64 0, (.slice none 0 0), .int .i64 0, .bool false, .bool false] 24 (0, 0))) ∧ Aside0 (Below w.heap.size w wc))
 case first =>
  have H := ce.out
  clear ce
  by_cases c6 : a1 = 0
  ·rw [if_pos c6] at H
   obtain ⟨aM, be⟩ := eT_ c6
   clear c6
   (first | rw [aM] | (simp only [i64_w, i32_w]; rw [aM]) | skip)
   have H' := Z H
   clear H
   go_wp2
   go_meet
   case rel => exact ⟨_, (true), (dn_), H', ⟨by first | omega | exact Nat.le_refl _⟩, ⟨by (with_reducible repeat apply pV); exact Kd.V_mono ay.out (fun _ hk => ⟨hk.1.1, ⟨hk.1.2, hk.2⟩⟩)⟩, ⟨vK c.out⟩, ⟨vK l.out⟩, ⟨bl_⟩⟩
  ·rw [if_neg c6] at H
   obtain ⟨aM, be⟩ := eF_ c6
   (first | rw [aM] | (simp only [i64_w, i32_w]; rw [aM]) | skip)
   replace H := Option.bind_eq_some_iff.mp H
   obtain ⟨aR, c4, H⟩ := H
   replace H : (edit_Type.j0 k a1 (!aR) u x s b ai y) = some (r1, r2, r3, r4, r5, r6, (none : Option Er), r8) := H
   have A7 := Z c4
   clear c4
   have H' := Z H
   clear H
   go_wp2_with (first | (go_at_call 53; (with_reducible refine (attr_Char.calls a1 aR _ A7.out).mono ?_); rintro e w' ⟨rfl, ⟨nd, rfl⟩⟩))
   go_meet
   case rel => exact ⟨_, (!aR), (dn_), H', ⟨by first | omega | exact Nat.le_refl _⟩, ⟨by (with_reducible repeat apply pV); exact Kd.V_mono ay.out (fun _ hk => ⟨hk.1.1, ⟨hk.1.2, hk.2⟩⟩)⟩, ⟨vK c.out⟩, ⟨vK l.out⟩, ⟨bl_⟩⟩
 case rest =>
  clear ce
  obtain ⟨kq, a6, rfl, HA, c7, HO_221002, c, l, HB⟩ := hcut
  cases kq with
  | zero => exact absurd HA.out (by simp [edit_Type.j0])
  | succ ab =>
   have H := HA.out
   clear HA
   simp only [edit_Type.j0] at H
   by_cases c8 : a6 = true
   ·subst c8
    have H1 : (some (u, x, s, b, ai, y, some (Er.num 3), ([] : List (S164)))) = some (r1, r2, r3, r4, r5, r6, (none : Option Er), r8) := by rw [if_pos rfl] at H; exact H
    clear H
    have H := H1
    clear H1
    exact absurd H (by simp)
   ·replace c8 := Bool.eq_false_iff.mpr c8
    subst c8
    have H1 : (if ai = true then (some (u, x, s, b, ai, y, some (Er.num 7), ([] : List (S164)))) else ((edit_fits.f ab u x s b ai y a1).bind fun aE => (if aE.1.isNone = true then ((edit_Modify.f u x s b ai y b).bind fun d => (if y = true then ((edit_Line.f ab u x s b ai y b).bind fun aj => ((edit_pushed.f ab d.1 d.2.1 d.2.2.1 d.2.2.2.1 d.2.2.2.2.1 d.2.2.2.2.2 aj).bind fun aa => (edit_Type.j1 ab a1 (!aa.1) u x s b ai y d.1 d.2.1 aa.2 d.2.2.2.1 d.2.2.2.2.1 d.2.2.2.2.2))) else (edit_Type.j1 ab a1 false u x s b ai y d.1 d.2.1 d.2.2.1 d.2.2.2.1 d.2.2.2.2.1 d.2.2.2.2.2))) else ((edit_Deny.f u x s b ai y (some (aE.1.getD ez)) aE.2).bind fun G => (some (G.1, G.2.1, G.2.2.1, G.2.2.2.1, G.2.2.2.2.1, G.2.2.2.2.2.1, G.2.2.2.2.2.2.1, G.2.2.2.2.2.2.2)))))) = some (r1, r2, r3, r4, r5, r6, (none : Option Er), r8) := by rw [if_neg (show ¬ (false = true) by decide)] at H; exact H
    clear H
    have H := H1
    clear H1
    by_cases c9 : ai = true
    ·subst c9
     have H1 : (some (u, x, s, b, true, y, some (Er.num 7), ([] : List (S164)))) = some (r1, r2, r3, r4, r5, r6, (none : Option Er), r8) := by rw [if_pos rfl] at H; exact H
     clear H
     have H := H1
     clear H1
     exact absurd H (by simp)
    ·replace c9 := Bool.eq_false_iff.mpr c9
     subst c9
     have H1 : ((edit_fits.f ab u x s b false y a1).bind fun aE => (if aE.1.isNone = true then ((edit_Modify.f u x s b false y b).bind fun d => (if y = true then ((edit_Line.f ab u x s b false y b).bind fun aj => ((edit_pushed.f ab d.1 d.2.1 d.2.2.1 d.2.2.2.1 d.2.2.2.2.1 d.2.2.2.2.2 aj).bind fun aa => (edit_Type.j1 ab a1 (!aa.1) u x s b false y d.1 d.2.1 aa.2 d.2.2.2.1 d.2.2.2.2.1 d.2.2.2.2.2))) else (edit_Type.j1 ab a1 false u x s b false y d.1 d.2.1 d.2.2.1 d.2.2.2.1 d.2.2.2.2.1 d.2.2.2.2.2))) else ((edit_Deny.f u x s b false y (some (aE.1.getD ez)) aE.2).bind fun G => (some (G.1, G.2.1, G.2.2.1, G.2.2.2.1, G.2.2.2.2.1, G.2.2.2.2.2.1, G.2.2.2.2.2.2.1, G.2.2.2.2.2.2.2))))) = some (r1, r2, r3, r4, r5, r6, (none : Option Er), r8) := by rw [if_neg (show ¬ (false = true) by decide)] at H; exact H
     clear H
     have H := H1
     clear H1
     replace H := Option.bind_eq_some_iff.mp H
     obtain ⟨⟨bj, aK⟩, b5, H⟩ := H
     replace H : (if bj.isNone = true then ((edit_Modify.f u x s b false y b).bind fun d => (if y = true then ((edit_Line.f ab u x s b false y b).bind fun aj => ((edit_pushed.f ab d.1 d.2.1 d.2.2.1 d.2.2.2.1 d.2.2.2.2.1 d.2.2.2.2.2 aj).bind fun aa => (edit_Type.j1 ab a1 (!aa.1) u x s b false y d.1 d.2.1 aa.2 d.2.2.2.1 d.2.2.2.2.1 d.2.2.2.2.2))) else (edit_Type.j1 ab a1 false u x s b false y d.1 d.2.1 d.2.2.1 d.2.2.2.1 d.2.2.2.2.1 d.2.2.2.2.2))) else ((edit_Deny.f u x s b false y (some (bj.getD ez)) aK).bind fun G => (some (G.1, G.2.1, G.2.2.1, G.2.2.2.1, G.2.2.2.2.1, G.2.2.2.2.2.1, G.2.2.2.2.2.2.1, G.2.2.2.2.2.2.2)))) = some (r1, r2, r3, r4, r5, r6, (none : Option Er), r8) := H
     have c0 := Z b5
     clear b5
     rcases bj with _ | aQ
     ·have H1 : ((edit_Modify.f u x s b false y b).bind fun d => (if y = true then ((edit_Line.f ab u x s b false y b).bind fun aj => ((edit_pushed.f ab d.1 d.2.1 d.2.2.1 d.2.2.2.1 d.2.2.2.2.1 d.2.2.2.2.2 aj).bind fun aa => (edit_Type.j1 ab a1 (!aa.1) u x s b false y d.1 d.2.1 aa.2 d.2.2.2.1 d.2.2.2.2.1 d.2.2.2.2.2))) else (edit_Type.j1 ab a1 false u x s b false y d.1 d.2.1 d.2.2.1 d.2.2.2.1 d.2.2.2.2.1 d.2.2.2.2.2))) = some (r1, r2, r3, r4, r5, r6, (none : Option Er), r8) := by rw [if_pos (show (none : Option Er).isNone = true by rfl)] at H; exact H
      clear H
      have H := H1
      clear H1
      try simp only [errW_none, errW_some]
      replace H := Option.bind_eq_some_iff.mp H
      obtain ⟨⟨z, A, D, F, B, C⟩, b6, H⟩ := H
      replace H : (if y = true then ((edit_Line.f ab u x s b false y b).bind fun aj => ((edit_pushed.f ab z A D F B C aj).bind fun aa => (edit_Type.j1 ab a1 (!aa.1) u x s b false y z A aa.2 F B C))) else (edit_Type.j1 ab a1 false u x s b false y z A D F B C)) = some (r1, r2, r3, r4, r5, r6, (none : Option Er), r8) := H
      have ft := Z b6
      clear b6
      have bc := Z H
      clear H
      have fW := az.out
      have gg := aA.out
      obtain ⟨bt, bu, bw, bx, bz, bA, bN, bO, bP, bQ, bR, bS⟩ := cells6 c.out
      go_upto_region 9 with (first | ((with_reducible refine gate_callee (f := 54) rfl ?_); refine goesL_ (some 25) rfl rfl Tryd.func54 (by kernel_rfl) rfl #[.agg #[.int .i64 u, .int .i64 x, .slice ad s.length ae, .int .i64 b, .bool false, .bool y], .int .u8 a1] rfl ag_ ?_; (with_reducible refine (edit_fits.calls ab u x _ _ s b false y a1 none aK _ ?side1 ?side2 c0.out).mono ?_); (case side1 => repeat (first | exact (Kd.V_reads' HO_221002.out).2.2 | (with_reducible apply pC))); (case side2 => exact (Kd.V_reads' HO_221002.out).2.1); rintro e gM ⟨bm, rfl, ah, hb⟩; refine ⟨_, rfl, ?_⟩; replace HO_221002 := vb' HO_221002 hb; have I := Z (Kd.V_lower (Kd.V_mono (ok' := fun k_ => (af k_ ∨ w.heap.size ≤ k_) ∧ k_ ≠ E ∧ k_ ≠ r) ah (fun k_ hk_ => ⟨(.inr (Nat.le_trans (below_size bl_) hk_)), (Kd.freshB (g := E) (o := .cells #[.int .i64 u, .int .i64 x, .slice ad s.length ae, .int .i64 b, .bool false, .bool y] 24 (0, 0)) (vK c.out) k_ hk_), (Kd.freshB (g := r) (o := .cells #[.int .i64 0, .int .i64 0, .slice none 0 0, .int .i64 0, .bool false, .bool false] 24 (0, 0)) (vK l.out) k_ hk_)⟩)) (below_size bl_)); replace c := kb' c hb; replace l := kb' l hb; replace HB := bs_ hb; clear hb ah; (try simp only [errW_none, errW_some]); obtain ⟨bB, bC, bD, bE, bF, bG, bT, bU, bV, bW, bX, bY⟩ := cells6 c.out) | ((with_reducible refine gate_callee (f := 36) rfl ?_); refine goesL_ (some 36) rfl rfl Tryd.func36 (by kernel_rfl) rfl #[.agg #[.int .i64 u, .int .i64 x, .slice ad s.length ae, .int .i64 b, .bool false, .bool y], .int .i64 b] rfl ag_ ?_; (with_reducible refine (edit_Modify.calls u x _ _ s b false y b z A D F B C _ ?side1 ?side2 ft.out).mono ?_); (case side1 => repeat (first | exact (Kd.V_reads' HO_221002.out).2.2 | (with_reducible apply pC))); (case side2 => exact (Kd.V_reads' HO_221002.out).2.1); rintro e gN ⟨gA, rfl, ah, hb⟩; refine ⟨_, rfl, ?_⟩; replace HO_221002 := Z (Kd.V_elder' (vV HO_221002.out) (Kd.R_base ah) hb); replace I := Z (Kd.V_elder' (vV I.out) (Kd.R_base ah) hb); have J := Z (Kd.R_lower (Kd.R_newM (M := fun k_ => (w.heap.size ≤ k_)) ah (below_size bl_) (fun k_ h_ => h_)) (below_size bl_)); replace c := kb' c hb; replace l := kb' l hb; replace HB := bs_ hb; clear hb ah) | ((with_reducible refine gate_dst (N := 7) rfl ?_); refine bx_ 7 24 #[.int .i64 0, .int .i64 0, .slice none 0 0, .int .i64 0, .bool false, .bool false] ?_; intro a hg am hbox hb; replace HO_221002 := Z (ve HO_221002.out hg hb); replace I := Z (ve I.out hg hb); replace J := rb' J hb; have q := Z (hbox); have fT := Z (ln_ hg : w.heap.size ≤ a); have cO := fT; replace HB := bs_ hb; have al := nl' c hg; have aI := ng' c hg; replace c := kb' c hb; have ak := nl' l hg; have aJ := ng' l hg; replace l := kb' l hb; clear hb hbox hg; have fX := aI.out; have gh := al.out; have fY := aJ.out; have gi := ak.out; obtain ⟨bH, bI, bJ, bK, bL, bM, bZ, b0, b1, b2, b3, b4⟩ := cells6 q.out; obtain ⟨L, O, di⟩ := Kd.R_slice J.out; subst di))
      (try simp only [Act.put, sA, sB, sC])
      go_cut [47] (fun fO wc => ∃ (kq : Nat) (aO : Bool) (ag : List (S35)) (m : List (S35)) (u221002 : Value) (u237002 : Value), fO = .bool aO ∧ Aside0 (edit_Type.j1 kq a1 aO u x ag b false y z A m F B C = some (r1, r2, r3, r4, r5, r6, (none : Option Er), r8)) ∧ Aside0 (kq ≤ ab) ∧ Aside0 (Kd.V k35 35 wc w.heap.size (fun k_ => (af k_ ∨ w.heap.size ≤ k_) ∧ some k_ ≠ (u237002 : Value).ownBlock ∧ k_ ≠ E ∧ k_ ≠ r ∧ k_ ≠ a) u221002 ag) ∧ Aside0 (Kd.R k35 35 wc w.heap.size (fun k_ => (w.heap.size ≤ k_)) u237002 m) ∧ Aside0 (wc.heap[E]? = some (.cells #[.int .i64 u, .int .i64 x, u221002, .int .i64 b, .bool false, .bool y] 24 (0, 0))) ∧ Aside0 (wc.heap[r]? = some (.cells #[.int .i64 0, .int .i64 0, (.slice none 0 0), .int .i64 0, .bool false, .bool false] 24 (0, 0))) ∧ Aside0 (wc.heap[a]? = some (.cells #[.int .i64 z, .int .i64 A, u237002, .int .i64 F, .bool B, .bool C] 24 (0, 0))) ∧ Aside0 (Below w.heap.size w wc))
      case first =>
       have H := bc.out
       clear bc
       by_cases a7 : y = true
       ·subst a7
        have H1 : ((edit_Line.f ab u x s b false true b).bind fun aj => ((edit_pushed.f ab z A D F B C aj).bind fun aa => (edit_Type.j1 ab a1 (!aa.1) u x s b false true z A aa.2 F B C))) = some (r1, r2, r3, r4, r5, r6, (none : Option Er), r8) := by rw [if_pos rfl] at H; exact H
        clear H
        have H := H1
        clear H1
        replace H := Option.bind_eq_some_iff.mp H
        obtain ⟨aj, b7, H⟩ := H
        replace H : ((edit_pushed.f ab z A D F B C aj).bind fun aa => (edit_Type.j1 ab a1 (!aa.1) u x s b false true z A aa.2 F B C)) = some (r1, r2, r3, r4, r5, r6, (none : Option Er), r8) := H
        have fu := Z b7
        clear b7
        replace H := Option.bind_eq_some_iff.mp H
        obtain ⟨⟨bk, bl⟩, b8, H⟩ := H
        replace H : (edit_Type.j1 ab a1 (!bk) u x s b false true z A bl F B C) = some (r1, r2, r3, r4, r5, r6, (none : Option Er), r8) := H
        have fv := Z b8
        clear b8
        have H' := Z H
        clear H
        try go_wp2
        have P : Aside0 (Kd.V k35 35 ((((((am.setCell ⟨a, 0, none⟩ (.int .i64 z)).setCell ⟨a, 1, none⟩ (.int .i64 A)).setCell ⟨a, 2, none⟩ (.slice L D.length O)).setCell ⟨a, 3, none⟩ (.int .i64 F)).setCell ⟨a, 4, none⟩ (.bool B)).setCell ⟨a, 5, none⟩ (.bool C)) w.heap.size (fun k_ => (af k_ ∨ w.heap.size ≤ k_) ∧ some k_ ≠ (.slice L D.length O : Value).ownBlock ∧ k_ ≠ E ∧ k_ ≠ r ∧ k_ ≠ a) (.slice ad s.length ae) s) := ⟨by (with_reducible repeat apply pV); exact Kd.V_mono (f6V a (Kd.V_mono HO_221002.out (fun k_ hk => (⟨hk, hk.2⟩ : _ ∧ k_ ≠ a))) (fun _ hk => hk.2)) (fun _ hk => ⟨hk.1.1.1.1, ⟨hk.1.1.2, ⟨hk.1.1.1.2.1, ⟨hk.1.1.1.2.2, hk.1.2⟩⟩⟩⟩)⟩
        have Q : Aside0 (Kd.V k164 164 ((((((am.setCell ⟨a, 0, none⟩ (.int .i64 z)).setCell ⟨a, 1, none⟩ (.int .i64 A)).setCell ⟨a, 2, none⟩ (.slice L D.length O)).setCell ⟨a, 3, none⟩ (.int .i64 F)).setCell ⟨a, 4, none⟩ (.bool B)).setCell ⟨a, 5, none⟩ (.bool C)) w.heap.size (fun k_ => (af k_ ∨ w.heap.size ≤ k_) ∧ some k_ ≠ (.slice L D.length O : Value).ownBlock ∧ k_ ≠ E ∧ k_ ≠ r ∧ k_ ≠ a) bm aK) := ⟨by (with_reducible repeat apply pV); exact Kd.V_mono (f6V a (Kd.V_mono I.out (fun k_ hk => (⟨hk, hk.2⟩ : _ ∧ k_ ≠ a))) (fun _ hk => hk.2)) (fun _ hk => ⟨hk.1.1.1.1, ⟨hk.1.1.2, ⟨hk.1.1.1.2.1, ⟨hk.1.1.1.2.2, hk.1.2⟩⟩⟩⟩)⟩
        have T : Aside0 (Kd.R k35 35 ((((((am.setCell ⟨a, 0, none⟩ (.int .i64 z)).setCell ⟨a, 1, none⟩ (.int .i64 A)).setCell ⟨a, 2, none⟩ (.slice L D.length O)).setCell ⟨a, 3, none⟩ (.int .i64 F)).setCell ⟨a, 4, none⟩ (.bool B)).setCell ⟨a, 5, none⟩ (.bool C)) w.heap.size (fun k_ => (w.heap.size ≤ k_)) (.slice L D.length O) D) := ⟨by (with_reducible repeat apply pR); exact Kd.R_mono (f6R a (Kd.R_types J.out q.out (by decide)) (fun _ hk => hk.2)) (fun _ hk => hk.1.1)⟩
        have U : Aside0 (((((((am.setCell ⟨a, 0, none⟩ (.int .i64 z)).setCell ⟨a, 1, none⟩ (.int .i64 A)).setCell ⟨a, 2, none⟩ (.slice L D.length O)).setCell ⟨a, 3, none⟩ (.int .i64 F)).setCell ⟨a, 4, none⟩ (.bool B)).setCell ⟨a, 5, none⟩ (.bool C)).heap[E]? = some (.cells #[.int .i64 u, .int .i64 x, .slice ad s.length ae, .int .i64 b, .bool false, .bool true] 24 (0, 0))) := ⟨blk_off c.out al.out off2_⟩
        have W : Aside0 (((((((am.setCell ⟨a, 0, none⟩ (.int .i64 z)).setCell ⟨a, 1, none⟩ (.int .i64 A)).setCell ⟨a, 2, none⟩ (.slice L D.length O)).setCell ⟨a, 3, none⟩ (.int .i64 F)).setCell ⟨a, 4, none⟩ (.bool B)).setCell ⟨a, 5, none⟩ (.bool C)).heap[r]? = some (.cells #[.int .i64 0, .int .i64 0, .slice none 0 0, .int .i64 0, .bool false, .bool false] 24 (0, 0))) := ⟨blk_off l.out ak.out off2_⟩
        have Y : Aside0 (((((((am.setCell ⟨a, 0, none⟩ (.int .i64 z)).setCell ⟨a, 1, none⟩ (.int .i64 A)).setCell ⟨a, 2, none⟩ (.slice L D.length O)).setCell ⟨a, 3, none⟩ (.int .i64 F)).setCell ⟨a, 4, none⟩ (.bool B)).setCell ⟨a, 5, none⟩ (.bool C)).heap[a]? = some (.cells #[.int .i64 z, .int .i64 A, .slice L D.length O, .int .i64 F, .bool B, .bool C] 24 (0, 0))) := ⟨put6 q.out⟩
        have ac : Aside0 (Below w.heap.size w ((((((am.setCell ⟨a, 0, none⟩ (.int .i64 z)).setCell ⟨a, 1, none⟩ (.int .i64 A)).setCell ⟨a, 2, none⟩ (.slice L D.length O)).setCell ⟨a, 3, none⟩ (.int .i64 F)).setCell ⟨a, 4, none⟩ (.bool B)).setCell ⟨a, 5, none⟩ (.bool C))) := ⟨bl_⟩
        clear HO_221002 I J c l q HB
        generalize ((((((am.setCell ⟨a, 0, none⟩ (.int .i64 z)).setCell ⟨a, 1, none⟩ (.int .i64 A)).setCell ⟨a, 2, none⟩ (.slice L D.length O)).setCell ⟨a, 3, none⟩ (.int .i64 F)).setCell ⟨a, 4, none⟩ (.bool B)).setCell ⟨a, 5, none⟩ (.bool C)) = fP at P Q T U W Y ac ⊢
        have HO_221002 := P
        have I := Q
        have J := T
        have c := U
        have l := W
        have q := Y
        have HB := ac
        clear P Q T U W Y ac
        replace HO_221002 := Z (Kd.V_drew HO_221002.out)
        replace I := Z (Kd.V_drew I.out)
        replace J := Z (Kd.R_drew J.out)
        replace c := Z (blk_drew c.out)
        replace l := Z (blk_drew l.out)
        replace q := Z (blk_drew q.out)
        replace HB := Z (below_drew1 HB.out)
        refine start_ (n := 11) (S := fun w' => w'.cell? ⟨E, 0, none⟩ = some (.int .i64 u) ∧ w'.cell? ⟨E, 1, none⟩ = some (.int .i64 x) ∧ w'.cell? ⟨E, 2, none⟩ = some (.slice ad s.length ae) ∧ w'.cell? ⟨E, 3, none⟩ = some (.int .i64 b) ∧ w'.cell? ⟨E, 4, none⟩ = some (.bool false) ∧ w'.cell? ⟨E, 5, none⟩ = some (.bool true) ∧ w'.cell? ⟨a, 0, none⟩ = some (.int .i64 z) ∧ w'.cell? ⟨a, 1, none⟩ = some (.int .i64 A) ∧ w'.cell? ⟨a, 2, none⟩ = some (.slice L D.length O) ∧ w'.cell? ⟨a, 3, none⟩ = some (.int .i64 F) ∧ w'.cell? ⟨a, 4, none⟩ = some (.bool B) ∧ w'.cell? ⟨a, 5, none⟩ = some (.bool C)) (ds := []) (bv 11 0) (by kernel_rfl) rfl rfl ⟨(blk_cell c.out 0).trans rfl, (blk_cell c.out 1).trans rfl, (blk_cell c.out 2).trans rfl, (blk_cell c.out 3).trans rfl, (blk_cell c.out 4).trans rfl, (blk_cell c.out 5).trans rfl, (blk_cell q.out 0).trans rfl, (blk_cell q.out 1).trans rfl, (blk_cell q.out 2).trans rfl, (blk_cell q.out 3).trans rfl, (blk_cell q.out 4).trans rfl, (blk_cell q.out 5).trans rfl⟩ (fun hHeld => ?_); refine with_tabW edit_Type.tab9 edit_Type.bits9 (fun HT_ HW_ => ?_)
        generalize fP.drew = gO at HO_221002 I J c l q HB hHeld ⊢
        refine pT_ HT_ 0 11 1 (some 37) ?_
        refine tT_ HT_ HW_ hHeld 1 11 3 (some 38) ?_
        refine pT_ HT_ 2 11 7 (some 39) ?_
        refine pT_ HT_ 5 11 39 (some 42) ?_
        refine tT_ HT_ HW_ hHeld 3 11 47 (some 40) ?_
        refine tT_ HT_ HW_ hHeld 4 11 63 (some 41) ?_
        refine tT_ HT_ HW_ hHeld 6 11 127 (some 43) ?_
        refine oT_ HT_ 7 11 255 (some 44) (fun K hK => ?_)
        refine goes_ Tryd.func26 (by kernel_rfl) rfl #[.agg #[.int .i64 u, .int .i64 x, .slice ad s.length ae, .int .i64 b, .bool false, .bool true], .int .i64 b] (by rfl) rfl rfl ag_ ?_
        with_reducible refine (edit_Line.calls ab u x _ _ s b false true b aj _ ?side1 ?side2 fu.out).mono ?_
        (case side1 => repeat (first | exact (Kd.V_reads' HO_221002.out).2.2 | (with_reducible apply pC)))
        (case side2 => exact (Kd.V_reads' HO_221002.out).2.1)
        rintro e gP ⟨gB, rfl, ah, hb⟩
        refine ⟨_, rfl, ?_⟩
        have P := Z (Kd.V_elder' (vV HO_221002.out) (Kd.Q_base ah) hb)
        have Q := Z (Kd.V_elder' (vV I.out) (Kd.Q_base ah) hb)
        have T := rb' J hb
        have U := Z (Kd.Q_lower (Kd.Q_newM (M := fun k_ => (w.heap.size ≤ k_)) ah (below_size bl_) (fun k_ h_ => h_)) (below_size bl_))
        have W := kb' c hb
        have Y := kb' l hb
        have ac := kb' q hb
        have aD := bs_ hb
        clear HO_221002
        clear I
        clear J
        clear c
        clear l
        clear q
        clear HB
        have HO_221002 := P
        have I := Q
        have J := T
        have aL := U
        have c := W
        have l := Y
        have q := ac
        have HB := aD
        clear P Q T U W Y ac aD
        clear hb ah
        obtain ⟨a9, bf, ci, _⟩ := Kd.Q_slice aL.out
        (first | subst ci | (injection ci with da fz db; have fA := da.symm; have fB := db.symm; clear da fz db; subst fA; subst fB))
        refine hK.out _ _ ⟨(blk_cell c.out 0).trans rfl, (blk_cell c.out 1).trans rfl, (blk_cell c.out 2).trans rfl, (blk_cell c.out 3).trans rfl, (blk_cell c.out 4).trans rfl, (blk_cell c.out 5).trans rfl, (blk_cell q.out 0).trans rfl, (blk_cell q.out 1).trans rfl, (blk_cell q.out 2).trans rfl, (blk_cell q.out 3).trans rfl, (blk_cell q.out 4).trans rfl, (blk_cell q.out 5).trans rfl⟩ (fun hHeld => ?_)
        clear hK K
        refine nA_ (some 44) ?_
        refine oT_ HT_ 8 11 511 (some 45) (fun K hK => ?_)
        refine goes_ Tryd.func55 (by kernel_rfl) rfl #[.agg #[.int .i64 z, .int .i64 A, .slice L D.length O, .int .i64 F, .bool B, .bool C], .slice a9 aj.length bf] (by rfl) rfl rfl ag_ ?_
        with_reducible refine (edit_pushed.calls ab z A (fun k_ => some k_ = (.slice L D.length O : Value).ownBlock) (.slice L D.length O) D F B C _ _ aj bk bl w _ ?side1 ?side2 ?side3 ?side4 fv.out).mono ?_
        (case side1 => repeat (first | (with_reducible first | exact HB.out | apply below_alloc | apply pw_below_drewN | apply below_drew1 | refine below_set ?_ cM.out | refine below_set ?_ cN.out | refine below_set ?_ cO.out) | exact HB.out))
        (case side2 => exact Kd.R_tight rfl J.out)
        (case side3 => exact Kd.C_kept_ownQ ((Kd.Q_apart' aL.out (Kd.R_typed J.out) (by decide))) (fun k_ hk_ hs_ => (hk_.2) hs_))
        (case side4 => exact (Kd.Q_reads' aL.out).2.1)
        rintro e gQ ⟨rfl, dc, hb, hkp⟩
        refine ⟨_, rfl, ?_⟩
        replace HO_221002 := Z (Kd.V_mono (ok' := fun k_ => (af k_ ∨ w.heap.size ≤ k_) ∧ some k_ ≠ (.slice L D.length O : Value).ownBlock ∧ some k_ ≠ (.slice a9 aj.length bf : Value).ownBlock ∧ k_ ≠ E ∧ k_ ≠ r ∧ k_ ≠ a) (Kd.V_keptB (HO_221002.out) hkp (fun k_ hk_ hs_ => (hk_.1.2.1) hs_)) (fun k_ hk_ => ⟨hk_.1.1.1, hk_.1.1.2.1, hk_.1.2, hk_.1.1.2.2.1, hk_.1.1.2.2.2.1, hk_.1.1.2.2.2.2⟩))
        replace c := Z (blk_kept (vK c.out) hkp (fun hs_ => (fun e_ => (Kd.R_ne J.out c.out (by decide)) e_) hs_))
        replace l := Z (blk_kept (vK l.out) hkp (fun hs_ => (fun e_ => (Kd.R_ne J.out l.out (by decide)) e_) hs_))
        replace I := Z (Kd.V_mono (ok' := fun k_ => (af k_ ∨ w.heap.size ≤ k_) ∧ some k_ ≠ (.slice L D.length O : Value).ownBlock ∧ some k_ ≠ (.slice a9 aj.length bf : Value).ownBlock ∧ k_ ≠ E ∧ k_ ≠ r ∧ k_ ≠ a) (Kd.V_keptB (I.out) hkp (fun k_ hk_ hs_ => (hk_.1.2.1) hs_)) (fun k_ hk_ => ⟨hk_.1.1.1, hk_.1.1.2.1, hk_.1.2, hk_.1.1.2.2.1, hk_.1.1.2.2.2.1, hk_.1.1.2.2.2.2⟩))
        replace q := Z (blk_kept (vK q.out) hkp (fun hs_ => (fun e_ => (Kd.R_ne J.out q.out (by decide)) e_) hs_))
        replace aL := Z (Kd.Q_mono (ok' := fun k_ => (w.heap.size ≤ k_)) (Kd.Q_keptB ((Kd.Q_apart' aL.out (Kd.R_typed J.out) (by decide))) hkp (fun k_ hk_ hs_ => (hk_.2) hs_)) (fun k_ hk_ => hk_.1.1.1))
        replace J := Z (Kd.R_reok rfl dc (fun k_ e_ => J.out.1 k_ e_))
        replace HB := Z (hb)
        clear hb hkp dc
        refine hK.out _ _ ⟨(blk_cell c.out 0).trans rfl, (blk_cell c.out 1).trans rfl, (blk_cell c.out 2).trans rfl, (blk_cell c.out 3).trans rfl, (blk_cell c.out 4).trans rfl, (blk_cell c.out 5).trans rfl, (blk_cell q.out 0).trans rfl, (blk_cell q.out 1).trans rfl, (blk_cell q.out 2).trans rfl, (blk_cell q.out 3).trans rfl, (blk_cell q.out 4).trans rfl, (blk_cell q.out 5).trans rfl⟩ (fun hHeld => ?_)
        clear hK K
        refine nA_ (some 45) ?_
        refine pT_ HT_ 9 11 1023 (some 46) ?_
        refine pT_ HT_ 10 11 2047 (some 47) ?_
        refine done_ (done_of HT_.out (by kernel_rfl)) ?_
        try go_wp2
        go_meet
        case rel => exact ⟨_, (!bk), (s), (bl), (.slice ad s.length ae), (.slice L D.length O), (dn_), H', ⟨by have := c7.out; first | omega | exact Nat.le_refl _⟩, ⟨by (with_reducible repeat apply pV); exact Kd.V_mono HO_221002.out (fun _ hk => ⟨hk.1, ⟨hk.2.1, ⟨hk.2.2.2.1, ⟨hk.2.2.2.2.1, hk.2.2.2.2.2⟩⟩⟩⟩)⟩, ⟨by (with_reducible repeat apply pR); exact J.out⟩, ⟨vK c.out⟩, ⟨vK l.out⟩, ⟨vK q.out⟩, ⟨bl_⟩⟩
       ·replace a7 := Bool.eq_false_iff.mpr a7
        subst a7
        have H1 : (edit_Type.j1 ab a1 false u x s b false false z A D F B C) = some (r1, r2, r3, r4, r5, r6, (none : Option Er), r8) := by rw [if_neg (show ¬ (false = true) by decide)] at H; exact H
        clear H
        have H := H1
        clear H1
        have H' := Z H
        clear H
        try go_wp2
        have P : Aside0 (Kd.V k35 35 ((((((am.setCell ⟨a, 0, none⟩ (.int .i64 z)).setCell ⟨a, 1, none⟩ (.int .i64 A)).setCell ⟨a, 2, none⟩ (.slice L D.length O)).setCell ⟨a, 3, none⟩ (.int .i64 F)).setCell ⟨a, 4, none⟩ (.bool B)).setCell ⟨a, 5, none⟩ (.bool C)) w.heap.size (fun k_ => (af k_ ∨ w.heap.size ≤ k_) ∧ some k_ ≠ (.slice L D.length O : Value).ownBlock ∧ k_ ≠ E ∧ k_ ≠ r ∧ k_ ≠ a) (.slice ad s.length ae) s) := ⟨by (with_reducible repeat apply pV); exact Kd.V_mono (f6V a (Kd.V_mono HO_221002.out (fun k_ hk => (⟨hk, hk.2⟩ : _ ∧ k_ ≠ a))) (fun _ hk => hk.2)) (fun _ hk => ⟨hk.1.1.1.1, ⟨hk.1.1.2, ⟨hk.1.1.1.2.1, ⟨hk.1.1.1.2.2, hk.1.2⟩⟩⟩⟩)⟩
        have Q : Aside0 (Kd.V k164 164 ((((((am.setCell ⟨a, 0, none⟩ (.int .i64 z)).setCell ⟨a, 1, none⟩ (.int .i64 A)).setCell ⟨a, 2, none⟩ (.slice L D.length O)).setCell ⟨a, 3, none⟩ (.int .i64 F)).setCell ⟨a, 4, none⟩ (.bool B)).setCell ⟨a, 5, none⟩ (.bool C)) w.heap.size (fun k_ => (af k_ ∨ w.heap.size ≤ k_) ∧ some k_ ≠ (.slice L D.length O : Value).ownBlock ∧ k_ ≠ E ∧ k_ ≠ r ∧ k_ ≠ a) bm aK) := ⟨by (with_reducible repeat apply pV); exact Kd.V_mono (f6V a (Kd.V_mono I.out (fun k_ hk => (⟨hk, hk.2⟩ : _ ∧ k_ ≠ a))) (fun _ hk => hk.2)) (fun _ hk => ⟨hk.1.1.1.1, ⟨hk.1.1.2, ⟨hk.1.1.1.2.1, ⟨hk.1.1.1.2.2, hk.1.2⟩⟩⟩⟩)⟩
        have T : Aside0 (Kd.R k35 35 ((((((am.setCell ⟨a, 0, none⟩ (.int .i64 z)).setCell ⟨a, 1, none⟩ (.int .i64 A)).setCell ⟨a, 2, none⟩ (.slice L D.length O)).setCell ⟨a, 3, none⟩ (.int .i64 F)).setCell ⟨a, 4, none⟩ (.bool B)).setCell ⟨a, 5, none⟩ (.bool C)) w.heap.size (fun k_ => (w.heap.size ≤ k_)) (.slice L D.length O) D) := ⟨by (with_reducible repeat apply pR); exact Kd.R_mono (f6R a (Kd.R_types J.out q.out (by decide)) (fun _ hk => hk.2)) (fun _ hk => hk.1.1)⟩
        have U : Aside0 (((((((am.setCell ⟨a, 0, none⟩ (.int .i64 z)).setCell ⟨a, 1, none⟩ (.int .i64 A)).setCell ⟨a, 2, none⟩ (.slice L D.length O)).setCell ⟨a, 3, none⟩ (.int .i64 F)).setCell ⟨a, 4, none⟩ (.bool B)).setCell ⟨a, 5, none⟩ (.bool C)).heap[E]? = some (.cells #[.int .i64 u, .int .i64 x, .slice ad s.length ae, .int .i64 b, .bool false, .bool false] 24 (0, 0))) := ⟨blk_off c.out al.out off2_⟩
        have W : Aside0 (((((((am.setCell ⟨a, 0, none⟩ (.int .i64 z)).setCell ⟨a, 1, none⟩ (.int .i64 A)).setCell ⟨a, 2, none⟩ (.slice L D.length O)).setCell ⟨a, 3, none⟩ (.int .i64 F)).setCell ⟨a, 4, none⟩ (.bool B)).setCell ⟨a, 5, none⟩ (.bool C)).heap[r]? = some (.cells #[.int .i64 0, .int .i64 0, .slice none 0 0, .int .i64 0, .bool false, .bool false] 24 (0, 0))) := ⟨blk_off l.out ak.out off2_⟩
        have Y : Aside0 (((((((am.setCell ⟨a, 0, none⟩ (.int .i64 z)).setCell ⟨a, 1, none⟩ (.int .i64 A)).setCell ⟨a, 2, none⟩ (.slice L D.length O)).setCell ⟨a, 3, none⟩ (.int .i64 F)).setCell ⟨a, 4, none⟩ (.bool B)).setCell ⟨a, 5, none⟩ (.bool C)).heap[a]? = some (.cells #[.int .i64 z, .int .i64 A, .slice L D.length O, .int .i64 F, .bool B, .bool C] 24 (0, 0))) := ⟨put6 q.out⟩
        have ac : Aside0 (Below w.heap.size w ((((((am.setCell ⟨a, 0, none⟩ (.int .i64 z)).setCell ⟨a, 1, none⟩ (.int .i64 A)).setCell ⟨a, 2, none⟩ (.slice L D.length O)).setCell ⟨a, 3, none⟩ (.int .i64 F)).setCell ⟨a, 4, none⟩ (.bool B)).setCell ⟨a, 5, none⟩ (.bool C))) := ⟨bl_⟩
        clear HO_221002 I J c l q HB
        generalize ((((((am.setCell ⟨a, 0, none⟩ (.int .i64 z)).setCell ⟨a, 1, none⟩ (.int .i64 A)).setCell ⟨a, 2, none⟩ (.slice L D.length O)).setCell ⟨a, 3, none⟩ (.int .i64 F)).setCell ⟨a, 4, none⟩ (.bool B)).setCell ⟨a, 5, none⟩ (.bool C)) = fQ at P Q T U W Y ac ⊢
        have HO_221002 := P
        have I := Q
        have J := T
        have c := U
        have l := W
        have q := Y
        have HB := ac
        clear P Q T U W Y ac
        replace HO_221002 := Z (Kd.V_drew HO_221002.out)
        replace I := Z (Kd.V_drew I.out)
        replace J := Z (Kd.R_drew J.out)
        replace c := Z (blk_drew c.out)
        replace l := Z (blk_drew l.out)
        replace q := Z (blk_drew q.out)
        replace HB := Z (below_drew1 HB.out)
        refine start_ (n := 11) (S := fun w' => w'.cell? ⟨E, 0, none⟩ = some (.int .i64 u) ∧ w'.cell? ⟨E, 1, none⟩ = some (.int .i64 x) ∧ w'.cell? ⟨E, 2, none⟩ = some (.slice ad s.length ae) ∧ w'.cell? ⟨E, 3, none⟩ = some (.int .i64 b) ∧ w'.cell? ⟨E, 4, none⟩ = some (.bool false) ∧ w'.cell? ⟨E, 5, none⟩ = some (.bool false)) (ds := []) (bv 11 0) (by kernel_rfl) rfl rfl ⟨(blk_cell c.out 0).trans rfl, (blk_cell c.out 1).trans rfl, (blk_cell c.out 2).trans rfl, (blk_cell c.out 3).trans rfl, (blk_cell c.out 4).trans rfl, (blk_cell c.out 5).trans rfl⟩ (fun hHeld => ?_); refine with_tabW edit_Type.tab9 edit_Type.bits9 (fun HT_ HW_ => ?_)
        generalize fQ.drew = gR at HO_221002 I J c l q HB hHeld ⊢
        refine pT_ HT_ 0 11 1 (some 37) ?_
        refine tT_ HT_ HW_ hHeld 1 11 3 (some 38) ?_
        refine pT_ HT_ 2 11 7 (some 39) ?_
        refine pU_ HT_ 3 11 15 (some 40) ?_
        refine pU_ HT_ 4 11 31 (some 41) ?_
        refine pU_ HT_ 5 11 63 (some 42) ?_
        refine pU_ HT_ 6 11 127 (some 43) ?_
        refine pU_ HT_ 7 11 255 (some 44) ?_
        refine pU_ HT_ 8 11 511 (some 45) ?_
        refine pU_ HT_ 9 11 1023 (some 46) ?_
        refine pT_ HT_ 10 11 2047 (some 47) ?_
        refine done_ (done_of HT_.out (by kernel_rfl)) ?_
        try go_wp2
        go_meet
        case rel => exact ⟨_, (false), (s), (D), (.slice ad s.length ae), (.slice L D.length O), (dn_), H', ⟨by have := c7.out; first | omega | exact Nat.le_refl _⟩, ⟨vV HO_221002.out⟩, ⟨by (with_reducible repeat apply pR); exact J.out⟩, ⟨vK c.out⟩, ⟨vK l.out⟩, ⟨vK q.out⟩, ⟨bl_⟩⟩
      case rest =>
       clear bc
       clear bt bu bw bx bz bA bB bC bD bE bF bG bH bI bJ bK bL bM bN bO bP bQ bR bS bT bU bV bW bX bY bZ b0 b1 b2 b3 b4
       obtain ⟨kq, aO, ag, m, u221002, u237002, rfl, HA, gs, HO_221002, HO_237002, c, l, q, HB⟩ := hcut
       cases kq with
       | zero => exact absurd HA.out (by simp [edit_Type.j1])
       | succ bi =>
        have H := HA.out
        clear HA
        simp only [edit_Type.j1] at H
        by_cases bp : aO = true
        ·subst bp
         have H1 : ((edit_Deny.f u x ag b false y (some (Er.num 10)) ([] : List (S164))).bind fun aB => (some (aB.1, aB.2.1, aB.2.2.1, aB.2.2.2.1, aB.2.2.2.2.1, aB.2.2.2.2.2.1, aB.2.2.2.2.2.2.1, aB.2.2.2.2.2.2.2))) = some (r1, r2, r3, r4, r5, r6, (none : Option Er), r8) := by rw [if_pos rfl] at H; exact H
         clear H
         have H := H1
         clear H1
         replace H := Option.bind_eq_some_iff.mp H
         obtain ⟨⟨aS, aT, aU, aV, aW, aX, cG, cH⟩, b9, H⟩ := H
         replace H : (some (aS, aT, aU, aV, aW, aX, cG, cH)) = some (r1, r2, r3, r4, r5, r6, (none : Option Er), r8) := H
         have fw := Z b9
         clear b9
         rcases cG with _ | q35
         ·try simp only [errW_none, errW_some]
          simp only [Option.some.injEq, Prod.mk.injEq] at H
          (first | obtain ⟨rfl, rfl, rfl, rfl, rfl, rfl, _, rfl⟩ := H | obtain ⟨rfl, rfl, rfl, rfl, rfl, rfl, rfl⟩ := H)
          have fZ := az.out
          have gj := aA.out
          have ga := al.out
          have gk := aI.out
          obtain ⟨dw, dx, dy, dz, dA, dB, eu, ev, ew, ex, ey, eA⟩ := cells6 c.out
          obtain ⟨cc, ch, dj⟩ := Kd.V_slice HO_221002.out
          subst dj
          go_wp2_with (first | ((with_reducible refine gate_callee (f := 34) rfl ?_); refine goesL_ (some 50) rfl rfl Tryd.func34 (by kernel_rfl) rfl #[.agg #[.int .i64 u, .int .i64 x, .slice cc ag.length ch, .int .i64 b, .bool false, .bool y], errW (.slice none 0 0) (some (Er.num 10))] rfl ag_ ?_; (refine (edit_Deny.calls u x _ _ ag b false y (some (Er.num 10)) _ _ ([] : List (S164)) aS aT aU aV aW aX none cH _ ?side1 ?side2 ?side3 ?side4 fw.out).mono ?_); (case side1 => repeat (first | exact (Kd.V_reads' HO_221002.out).2.2 | (with_reducible apply pC))); (case side2 => exact (Kd.V_reads' HO_221002.out).2.1); (case side3 => exact Kd.C_nil _ _); (case side4 => exact Nat.le_refl _); rintro e gS ⟨du, gC, rfl, ah, a8, hb⟩; refine ⟨_, rfl, ?_⟩; replace HO_221002 := Z (Kd.V_elder' (vV HO_221002.out) (Kd.R_base ah) hb); have bn := Z (Kd.R_lower (Kd.R_new' (Kd.R_newM (M := fun k_ => (w.heap.size ≤ k_)) (Kd.R_mono (ok' := fun k_ => True) ah (fun _ hk_ => trivial)) (below_size bl_) (fun k_ h_ => h_)) (Kd.R_lt (by (with_reducible repeat apply pR); exact HO_237002.out))) (below_size bl_)); have cP := Z (Kd.V_lower (Kd.V_mono (ok' := fun k_ => (af k_ ∨ w.heap.size ≤ k_) ∧ some k_ ≠ (du : Value).ownBlock ∧ some k_ ≠ (u237002 : Value).ownBlock ∧ k_ ≠ E ∧ k_ ≠ r ∧ k_ ≠ a) a8 (fun k_ hk_ => ⟨(.inr (Nat.le_trans (below_size bl_) hk_.1)), hk_.2, (Kd.fresh' (Kd.R_lt (by (with_reducible repeat apply pR); exact HO_237002.out)) k_ hk_.1), (Kd.freshB (g := E) (o := .cells #[.int .i64 u, .int .i64 x, .slice cc ag.length ch, .int .i64 b, .bool false, .bool y] 24 (0, 0)) (vK c.out) k_ hk_.1), (Kd.freshB (g := r) (o := .cells #[.int .i64 0, .int .i64 0, .slice none 0 0, .int .i64 0, .bool false, .bool false] 24 (0, 0)) (vK l.out) k_ hk_.1), (Kd.freshB (g := a) (o := .cells #[.int .i64 z, .int .i64 A, u237002, .int .i64 F, .bool B, .bool C] 24 (0, 0)) (vK q.out) k_ hk_.1)⟩)) (below_size bl_)); replace HO_237002 := Z (Kd.R_elder' (by (with_reducible repeat apply pR); exact HO_237002.out) (Kd.R_base ah) hb); replace c := kb' c hb; replace l := kb' l hb; replace q := kb' q hb; replace HB := bs_ hb; clear hb ah a8; (try simp only [errW_none, errW_some]); have gb := ak.out; have gl := aJ.out; obtain ⟨dC, dD, dE, dF, dG, dH, eB, eC, eD, eE, eF, eG⟩ := cells6 l.out; obtain ⟨ba, bg, dk⟩ := Kd.R_slice bn.out; subst dk))
          refine bodyPost_ret (results_ct rfl _ _ r 24 #[.int .i64 aS, .int .i64 aT, .slice ba aU.length bg, .int .i64 aV, .bool aW, .bool aX] (0, 0) _ rfl (put6 l.out) Tryd.underlying24 rfl (by kernel_rfl)) rfl ?_
          exact ⟨_, _, er_, by (with_reducible repeat apply pR); exact Kd.R_mono (f6R r (Kd.R_types bn.out l.out (by decide)) (fun _ hk => hk.2)) (fun _ hk => hk.1.1.1), by (with_reducible repeat apply pV); exact Kd.V_mono (f6V r (Kd.V_mono cP.out (fun k_ hk => (⟨hk, hk.2.2.2.2.1⟩ : _ ∧ k_ ≠ r))) (fun _ hk => hk.2)) (fun _ hk => ⟨hk.1.1, hk.1.2.1⟩), bl_⟩
         ·exact absurd H (by simp)
        ·replace bp := Bool.eq_false_iff.mpr bp
         subst bp
         have H1 : (if 0 ≤ b then (if b < (m.length : Int) then ((some (m.set (b : Int).toNat (⟨false, (⟨false, false, 0, false⟩ : S33), a1⟩ : S35) : List (S35))).bind fun ax => ((edit_onward.f bi z A ax F B C).bind fun aw => (some (z, A, ax, aw, B, C, none, ([] : List (S164)))))) else (none)) else (none)) = some (r1, r2, r3, r4, r5, r6, (none : Option Er), r8) := by rw [if_neg (show ¬ (false = true) by decide)] at H; exact H
         clear H
         have H := H1
         clear H1
         by_cases bq : 0 ≤ b
         ·rw [if_pos bq] at H
          have fU : decide (0 ≤ b) = true := decide_eq_true bq
          clear bq
          by_cases br : b < (m.length : Int)
          ·rw [if_pos br] at H
           have fV : decide (b < (m.length : Int)) = true := decide_eq_true br
           clear br
           obtain ⟨ax, aN⟩ : ∃ y_ : List (S35), y_ = (m.set (b : Int).toNat (⟨false, (⟨false, false, 0, false⟩ : S33), a1⟩ : S35)) := ⟨_, rfl⟩
           replace H : ((edit_onward.f bi z A ax F B C).bind fun aw => (some (z, A, ax, aw, B, C, none, ([] : List (S164))))) = some (r1, r2, r3, r4, r5, r6, (none : Option Er), r8) := by first | (rw [aN]; with_reducible exact H) | (have cd := (Option.bind_some _ _).symm.trans H; rw [aN]; with_reducible exact cd) | (have cd := (Option.bind_some _ _).symm.trans H; with_reducible exact cd) | with_reducible exact H | (rw [aN]; exact H) | exact H
           have cR := Z aN
           clear aN
           replace H := Option.bind_eq_some_iff.mp H
           obtain ⟨aw, ca, H⟩ := H
           replace H : (some (z, A, ax, aw, B, C, none, ([] : List (S164)))) = some (r1, r2, r3, r4, r5, r6, (none : Option Er), r8) := H
           have fx := Z ca
           clear ca
           simp only [Option.some.injEq, Prod.mk.injEq] at H
           (first | obtain ⟨rfl, rfl, rfl, rfl, rfl, rfl, _, rfl⟩ := H | obtain ⟨rfl, rfl, rfl, rfl, rfl, rfl, rfl⟩ := H)
           have gc := aI.out
           have gm := al.out
           have gd := aJ.out
           have gn := ak.out
           obtain ⟨dI, dJ, dK, dL, dM, dN, eH, eI, eJ, eK, eL, eM⟩ := cells6 q.out
           have ge := az.out
           have go := aA.out
           obtain ⟨dO, dP, dQ, dR, dS, dT, eN, eO, eP, eQ, eR, eS⟩ := cells6 c.out
           have p46 : 0 ≤ (b : Int) := od_
           have cD : (b : Int) < ((m.length : Int) : Int) := od_
           obtain ⟨X, av, cj, ck, dn, gv, cf⟩ := Kd.R_form HO_237002.out (by omega)
           (first | cases cj | (injection cj with ea_ en_ ec_; (first | subst ea_ | (injection ea_ with ea_; subst ea_)); subst ec_; clear en_))
           have aP := Z ck
           have gr := Z cf
           clear ck dn cf
           obtain ⟨gt, cS, cl, aF, aG⟩ := Kd.R_elem HO_237002.out z35 (b : Int) p46 cD
           obtain rfl := k35_openM cl
           have fI : wc.cell? ⟨X, (b : Int).toNat * 6, none⟩ = some (.bool ((rd_T35 m b).f0)) := aF 0 _ rfl
           have fJ : wc.cell? ⟨X, (b : Int).toNat * 6 + 1, none⟩ = some (.bool ((rd_T35 m b).f1.f0)) := aF 1 _ rfl
           have fK : wc.cell? ⟨X, (b : Int).toNat * 6 + 2, none⟩ = some (.bool ((rd_T35 m b).f1.f1)) := aF 2 _ rfl
           have fL : wc.cell? ⟨X, (b : Int).toNat * 6 + 3, none⟩ = some (.int .i64 ((rd_T35 m b).f1.f2)) := aF 3 _ rfl
           have fM : wc.cell? ⟨X, (b : Int).toNat * 6 + 4, none⟩ = some (.bool ((rd_T35 m b).f1.f3)) := aF 4 _ rfl
           have fN : wc.cell? ⟨X, (b : Int).toNat * 6 + 5, none⟩ = some (.int .u8 ((rd_T35 m b).f2)) := aF 5 _ rfl
           have fC : wc.frozen? ⟨X, (b : Int).toNat * 6, none⟩ = false := aG 0
           have fD : wc.frozen? ⟨X, (b : Int).toNat * 6 + 1, none⟩ = false := aG 1
           have fE : wc.frozen? ⟨X, (b : Int).toNat * 6 + 2, none⟩ = false := aG 2
           have fF : wc.frozen? ⟨X, (b : Int).toNat * 6 + 3, none⟩ = false := aG 3
           have fG : wc.frozen? ⟨X, (b : Int).toNat * 6 + 4, none⟩ = false := aG 4
           have fH : wc.frozen? ⟨X, (b : Int).toNat * 6 + 5, none⟩ = false := aG 5
           clear cS aF aG cl
           replace p46 := eq_true p46
           replace cD := eq_true cD
           have cg := Z (show Kd.R k35 35 wc w.heap.size (fun k_ => (w.heap.size ≤ k_)) (.slice (some ⟨X, 0, none⟩) m.length av) m from (by (with_reducible repeat apply pR); exact HO_237002.out))
           obtain ⟨gu, bs, cm, aC, aH⟩ := Kd.R_elem cg.out z35 (b : Int) (od_) (by have h_ : (b : Int) < ((m.length : Int) : Int) := od_; first | exact h_ | (have e_ := (Kd.R_reads' HO_237002.out).1; omega) | simpa using h_)
           obtain rfl := k35_openM cm
           have bd := Kd.R_seg cg.out (b : Int) (od_) (by have h_ : (b : Int) < ((m.length : Int) : Int) := od_; first | exact h_ | (have e_ := (Kd.R_reads' HO_237002.out).1; omega) | simpa using h_) (seg := [.bool false, .bool false, .bool false, .int .i64 0, .bool false, .int .u8 a1]) (j := 0) bs aC (show 6 ≤ 6 from by decide) (x' := (⟨false, (⟨false, false, 0, false⟩ : S33), a1⟩ : S35)) (k35_mkM _ _ _ (⟨false, (⟨false, false, 0, false⟩ : S33), a1⟩ : S35) ) (fun _ hk => hk)
           have cu := aC 0 _ rfl
           (try simp only [show (k35).sz = 6 from rfl, Nat.mul_one, Nat.add_zero] at cu)
           have cn := aH 0
           (try simp only [show (k35).sz = 6 from rfl, Nat.mul_one, Nat.add_zero] at cn)
           have cv := aC 1 _ rfl
           (try simp only [show (k35).sz = 6 from rfl, Nat.mul_one, Nat.add_zero] at cv)
           have co := aH 1
           (try simp only [show (k35).sz = 6 from rfl, Nat.mul_one, Nat.add_zero] at co)
           have cw := aC 2 _ rfl
           (try simp only [show (k35).sz = 6 from rfl, Nat.mul_one, Nat.add_zero] at cw)
           have cp := aH 2
           (try simp only [show (k35).sz = 6 from rfl, Nat.mul_one, Nat.add_zero] at cp)
           have cx := aC 3 _ rfl
           (try simp only [show (k35).sz = 6 from rfl, Nat.mul_one, Nat.add_zero] at cx)
           have cq := aH 3
           (try simp only [show (k35).sz = 6 from rfl, Nat.mul_one, Nat.add_zero] at cq)
           have cy := aC 4 _ rfl
           (try simp only [show (k35).sz = 6 from rfl, Nat.mul_one, Nat.add_zero] at cy)
           have cr := aH 4
           (try simp only [show (k35).sz = 6 from rfl, Nat.mul_one, Nat.add_zero] at cr)
           have cz := aC 5 _ rfl
           (try simp only [show (k35).sz = 6 from rfl, Nat.mul_one, Nat.add_zero] at cz)
           have ct := aH 5
           (try simp only [show (k35).sz = 6 from rfl, Nat.mul_one, Nat.add_zero] at ct)
           clear bs aC aH cm
           go_wp2_with (first | ((with_reducible refine gate_store (t := 35) (p := 59) rfl ?_); refine sx_ 35 59 ((((((wc.setCell ⟨X, (b : Int).toNat * 6, none⟩ (.bool false)).setCell ⟨X, (b : Int).toNat * 6 + 1, none⟩ (.bool false)).setCell ⟨X, (b : Int).toNat * 6 + 2, none⟩ (.bool false)).setCell ⟨X, (b : Int).toNat * 6 + 3, none⟩ (.int .i64 0)).setCell ⟨X, (b : Int).toNat * 6 + 4, none⟩ (.bool false)).setCell ⟨X, (b : Int).toNat * 6 + 5, none⟩ (.int .u8 a1)) ?_; intro cL hw; have hg : wc.grownBy cL (some X) := (by rw [hw]; exact bd.2); have hp_ : Kd.R k35 35 cL w.heap.size (fun k_ => (w.heap.size ≤ k_)) (.slice (some ⟨X, 0, none⟩) m.length av) ax := (by rw [hw, cR.out]; exact bd.1); clear bd; replace HO_221002 := Z (Kd.V_afterv (v := (.slice (some ⟨X, 0, none⟩) m.length av)) (v1 := (.slice (some ⟨X, 0, none⟩) m.length av)) (ok := (fun k_ => (af k_ ∨ w.heap.size ≤ k_) ∧ k_ ≠ E ∧ k_ ≠ r ∧ k_ ≠ a)) (by (with_reducible repeat apply pV); exact Kd.V_mono HO_221002.out (fun _ hk => ⟨⟨hk.1, ⟨hk.2.2.1, ⟨hk.2.2.2.1, hk.2.2.2.2⟩⟩⟩, hk.2.1⟩)) hg (.inl rfl)); replace c := Z (blk_grown (g := E) (o := .cells #[.int .i64 u, .int .i64 x, u221002, .int .i64 b, .bool false, .bool y] 24 (0, 0)) (vK c.out) hg (Kd.R_ne HO_237002.out c.out (by decide))); replace l := Z (blk_grown (g := r) (o := .cells #[.int .i64 0, .int .i64 0, .slice none 0 0, .int .i64 0, .bool false, .bool false] 24 (0, 0)) (vK l.out) hg (Kd.R_ne HO_237002.out l.out (by decide))); replace q := Z (blk_grown (g := a) (o := .cells #[.int .i64 z, .int .i64 A, .slice (some ⟨X, 0, none⟩) m.length av, .int .i64 F, .bool B, .bool C] 24 (0, 0)) (vK q.out) hg (Kd.R_ne HO_237002.out q.out (by decide))); replace HO_237002 := Z (hp_); replace HB := Z ((by rw [hw]; exact below_set (below_set (below_set (below_set (below_set (below_set (HB.out) aP.out) aP.out) aP.out) aP.out) aP.out) aP.out : Below w.heap.size w cL)); clear hg hw hp_; obtain ⟨dU, dV, dW, dX, dY, dZ, eT, eU, eV, eW, eX, eY⟩ := cells6 q.out) | ((with_reducible refine gate_callee (f := 56) rfl ?_); refine goesL_ (some 61) rfl rfl Tryd.func56 (by kernel_rfl) rfl #[.agg #[.int .i64 z, .int .i64 A, .slice (some ⟨X, 0, none⟩) ax.length av, .int .i64 F, .bool B, .bool C]] rfl (by (try simp only [List.map_toArray, List.map_cons, List.map_nil]); first | done | (rw [show ax.length = m.length from (Kd.R_reads' HO_237002.out).1.symm] <;> rfl) | rfl | (simp only [List.length_drop, List.length_take]; rfl)) ?_; (with_reducible refine (edit_onward.calls bi z A _ _ ax F B C aw _ ?side1 ?side2 fx.out).mono ?_); (case side1 => repeat (first | exact (Kd.R_reads' HO_237002.out).2.2 | (with_reducible apply pC))); (case side2 => rw [show ax.length = m.length from (Kd.R_reads' HO_237002.out).1.symm]; exact (Kd.R_reads' HO_237002.out).2.1); rintro e gT ⟨rfl, hb⟩; refine ⟨_, rfl, ?_⟩; replace HO_221002 := vb' HO_221002 hb; replace HO_237002 := rb' HO_237002 hb; replace c := kb' c hb; replace l := kb' l hb; replace q := kb' q hb; replace HB := bs_ hb; clear hb; obtain ⟨d0, d1, d2, d3, d4, d5, eZ, e0, e1, e2, e3, e4⟩ := cells6 q.out; obtain ⟨d6, d7, d8, d9, ea, eb, e5, e6, e7, e8, e9, fa⟩ := cells6 l.out))
           refine bodyPost_ret (results_ct rfl _ _ r 24 #[.int .i64 z, .int .i64 A, .slice (some ⟨X, 0, none⟩) m.length av, .int .i64 aw, .bool B, .bool C] (0, 0) _ rfl (by (with_reducible repeat apply pK); refine blk_put (cs := #[.int .i64 z, .int .i64 A, .slice (some ⟨X, 0, none⟩) m.length av, .int .i64 aw, .bool B, .bool false]) ?_ 5 _ rfl; (with_reducible repeat apply pK); refine blk_put (cs := #[.int .i64 z, .int .i64 A, .slice (some ⟨X, 0, none⟩) m.length av, .int .i64 aw, .bool false, .bool false]) ?_ 4 _ rfl; (with_reducible repeat apply pK); refine blk_put (cs := #[.int .i64 z, .int .i64 A, .slice (some ⟨X, 0, none⟩) m.length av, .int .i64 0, .bool false, .bool false]) ?_ 3 _ rfl; (with_reducible repeat apply pK); refine blk_put (cs := #[.int .i64 z, .int .i64 A, .slice none 0 0, .int .i64 0, .bool false, .bool false]) ?_ 2 _ rfl; (with_reducible repeat apply pK); refine blk_put (cs := #[.int .i64 z, .int .i64 0, .slice none 0 0, .int .i64 0, .bool false, .bool false]) ?_ 1 _ rfl; (with_reducible repeat apply pK); refine blk_put (cs := #[.int .i64 0, .int .i64 0, .slice none 0 0, .int .i64 0, .bool false, .bool false]) ?_ 0 _ rfl; (with_reducible repeat apply pK); refine blk_far ?_ ak.out _; (with_reducible repeat apply pK); exact l.out) Tryd.underlying24 rfl (by kernel_rfl)) rfl ?_
           exact ⟨_, _, er_, by (with_reducible repeat apply pR); exact Kd.R_mono (f6R r (Kd.R_far (p := ⟨a, 3, none⟩) (Kd.R_types (Kd.R_types HO_237002.out q.out (by decide)) l.out (by decide)) (fun _ hk => hk.1.2) (.int .i64 aw)) (fun _ hk => hk.2)) (fun _ hk => hk.1.1), Kd.R_V (Kd.R_nil _ _ _ 0 _), bl_⟩
          ·rw [if_neg br] at H
           exact absurd H (by simp)
         ·rw [if_neg bq] at H
          exact absurd H (by simp)
     ·have H1 : ((edit_Deny.f u x s b false y (some aQ) aK).bind fun G => (some (G.1, G.2.1, G.2.2.1, G.2.2.2.1, G.2.2.2.2.1, G.2.2.2.2.2.1, G.2.2.2.2.2.2.1, G.2.2.2.2.2.2.2))) = some (r1, r2, r3, r4, r5, r6, (none : Option Er), r8) := by rw [if_neg (show ¬ (some aQ).isNone = true by simp)] at H; exact H
      clear H
      have H := H1
      clear H1
      try simp only [errW_none, errW_some]
      replace H := Option.bind_eq_some_iff.mp H
      obtain ⟨⟨aY, aZ, a0, a2, a3, a4, cI, cJ⟩, cb, H⟩ := H
      replace H : (some (aY, aZ, a0, a2, a3, a4, cI, cJ)) = some (r1, r2, r3, r4, r5, r6, (none : Option Er), r8) := H
      have fy := Z cb
      clear cb
      rcases cI with _ | gL
      ·try simp only [errW_none, errW_some]
       simp only [Option.some.injEq, Prod.mk.injEq] at H
       (first | obtain ⟨rfl, rfl, rfl, rfl, rfl, rfl, _, rfl⟩ := H | obtain ⟨rfl, rfl, rfl, rfl, rfl, rfl, rfl⟩ := H)
       have gf := az.out
       have gp := aA.out
       obtain ⟨ec, ed, ee, ef, eg, eh, fb, fc, fd, fe, ff, fg⟩ := cells6 c.out
       go_wp2_with (first | ((with_reducible refine gate_callee (f := 54) rfl ?_); refine goesL_ (some 25) rfl rfl Tryd.func54 (by kernel_rfl) rfl #[.agg #[.int .i64 u, .int .i64 x, .slice ad s.length ae, .int .i64 b, .bool false, .bool y], .int .u8 a1] rfl ag_ ?_; (with_reducible refine (edit_fits.calls ab u x _ _ s b false y a1 (some aQ) aK _ ?side1 ?side2 c0.out).mono ?_); (case side1 => repeat (first | exact (Kd.V_reads' HO_221002.out).2.2 | (with_reducible apply pC))); (case side2 => exact (Kd.V_reads' HO_221002.out).2.1); rintro e gU ⟨bm, rfl, ah, hb⟩; refine ⟨_, rfl, ?_⟩; replace HO_221002 := vb' HO_221002 hb; have I := Z (Kd.V_lower (Kd.V_mono (ok' := fun k_ => (af k_ ∨ w.heap.size ≤ k_) ∧ k_ ≠ E ∧ k_ ≠ r) ah (fun k_ hk_ => ⟨(.inr (Nat.le_trans (below_size bl_) hk_)), (Kd.freshB (g := E) (o := .cells #[.int .i64 u, .int .i64 x, .slice ad s.length ae, .int .i64 b, .bool false, .bool y] 24 (0, 0)) (vK c.out) k_ hk_), (Kd.freshB (g := r) (o := .cells #[.int .i64 0, .int .i64 0, .slice none 0 0, .int .i64 0, .bool false, .bool false] 24 (0, 0)) (vK l.out) k_ hk_)⟩)) (below_size bl_)); replace c := kb' c hb; replace l := kb' l hb; replace HB := bs_ hb; clear hb ah; (try simp only [errW_none, errW_some]); obtain ⟨ei, ej, ek, el, em, en, fh, fi, fj, fk, fl, fm⟩ := cells6 c.out; obtain ⟨dg, dh, dl⟩ := Kd.V_slice I.out; subst dl) | ((with_reducible refine gate_callee (f := 34) rfl ?_); refine goesL_ (some 30) rfl rfl Tryd.func34 (by kernel_rfl) rfl #[.agg #[.int .i64 u, .int .i64 x, .slice ad s.length ae, .int .i64 b, .bool false, .bool y], errW (.slice dg aK.length dh) (some aQ)] rfl ag_ ?_; (with_reducible refine (edit_Deny.calls u x _ _ s b false y (some aQ) _ _ aK aY aZ a0 a2 a3 a4 none cJ _ ?side1 ?side2 ?side3 ?side4 fy.out).mono ?_); (case side1 => repeat (first | exact (Kd.V_reads' HO_221002.out).2.2 | (with_reducible apply pC))); (case side2 => exact (Kd.V_reads' HO_221002.out).2.1); (case side3 => repeat (first | exact (Kd.V_reads' I.out).2.2 | (with_reducible apply pC))); (case side4 => exact (Kd.V_reads' I.out).2.1); rintro e gV ⟨dv, gD, rfl, ah, a8, hb⟩; refine ⟨_, rfl, ?_⟩; replace HO_221002 := Z (Kd.V_elder' (vV HO_221002.out) (Kd.R_base ah) hb); replace I := Z (Kd.V_elder' (vV I.out) (Kd.R_base ah) hb); have bo := Z (Kd.R_lower (Kd.R_newM (M := fun k_ => (w.heap.size ≤ k_)) (Kd.R_mono (ok' := fun k_ => True) ah (fun _ hk_ => trivial)) (below_size bl_) (fun k_ h_ => h_)) (below_size bl_)); have cQ := Z (Kd.V_lower (Kd.V_mono (ok' := fun k_ => (af k_ ∨ w.heap.size ≤ k_) ∧ some k_ ≠ (dv : Value).ownBlock ∧ k_ ≠ E ∧ k_ ≠ r) a8 (fun k_ hk_ => ⟨(.inr (Nat.le_trans (below_size bl_) hk_.1)), hk_.2, (Kd.freshB (g := E) (o := .cells #[.int .i64 u, .int .i64 x, .slice ad s.length ae, .int .i64 b, .bool false, .bool y] 24 (0, 0)) (vK c.out) k_ hk_.1), (Kd.freshB (g := r) (o := .cells #[.int .i64 0, .int .i64 0, .slice none 0 0, .int .i64 0, .bool false, .bool false] 24 (0, 0)) (vK l.out) k_ hk_.1)⟩)) (below_size bl_)); replace c := kb' c hb; replace l := kb' l hb; replace HB := bs_ hb; clear hb ah a8; (try simp only [errW_none, errW_some]); obtain ⟨eo, ep, eq, er, es, et, fn, fo, fp, fq, fr, fs⟩ := cells6 l.out; obtain ⟨bb, bh, dm⟩ := Kd.R_slice bo.out; subst dm))
       refine bodyPost_ret (results_ct rfl _ _ r 24 #[.int .i64 aY, .int .i64 aZ, .slice bb a0.length bh, .int .i64 a2, .bool a3, .bool a4] (0, 0) _ rfl (put6 l.out) Tryd.underlying24 rfl (by kernel_rfl)) rfl ?_
       exact ⟨_, _, er_, by (with_reducible repeat apply pR); exact Kd.R_mono (f6R r (Kd.R_types bo.out l.out (by decide)) (fun _ hk => hk.2)) (fun _ hk => hk.1.1), by (with_reducible repeat apply pV); exact Kd.V_mono (f6V r (Kd.V_mono cQ.out (fun k_ hk => (⟨hk, hk.2.2.2⟩ : _ ∧ k_ ≠ r))) (fun _ hk => hk.2)) (fun _ hk => ⟨hk.1.1, hk.1.2.1⟩), bl_⟩
      ·exact absurd H (by simp)
end Go.Proofs.YtggecanpjkpkiaaDoor.P
