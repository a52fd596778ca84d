/- pp.py and press2.py (wip/tools) wrote this text. -/
import Derived.Test.YtjpedimndkibnaaGreatDoorPx0
import Derived.Test.YtjpedimndkibnaaGreatDoorPxS
import Derived.Test.YtjpedimndkibnaaGreatDoorPxT
import Derived.Test.YtjpedimndkibnaaGreatDoorPx17
import Derived.Test.YtjpedimndkibnaaGreatDoorPx18
namespace Go.Proofs.YtjpedimndkibnaaGreatDoor.P
open Go.RowKit Go.Proofs.YtjpedimndkibnaaGreatDoorW.PrintWords Go.Proofs.YtjpedimndkibnaaGreatDoorW.PrintLast Go.Proofs.YtjpedimndkibnaaGreatDoorW.PrintMore
attribute [local go_sem] max2_int min2_int max_two min_two max_three min_three max_four min_four
attribute [local go_sem] Instr.field asAgg
set_option linter.unusedVariables false
set_option linter.unusedSimpArgs false
set_option maxHeartbeats 8000000
set_option maxRecDepth 100000

/-! ### shutterref11_Cells: function 117 -/
def shutterref11_Cells.l0 : Nat → List Int → Int → Int → Int → Int → List (S55) → Int → Bool → Bool → Option (List Int)
 | 0, _, _, _, _, _, _, _, _, _ => none
 | k + 1, i, l, j, c, d, a, e, g, h => if j ≤ (a.length : Int) then ((shutterref11_mod.f k (wrap64 (l + j)) (a.length : Int)).bind fun b => (if 0 ≤ b then (if b < (a.length : Int) then (if (rd_T55 a b).f0 = true then (some i) else (if i.length < 17592186044416 then (shutterref11_Cells.l0 k (i ++ [b]) l (wrap64 (j + 1)) c d a e g h) else (none))) else (none)) else (none))) else (some i)
def shutterref11_Cells.f (k : Nat) (a b : Int) (g : List (S55)) (c : Int) (d e : Bool) (a1 : Int) : Option (List Int) := (shutterref11_Begin.f k a b g c d e a1).bind fun h => (shutterref11_Cells.l0 k ([] : List Int) h 1 a b g c d e)
theorem shutterref11_Cells.mono_l : ∀ k, (∀ b c d e f g i j l, LeO (shutterref11_Cells.l0 k b c d e f g i j l) (shutterref11_Cells.l0 (k + 1) b c d e f g i j l))
 | 0 => fun _ _ _ _ _ _ _ _ _ r h => by simp [shutterref11_Cells.l0] at h
 | k + 1 => by
  have a := shutterref11_Cells.mono_l k
  ·intro b c d e f g i j l
   unfold shutterref11_Cells.l0
   repeat' first
   | (with_reducible exact a _ _ _ _ _ _ _ _ _)
   | (with_reducible exact shutterref11_Begin.mono _ _ _ _ _ _ _ _)
   | (with_reducible exact shutterref11_mod.mono _ _ _)
   | (with_reducible exact LeO.refl _)
   | (with_reducible exact LeO.none _)
   | (with_reducible refine LeO.ite ?_ ?_)
   | (with_reducible refine LeO.bind ?_ (fun _ => ?_))
   | exact a _ _ _ _ _ _ _ _ _
   | exact shutterref11_Begin.mono _ _ _ _ _ _ _ _
   | exact shutterref11_mod.mono _ _ _
   | exact LeO.none _
   | refine LeO.ite ?_ ?_
   | refine LeO.bind ?_ (fun _ => ?_)
theorem shutterref11_Cells.mono : ∀ a0 a1 b c a4 d e k, LeO (shutterref11_Cells.f k a0 a1 b c a4 d e) (shutterref11_Cells.f (k + 1) a0 a1 b c a4 d e) := by
 intro a0 a1 b c a4 d e k
 have a := shutterref11_Cells.mono_l k
 unfold shutterref11_Cells.f
 repeat' first
   | (with_reducible exact a _ _ _ _ _ _ _ _ _)
   | (with_reducible exact shutterref11_Begin.mono _ _ _ _ _ _ _ _)
   | (with_reducible exact shutterref11_mod.mono _ _ _)
   | (with_reducible exact LeO.refl _)
   | (with_reducible exact LeO.none _)
   | (with_reducible refine LeO.ite ?_ ?_)
   | (with_reducible refine LeO.bind ?_ (fun _ => ?_))
   | exact a _ _ _ _ _ _ _ _ _
   | exact shutterref11_Begin.mono _ _ _ _ _ _ _ _
   | exact shutterref11_mod.mono _ _ _
   | exact LeO.none _
   | refine LeO.ite ?_ ?_
   | refine LeO.bind ?_ (fun _ => ?_)
theorem shutterref11_Cells.calls (k : Nat) (n p : Int) (L : Option Addr) (G : Nat) (a : List (S55)) (q : Int) (s u : Bool) (a1 : Int) (r : List Int) (w : World) (W : Kd.C k55 w L a.length a) (V : a.length ≤ G) (h : shutterref11_Cells.f k n p a q s u a1 = some r) :
  Calls Tryz.prog 117 #[.agg #[.int .i64 n, .int .i64 p, .slice L a.length G, .int .i64 q, .bool s, .bool u], .int .i64 a1] w fun e w' => ∃ ax : Value, e = .returned (ax) ∧ Kd.R (Kd.int .i64) 3 w' w.heap.size (fun _ => True) ax r ∧ Below w.heap.size w w' := by
 have bm := Tryz.underlying24
 have M := Z W
 have an := Z V
 clear W V
 have HB := Z (Below.refl w.heap.size w)
 unfold shutterref11_Cells.f at h
 have H := h
 clear h
 replace H := bn_ H
 obtain ⟨A, A3, H⟩ := H
 have H' := Z H
 clear H
 go_enter Tryz.func117, Tryz.ntmps117
 go_wp2_with (first | ((with_reducible refine gD_ 2 rfl ?_); refine bx_ 2 24 #[.int .i64 n, .int .i64 p, .slice L a.length G, .int .i64 q, .bool s, .bool u] ?_; intro K hg w4 hbox hb; have d := Z hbox; have bi := ln' w hg; replace HB := bs_ hb; clear hb hbox hg; have aa := cells6 d.out) | ((with_reducible refine gF_ 106 rfl ?_); refine gd_ (some 11) Tryz.func106 (shutterref11_Begin.calls k n p _ _ a q s u a1 A _ (cB_ M HB) an.out A3.out) ?_; rintro e w6 ⟨rfl, hb⟩; refine ⟨_, rfl, ?_⟩; replace d := kb' d hb; replace HB := bs_ hb; (try clear hb)))
 go_loopg [5, 7] k (fun kq v5 v7 w' => ∃ (v : List Int) (x : Int), v7 = .int .i64 x ∧ Aside0 (shutterref11_Cells.l0 kq v A x n p a q s u = some r) ∧ Aside0 (kq ≤ k) ∧ Aside0 (Kd.R (Kd.int .i64) 3 w' w.heap.size (fun _ => True) v5 v) ∧ Aside0 (w'.heap[K]? = some (.cells #[.int .i64 n, .int .i64 p, (.slice L a.length G), .int .i64 q, .bool s, .bool u] 24 (0, 0))) ∧ Aside0 (Below w.heap.size w w'))
 case atStart => exact ⟨(([] : List Int)), (1), (dn_), H', ⟨Nat.le_refl _⟩, ⟨by first | exact Kd.R_nil _ _ _ _ _ | exact Kd.N_nil _ _ _ _ _ | exact Kd.V_nil _ _ _ _ _ | exact Kd.Q_nil _ _ _ _ _ | exact Kd.S_nil _ _ _ _ _⟩, ⟨vK d.out⟩, ⟨bl_⟩⟩
 case round =>
  clear H'
  try clear aa
  obtain ⟨v, x, rfl, HA, av, GA, d, HB⟩ := hrel
  cases gk with
  | zero => exact absurd HA.out (by simp [shutterref11_Cells.l0])
  | succ k1 =>
   have H := HA.out
   clear HA
   simp only [shutterref11_Cells.l0] at H
   by_cases c7 : x ≤ (a.length : Int)
   rotate_left
   ·rw [if_neg c7] at H
    have ay := decide_eq_false c7
    clear c7
    obtain rfl := Option.some.inj H
    have aQ := cells6 d.out
    go_wp2
    go_ret
    exact ⟨_, er_, by (with_reducible repeat apply pR); exact GA.out, bl_⟩
   rw [if_pos c7] at H
   have ay := decide_eq_true c7
   clear c7
   replace H := bn_ H
   obtain ⟨c, A8, H⟩ := H
   obtain ⟨c9, H⟩ := gt_ H
   have bl := decide_eq_true c9
   clear c9
   obtain ⟨c10, H⟩ := gt_ H
   have bj := decide_eq_true c10
   clear c10
   obtain ⟨Y, O⟩ : ∃ b_ : Bool, b_ = ((rd_T55 a c).f0) := ⟨_, rfl⟩
   replace H : (if Y = true then (some v) else (if v.length < 17592186044416 then (shutterref11_Cells.l0 k1 (v ++ [c]) A (wrap64 (x + 1)) n p a q s u) else (none))) = some r := by rw [← O] at H; exact H
   have B := Z O
   clear O
   by_cases T : Y = true
   ·subst T
    rw [if_pos rfl] at H
    obtain rfl := Option.some.inj H
    have az := cells6 d.out
    go_wp2_with (first | ((with_reducible refine gF_ 66 rfl ?_); refine gd_ (some 25) Tryz.func66 (shutterref11_mod.calls k1 (wrap64 (A + x)) (a.length : Int) c _ A8.out) ?_; rintro e w' ⟨rfl, ⟨nd, rfl⟩⟩; refine ⟨_, rfl, ?_⟩; have D : 0 ≤ (c : Int) := od_; have E : c < (a.length : Int) := od_; obtain ⟨S, Q, i, j, l, y, m, z⟩ := at_T55 M.out c D E; (try rw [← B.out] at i); (try rw [← B.out] at j); (try rw [← B.out] at l); (try rw [← B.out] at m); cases Q; replace i := (HB.out.cell (bk_ w _ i)).trans i; replace j := (HB.out.cell (bk_ w _ j)).trans j; replace l := (HB.out.cell (bk_ w _ l)).trans l; replace y := (HB.out.cell (bk_ w _ y)).trans y; replace m := (HB.out.cell (bk_ w _ m)).trans m; replace z := (HB.out.cell (bk_ w _ z)).trans z; replace D := eq_true D; replace E := eq_true E))
    go_ret
    exact ⟨_, er_, by (with_reducible repeat apply pR); exact GA.out, bl_⟩
   replace T := Bool.eq_false_iff.mpr T
   subst T
   rw [iF_] at H
   by_cases U : v.length < 17592186044416
   ·rw [if_pos U] at H
    have ap := Z U
    clear U
    obtain ⟨am, F⟩ : ∃ y_ : List Int, y_ = (v ++ [c]) := ⟨_, rfl⟩
    replace H : (shutterref11_Cells.l0 k1 am A (wrap64 (x + 1)) n p a q s u) = some r := by first | (rw [F]; with_reducible exact H) | (have X := (Option.bind_some _ _).symm.trans H; rw [F]; with_reducible exact X) | (have X := (Option.bind_some _ _).symm.trans H; with_reducible exact X) | with_reducible exact H | (rw [F]; exact H) | exact H
    have aq := Z F
    clear F
    have H' := Z H
    clear H
    have aH := cells6 d.out
    go_wp2_with (first | ((with_reducible refine gF_ 66 rfl ?_); refine gd_ (some 25) Tryz.func66 (shutterref11_mod.calls k1 (wrap64 (A + x)) (a.length : Int) c _ A8.out) ?_; rintro e w' ⟨rfl, ⟨nd, rfl⟩⟩; refine ⟨_, rfl, ?_⟩; have D : 0 ≤ (c : Int) := od_; have E : c < (a.length : Int) := od_; obtain ⟨S, Q, i, j, l, y, m, z⟩ := at_T55 M.out c D E; (try rw [← B.out] at i); (try rw [← B.out] at j); (try rw [← B.out] at l); (try rw [← B.out] at m); cases Q; replace i := (HB.out.cell (bk_ w _ i)).trans i; replace j := (HB.out.cell (bk_ w _ j)).trans j; replace l := (HB.out.cell (bk_ w _ l)).trans l; replace y := (HB.out.cell (bk_ w _ y)).trans y; replace m := (HB.out.cell (bk_ w _ m)).trans m; replace z := (HB.out.cell (bk_ w _ z)).trans z; replace D := eq_true D; replace E := eq_true E) | ((with_reducible refine gate_builtin (b := .append) (xs := #[.tmp 32, .tmp 34]) rfl ?_); at_builtin; refine Kd.R_append (Kd.int .i64) (w0 := w) w.heap.size rfl (.tmp 32) (.tmp 34) 121 3 (.int .i64 0) 8 rfl Tryz.underlying121 info3 rfl (by decide) (by omega) u5 v c [.int .i64 c] (fun _ => True) (fun _ => False) rfl rfl ?aP (fun _ hk => hk.elim) ?aF ?aO ?aB ?aS ?aL ?_; (case aP => exact rfl); (case aB => exact bl_); (case aF => exact (fun _ _ => trivial)); (case aO => exact (by (with_reducible repeat apply pR); exact GA.out)); (case aS => exact (below_size bl_)); (case aL => have := ap.out; omega); intro bp br ho hb hg hat; rw [← aq.out] at ho; replace d := gw_ ⟨vK d.out⟩ hg (Kd.R_ne GA.out d.out (by decide)); replace HB := Z (hb); have ao := Z (ho); clear GA; clear ho hb hg hat))
    go_roundg k1
    case measure => have := av.out; omega
    case rel => exact ⟨(am), (wrap64 (x + 1)), (dn_), H', ⟨by have := av.out; omega⟩, ⟨by (with_reducible repeat apply pR); exact ao.out⟩, ⟨vK d.out⟩, ⟨bl_⟩⟩
   rw [if_neg U] at H
   exact absurd H (by simp)

/-! ### shutterref14_Line: function 80 -/
def shutterref14_Line.l0 : Nat → Int → List Int → List Int → Bool → Int → Option (List Int)
 | 0, _, _, _, _, _ => none
 | k + 1, d, c, b, e, a => if a < (b.length : Int) then (if 0 ≤ a then (if (rd b a) = d then (if c.length < 17592186044416 then (shutterref14_Line.l0 k d (c ++ [rd b a]) b true (wrap64 (a + 1))) else (none)) else (if e = true then (if c.length < 17592186044416 then (shutterref14_Line.l0 k d (c ++ [rd b a]) b e (wrap64 (a + 1))) else (none)) else (shutterref14_Line.l0 k d c b e (wrap64 (a + 1))))) else (none)) else (some c)
def shutterref14_Line.f (k : Nat) (a b : Int) (g : List (S55)) (c : Int) (d e : Bool) (a1 : Int) : Option (List Int) := (shutterref11_Open.f k a b g c d e a1).bind fun h => (if h = true then ((shutterref11_Cells.f k a b g c d e a1).bind fun i => (shutterref14_Line.l0 k a1 ([] : List Int) i false 0)) else (some ([] : List Int)))
theorem shutterref14_Line.mono_l : ∀ k, (∀ b c d e f, LeO (shutterref14_Line.l0 k b c d e f) (shutterref14_Line.l0 (k + 1) b c d e f))
 | 0 => fun _ _ _ _ _ r h => by simp [shutterref14_Line.l0] at h
 | k + 1 => by
  have a := shutterref14_Line.mono_l k
  ·intro b c d e f
   unfold shutterref14_Line.l0
   repeat' first
   | (with_reducible exact a _ _ _ _ _)
   | (with_reducible exact shutterref11_Cells.mono _ _ _ _ _ _ _ _)
   | (with_reducible exact shutterref11_Open.mono _ _ _ _ _ _ _ _)
   | (with_reducible exact LeO.refl _)
   | (with_reducible exact LeO.none _)
   | (with_reducible refine LeO.ite ?_ ?_)
   | (with_reducible refine LeO.bind ?_ (fun _ => ?_))
   | exact a _ _ _ _ _
   | exact shutterref11_Cells.mono _ _ _ _ _ _ _ _
   | exact shutterref11_Open.mono _ _ _ _ _ _ _ _
   | exact LeO.none _
   | refine LeO.ite ?_ ?_
   | refine LeO.bind ?_ (fun _ => ?_)
theorem shutterref14_Line.mono : ∀ a0 a1 b c a4 d e k, LeO (shutterref14_Line.f k a0 a1 b c a4 d e) (shutterref14_Line.f (k + 1) a0 a1 b c a4 d e) := by
 intro a0 a1 b c a4 d e k
 have a := shutterref14_Line.mono_l k
 unfold shutterref14_Line.f
 repeat' first
   | (with_reducible exact a _ _ _ _ _)
   | (with_reducible exact shutterref11_Cells.mono _ _ _ _ _ _ _ _)
   | (with_reducible exact shutterref11_Open.mono _ _ _ _ _ _ _ _)
   | (with_reducible exact LeO.refl _)
   | (with_reducible exact LeO.none _)
   | (with_reducible refine LeO.ite ?_ ?_)
   | (with_reducible refine LeO.bind ?_ (fun _ => ?_))
   | exact a _ _ _ _ _
   | exact shutterref11_Cells.mono _ _ _ _ _ _ _ _
   | exact shutterref11_Open.mono _ _ _ _ _ _ _ _
   | exact LeO.none _
   | refine LeO.ite ?_ ?_
   | refine LeO.bind ?_ (fun _ => ?_)
theorem shutterref14_Line.calls (k : Nat) (j l : Int) (A : Option Addr) (B : Nat) (i : List (S55)) (m : Int) (n p : Bool) (a1 : Int) (r : List Int) (w : World) (ae : Kd.C k55 w A i.length i) (ad : i.length ≤ B) (h : shutterref14_Line.f k j l i m n p a1 = some r) :
  Calls Tryz.prog 80 #[.agg #[.int .i64 j, .int .i64 l, .slice A i.length B, .int .i64 m, .bool n, .bool p], .int .i64 a1] w fun e w' => ∃ a7 : Value, e = .returned (a7) ∧ Kd.R (Kd.int .i64) 3 w' w.heap.size (fun _ => True) a7 r ∧ Below w.heap.size w w' := by
 have bF := Tryz.underlying24
 have Q := Z ae
 have P := Z ad
 clear ae ad
 have HB := Z (Below.refl w.heap.size w)
 unfold shutterref14_Line.f at h
 have H := h
 clear h
 replace H := bn_ H
 obtain ⟨S, A3, H⟩ := H
 cases S
 ·rw [iF_] at H
  obtain rfl := Option.some.inj H
  go_enter Tryz.func80, Tryz.ntmps80
  go_wp2_with (first | ((with_reducible refine gD_ 2 rfl ?_); refine bx_ 2 24 #[.int .i64 j, .int .i64 l, .slice A i.length B, .int .i64 m, .bool n, .bool p] ?_; intro y hg bN hbox hb; have d := Z hbox; have aM := ln' w hg; replace HB := bs_ hb; clear hb hbox hg; have bg := cells6 d.out) | ((with_reducible refine gF_ 34 rfl ?_); refine gd_ (some 11) Tryz.func34 (shutterref11_Open.calls k j l _ _ i m n p a1 false _ (cB_ Q HB) P.out A3.out) ?_; rintro e bO ⟨rfl, hb⟩; refine ⟨_, rfl, ?_⟩; replace d := kb' d hb; replace HB := bs_ hb; (try clear hb)))
  go_ret
  exact ⟨_, er_, by first | exact Kd.R_nil _ _ _ _ _ | exact Kd.N_nil _ _ _ _ _ | exact Kd.V_nil _ _ _ _ _ | exact Kd.Q_nil _ _ _ _ _ | exact Kd.S_nil _ _ _ _ _, bl_⟩
 rw [if_pos rfl] at H
 replace H := bn_ H
 obtain ⟨c, A5, H⟩ := H
 have H' := Z H
 clear H
 go_enter Tryz.func80, Tryz.ntmps80
 go_wp2_with (first | ((with_reducible refine gD_ 2 rfl ?_); refine bx_ 2 24 #[.int .i64 j, .int .i64 l, .slice A i.length B, .int .i64 m, .bool n, .bool p] ?_; intro y hg w6 hbox hb; have d := Z hbox; have aM := ln' w hg; replace HB := bs_ hb; clear hb hbox hg; have af := cells6 d.out) | ((with_reducible refine gF_ 34 rfl ?_); refine gd_ (some 11) Tryz.func34 (shutterref11_Open.calls k j l _ _ i m n p a1 true _ (cB_ Q HB) P.out A3.out) ?_; rintro e w8 ⟨rfl, hb⟩; refine ⟨_, rfl, ?_⟩; replace d := kb' d hb; replace HB := bs_ hb; (try clear hb); have al := cells6 d.out) | ((with_reducible refine gF_ 117 rfl ?_); refine gd_ (some 16) Tryz.func117 (shutterref11_Cells.calls k j l _ _ i m n p a1 c _ (cB_ Q HB) P.out A5.out) ?_; rintro e bK ⟨aH, rfl, a6, hb⟩; refine ⟨_, rfl, ?_⟩; have aN := Z (Kd.R_lower a6 (below_size bl_)); replace d := kb' d hb; replace HB := bs_ hb; (try clear hb); (try clear a6)))
 go_loopg [5, 7, 8] k (fun kq v5 v7 v8 w' => ∃ (u : List Int) (T : Bool) (a : Int), v7 = .bool T ∧ v8 = .int .i64 a ∧ Aside0 (shutterref14_Line.l0 kq a1 u c T a = some r) ∧ Aside0 (kq ≤ k) ∧ Aside0 (Kd.R (Kd.int .i64) 3 w' w.heap.size (fun k_ => some k_ ≠ (aH : Value).ownBlock) v5 u) ∧ Aside0 (Kd.R (Kd.int .i64) 3 w' w.heap.size (fun k_ => some k_ ≠ (v5 : Value).ownBlock) aH c) ∧ Aside0 (w'.heap[y]? = some (.cells #[.int .i64 j, .int .i64 l, (.slice A i.length B), .int .i64 m, .bool n, .bool p] 24 (0, 0))) ∧ Aside0 (Below w.heap.size w w'))
 case atStart => exact ⟨(([] : List Int)), (false), (0), (dn_), (dn_), H', ⟨Nat.le_refl _⟩, ⟨by first | exact Kd.R_nil _ _ _ _ _ | exact Kd.N_nil _ _ _ _ _ | exact Kd.V_nil _ _ _ _ _ | exact Kd.Q_nil _ _ _ _ _ | exact Kd.S_nil _ _ _ _ _⟩, ⟨by (with_reducible repeat apply pR); exact Kd.R_mono aN.out (fun _ hk => (by simp [Value.ownBlock]))⟩, ⟨vK d.out⟩, ⟨bl_⟩⟩
 case round =>
  clear H'
  try clear c4
  try clear af
  try clear al
  obtain ⟨u, T, a, rfl, rfl, HA, L, GA, GB, d, HB⟩ := hrel
  cases gk with
  | zero => exact absurd HA.out (by simp [shutterref14_Line.l0])
  | succ k1 =>
   have H := HA.out
   clear HA
   simp only [shutterref14_Line.l0] at H
   by_cases M : a < (c.length : Int)
   rotate_left
   ·rw [if_neg M] at H
    have aZ := decide_eq_false M
    clear M
    obtain rfl := Option.some.inj H
    obtain ⟨bC, bE, bf⟩ := Kd.R_slice GB.out
    subst bf
    go_wp2
    go_ret
    exact ⟨_, er_, by (with_reducible repeat apply pR); exact Kd.R_mono GA.out im_, bl_⟩
   rw [if_pos M] at H
   have aZ := decide_eq_true M
   clear M
   obtain ⟨Y, H⟩ := gt_ H
   have bw := decide_eq_true Y
   clear Y
   by_cases J : (rd c a) = a1
   ·rw [if_pos J] at H
    obtain ⟨a0, a2⟩ := eT_ J
    clear J
    obtain ⟨aa, H⟩ := gt_ H
    have aT := Z aa
    clear aa
    obtain ⟨aI, F⟩ : ∃ y_ : List Int, y_ = (u ++ [rd c a]) := ⟨_, rfl⟩
    replace H : (shutterref14_Line.l0 k1 a1 aI c true (wrap64 (a + 1))) = some r := by first | (rw [F]; with_reducible exact H) | (have I := (Option.bind_some _ _).symm.trans H; rw [F]; with_reducible exact I) | (have I := (Option.bind_some _ _).symm.trans H; with_reducible exact I) | with_reducible exact H | (rw [F]; exact H) | exact H
    have aV := Z F
    clear F
    have H' := Z H
    clear H
    obtain ⟨bz, a8, bc⟩ := Kd.R_slice GB.out
    subst bc
    have v : 0 ≤ (a : Int) := od_
    have x : a < (c.length : Int) := od_
    obtain ⟨E, K, O⟩ := Kd.at_int (Kd.R_reads' GB.out).2.2 a v x
    cases K
    replace v := eq_true v
    replace x := eq_true x
    have U : 0 ≤ (a : Int) := od_
    have W : a < (c.length : Int) := od_
    obtain ⟨aX, ba, bs⟩ := Kd.at_int (Kd.R_reads' GB.out).2.2 a U W
    obtain rfl : E = aX := (by injection ba)
    replace U := eq_true U
    replace W := eq_true W
    go_wp2_with (first | ((with_reducible refine gate_builtin (b := .append) (xs := #[.tmp 30, .tmp 35]) rfl ?_); at_builtin; refine Kd.R_append (Kd.int .i64) (w0 := w) w.heap.size rfl (.tmp 30) (.tmp 35) 121 3 (.int .i64 0) 8 rfl Tryz.underlying121 info3 rfl (by decide) (by omega) u5 u (rd c a) [.int .i64 (rd c a)] (fun k_ => some k_ ≠ (.slice (some E) c.length a8 : Value).ownBlock) (fun _ => False) rfl rfl ?aP (fun _ hk => hk.elim) ?aF ?aO ?aB ?aS ?aL ?_; (case aP => exact rfl); (case aB => exact bl_); (case aF => exact (fun k_ hk => Kd.fresh' (Kd.R_lt (by (with_reducible repeat apply pR); exact GB.out)) k_ hk)); (case aO => exact (by (with_reducible repeat apply pR); exact GA.out)); (case aS => exact (below_size bl_)); (case aL => have := aT.out; omega); intro bI bL ho hb hg hat; rw [← aV.out] at ho; replace GB := Z (Kd.R_after (ok := (fun _ => True)) (by (with_reducible repeat apply pR); exact Kd.R_mono GB.out (fun _ hk => ⟨trivial, hk⟩)) hg hat); replace d := gw_ ⟨vK d.out⟩ hg (Kd.R_ne GA.out d.out (by decide)); replace HB := Z (hb); have aQ := Z (ho); clear GA; clear ho hb hg hat))
    go_roundg k1
    case measure => have := L.out; omega
    case rel => exact ⟨(aI), (true), (wrap64 (a + 1)), (dn_), (dn_), H', ⟨by have := L.out; omega⟩, ⟨by (with_reducible repeat apply pR); exact aQ.out⟩, ⟨by (with_reducible repeat apply pR); exact Kd.R_mono GB.out im_⟩, ⟨vK d.out⟩, ⟨bl_⟩⟩
   rw [if_neg J] at H
   obtain ⟨a0, a2⟩ := eF_ J
   cases T
   ·rw [iF_] at H
    have H' := Z H
    clear H
    obtain ⟨bB, bD, be⟩ := Kd.R_slice GB.out
    subst be
    have v : 0 ≤ (a : Int) := od_
    have x : a < (c.length : Int) := od_
    obtain ⟨E, K, O⟩ := Kd.at_int (Kd.R_reads' GB.out).2.2 a v x
    cases K
    replace v := eq_true v
    replace x := eq_true x
    go_wp2
    go_roundg k1
    case measure => have := L.out; omega
    case rel => exact ⟨(u), (false), (wrap64 (a + 1)), (dn_), (dn_), H', ⟨by have := L.out; omega⟩, ⟨by (with_reducible repeat apply pR); exact GA.out⟩, ⟨by (with_reducible repeat apply pR); exact GB.out⟩, ⟨vK d.out⟩, ⟨bl_⟩⟩
   rw [if_pos rfl] at H
   obtain ⟨ac, H⟩ := gt_ H
   have aU := Z ac
   clear ac
   obtain ⟨aJ, G⟩ : ∃ y_ : List Int, y_ = (u ++ [rd c a]) := ⟨_, rfl⟩
   replace H : (shutterref14_Line.l0 k1 a1 aJ c true (wrap64 (a + 1))) = some r := by first | (rw [G]; with_reducible exact H) | (have I := (Option.bind_some _ _).symm.trans H; rw [G]; with_reducible exact I) | (have I := (Option.bind_some _ _).symm.trans H; with_reducible exact I) | with_reducible exact H | (rw [G]; exact H) | exact H
   have aW := Z G
   clear G
   have H' := Z H
   clear H
   obtain ⟨bA, a9, bd⟩ := Kd.R_slice GB.out
   subst bd
   have v : 0 ≤ (a : Int) := od_
   have x : a < (c.length : Int) := od_
   obtain ⟨E, K, O⟩ := Kd.at_int (Kd.R_reads' GB.out).2.2 a v x
   cases K
   replace v := eq_true v
   replace x := eq_true x
   have V : 0 ≤ (a : Int) := od_
   have X : a < (c.length : Int) := od_
   obtain ⟨aY, bb, bt⟩ := Kd.at_int (Kd.R_reads' GB.out).2.2 a V X
   obtain rfl : E = aY := (by injection bb)
   replace V := eq_true V
   replace X := eq_true X
   go_wp2_with (first | ((with_reducible refine gate_builtin (b := .append) (xs := #[.tmp 30, .tmp 35]) rfl ?_); at_builtin; refine Kd.R_append (Kd.int .i64) (w0 := w) w.heap.size rfl (.tmp 30) (.tmp 35) 121 3 (.int .i64 0) 8 rfl Tryz.underlying121 info3 rfl (by decide) (by omega) u5 u (rd c a) [.int .i64 (rd c a)] (fun k_ => some k_ ≠ (.slice (some E) c.length a9 : Value).ownBlock) (fun _ => False) rfl rfl ?aP (fun _ hk => hk.elim) ?aF ?aO ?aB ?aS ?aL ?_; (case aP => exact rfl); (case aB => exact bl_); (case aF => exact (fun k_ hk => Kd.fresh' (Kd.R_lt (by (with_reducible repeat apply pR); exact GB.out)) k_ hk)); (case aO => exact (by (with_reducible repeat apply pR); exact GA.out)); (case aS => exact (below_size bl_)); (case aL => have := aU.out; omega); intro bJ bM ho hb hg hat; rw [← aW.out] at ho; replace GB := Z (Kd.R_after (ok := (fun _ => True)) (by (with_reducible repeat apply pR); exact Kd.R_mono GB.out (fun _ hk => ⟨trivial, hk⟩)) hg hat); replace d := gw_ ⟨vK d.out⟩ hg (Kd.R_ne GA.out d.out (by decide)); replace HB := Z (hb); have aR := Z (ho); clear GA; clear ho hb hg hat))
   go_roundg k1
   case measure => have := L.out; omega
   case rel => exact ⟨(aJ), (true), (wrap64 (a + 1)), (dn_), (dn_), H', ⟨by have := L.out; omega⟩, ⟨by (with_reducible repeat apply pR); exact aR.out⟩, ⟨by (with_reducible repeat apply pR); exact Kd.R_mono GB.out im_⟩, ⟨vK d.out⟩, ⟨bl_⟩⟩

/-! ### shutterref10_Next: function 81 -/
def shutterref10_Next.f (b c : Int) (a : List (S55)) (d : Int) (e g : Bool) (a1 : Int) : Option (Int) := if (wrap64 (a1 + 1)) = (a.length : Int) then (some 0) else (some (wrap64 (a1 + 1)))
theorem shutterref10_Next.calls (g i : Int) (c : Option Addr) (m : Nat) (a : List (S55)) (j : Int) (k l : Bool) (a1 r : Int) (w : World) (u : Kd.C k55 w c a.length a) (s : a.length ≤ m) (h : shutterref10_Next.f g i a j k l a1 = some r) :
  Calls Tryz.prog 81 #[.agg #[.int .i64 g, .int .i64 i, .slice c a.length m, .int .i64 j, .bool k, .bool l], .int .i64 a1] w fun e w' => e = .returned (.int .i64 r) ∧ Below w.heap.size w w' := by
 have ae := Tryz.underlying24
 have ad := Z u
 have ac := Z s
 clear u s
 have HB := Z (Below.refl w.heap.size w)
 unfold shutterref10_Next.f at h
 have H := h
 clear h
 by_cases c3 : (wrap64 (a1 + 1)) = (a.length : Int)
 ·rw [if_pos c3] at H
  obtain ⟨y, z⟩ := eT_ c3
  clear c3
  obtain rfl := Option.some.inj H
  go_enter Tryz.func81, Tryz.ntmps81
  go_wp2_with (first | ((with_reducible refine gD_ 2 rfl ?_); refine bx_ 2 24 #[.int .i64 g, .int .i64 i, .slice c a.length m, .int .i64 j, .bool k, .bool l] ?_; intro b hg w4 hbox hb; have d := Z hbox; have x := ln' w hg; replace HB := bs_ hb; clear hb hbox hg; have A := cells6 d.out))
  go_ret
  exact ⟨er_, bl_⟩
 rw [if_neg c3] at H
 obtain ⟨y, z⟩ := eF_ c3
 obtain rfl := Option.some.inj H
 go_enter Tryz.func81, Tryz.ntmps81
 go_wp2_with (first | ((with_reducible refine gD_ 2 rfl ?_); refine bx_ 2 24 #[.int .i64 g, .int .i64 i, .slice c a.length m, .int .i64 j, .bool k, .bool l] ?_; intro b hg w6 hbox hb; have d := Z hbox; have x := ln' w hg; replace HB := bs_ hb; clear hb hbox hg; have I := cells6 d.out))
 go_ret
 exact ⟨er_, bl_⟩

end Go.Proofs.YtjpedimndkibnaaGreatDoor.P
