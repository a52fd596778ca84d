/- pp.py and press2.py (wip/tools) wrote this text. -/
import Derived.Test.YtggecanpjkpkiaaDoorPx0
import Derived.Test.YtggecanpjkpkiaaDoorPxS
import Derived.Test.YtggecanpjkpkiaaDoorPx10
namespace Go.Proofs.YtggecanpjkpkiaaDoor.P
open Go.RowKit Go.Proofs.YtggecanpjkpkiaaDoorW.PrintWords Go.Proofs.YtggecanpjkpkiaaDoorW.PrintLast Go.Proofs.YtggecanpjkpkiaaDoorW.PrintMore
attribute [local go_sem] max2_int min2_int max_two min_two max_three min_three max_four min_four
attribute [local go_sem] Instr.field asAgg
set_option linter.unusedVariables false
set_option linter.unusedSimpArgs false

/-! ### shutterref14_Line: function 32 -/
def shutterref14_Line.l0 : Nat → Int → List Int → List Int → Bool → Int → Option (List Int)
 | 0, _, _, _, _, _ => none
 | k + 1, d, c, b, e, a => if a < (b.length : Int) then (if 0 ≤ a then (if (rd b a) = d then (if c.length < 17592186044416 then (shutterref14_Line.l0 k d (c ++ [rd b a]) b true (wrap64 (a + 1))) else (none)) else (if e = true then (if c.length < 17592186044416 then (shutterref14_Line.l0 k d (c ++ [rd b a]) b e (wrap64 (a + 1))) else (none)) else (shutterref14_Line.l0 k d c b e (wrap64 (a + 1))))) else (none)) else (some c)
def shutterref14_Line.f (k : Nat) (a : Int) (b : Int) (g : List (S35)) (c : Int) (d : Bool) (e : Bool) (a1 : Int) : Option (List Int) := (shutterref11_Open.f k a b g c d e a1).bind fun h => (if h = true then ((shutterref11_Cells.f k a b g c d e a1).bind fun i => (shutterref14_Line.l0 k a1 ([] : List Int) i false 0)) else (some ([] : List Int)))
theorem shutterref14_Line.mono_l : ∀ k, (∀ b c d e f, LeO (shutterref14_Line.l0 k b c d e f) (shutterref14_Line.l0 (k + 1) b c d e f))
 | 0 => fun _ _ _ _ _ r h => by simp [shutterref14_Line.l0] at h
 | k + 1 => by
  have a := shutterref14_Line.mono_l k
  ·intro b c d e f
   unfold shutterref14_Line.l0
   repeat' first
   | (with_reducible exact a _ _ _ _ _)
   | (with_reducible exact shutterref11_Cells.mono _ _ _ _ _ _ _ _)
   | (with_reducible exact shutterref11_Open.mono _ _ _ _ _ _ _ _)
   | (with_reducible exact LeO.refl _)
   | (with_reducible exact LeO.none _)
   | (with_reducible refine LeO.ite ?_ ?_)
   | (with_reducible refine LeO.bind ?_ (fun _ => ?_))
   | exact a _ _ _ _ _
   | exact shutterref11_Cells.mono _ _ _ _ _ _ _ _
   | exact shutterref11_Open.mono _ _ _ _ _ _ _ _
   | exact LeO.none _
   | refine LeO.ite ?_ ?_
   | refine LeO.bind ?_ (fun _ => ?_)
theorem shutterref14_Line.mono : ∀ a0 a1 b c a4 d e k, LeO (shutterref14_Line.f k a0 a1 b c a4 d e) (shutterref14_Line.f (k + 1) a0 a1 b c a4 d e) := by
 intro a0 a1 b c a4 d e k
 have a := shutterref14_Line.mono_l k
 unfold shutterref14_Line.f
 repeat' first
   | (with_reducible exact a _ _ _ _ _)
   | (with_reducible exact shutterref11_Cells.mono _ _ _ _ _ _ _ _)
   | (with_reducible exact shutterref11_Open.mono _ _ _ _ _ _ _ _)
   | (with_reducible exact LeO.refl _)
   | (with_reducible exact LeO.none _)
   | (with_reducible refine LeO.ite ?_ ?_)
   | (with_reducible refine LeO.bind ?_ (fun _ => ?_))
   | exact a _ _ _ _ _
   | exact shutterref11_Cells.mono _ _ _ _ _ _ _ _
   | exact shutterref11_Open.mono _ _ _ _ _ _ _ _
   | exact LeO.none _
   | refine LeO.ite ?_ ?_
   | refine LeO.bind ?_ (fun _ => ?_)
set_option maxHeartbeats 8000000 in
set_option maxRecDepth 100000 in
theorem shutterref14_Line.calls (k : Nat) (j : Int) (l : Int) (A : Option Addr) (B : Nat) (i : List (S35)) (m : Int) (n : Bool) (p : Bool) (a1 : Int) (r : List Int) (w : World) (ae : Kd.C k35 w A i.length i) (ad : i.length ≤ B) (h : shutterref14_Line.f k j l i m n p a1 = some r) :
  Calls Tryd.prog 32 #[.agg #[.int .i64 j, .int .i64 l, .slice A i.length B, .int .i64 m, .bool n, .bool p], .int .i64 a1] w fun e w' => ∃ a7 : Value, e = .returned (a7) ∧ Kd.R (Kd.int .i64) 3 w' w.heap.size (fun _ => True) a7 r ∧ Below w.heap.size w w' := by
 have bF := Tryd.underlying24
 have Q := Z ae
 have P := Z ad
 clear ae ad
 have HB := Z (Below.refl w.heap.size w)
 have H : ((shutterref11_Open.f k j l i m n p a1).bind fun S => (if S = true then ((shutterref11_Cells.f k j l i m n p a1).bind fun c => (shutterref14_Line.l0 k a1 ([] : List Int) c false 0)) else (some ([] : List Int)))) = some r := h
 clear h
 replace H := Option.bind_eq_some_iff.mp H
 obtain ⟨S, a3, H⟩ := H
 replace H : (if S = true then ((shutterref11_Cells.f k j l i m n p a1).bind fun c => (shutterref14_Line.l0 k a1 ([] : List Int) c false 0)) else (some ([] : List Int))) = some r := H
 have A3 := Z a3
 clear a3
 by_cases c4 : S = true
 ·subst c4
  have H1 : ((shutterref11_Cells.f k j l i m n p a1).bind fun c => (shutterref14_Line.l0 k a1 ([] : List Int) c false 0)) = some r := by rw [if_pos rfl] at H; exact H
  clear H
  have H := H1
  clear H1
  replace H := Option.bind_eq_some_iff.mp H
  obtain ⟨c, a4, H⟩ := H
  replace H : (shutterref14_Line.l0 k a1 ([] : List Int) c false 0) = some r := H
  have A5 := Z a4
  clear a4
  have H' := Z H
  clear H
  go_enter Tryd.func32, Tryd.ntmps32
  go_wp2_with (first | ((with_reducible refine gate_dst (N := 2) rfl ?_); refine bx_ 2 24 #[.int .i64 j, .int .i64 l, .slice A i.length B, .int .i64 m, .bool n, .bool p] ?_; intro y hg w6 hbox hb; have d := Z (hbox); have aM := Z (ln_ hg : w.heap.size ≤ y); have aK := Z (ln_ hg : w.heap.size ≤ y); replace HB := Z (below_step bl_ hb); clear hb hbox hg; obtain ⟨af, ag, ah, ai, aj, ak, ar, au, av, aw, ax, ay⟩ := cells6 d.out) | ((with_reducible refine gate_callee (f := 22) rfl ?_); refine goesL_ (some 11) rfl rfl Tryd.func22 (by kernel_rfl) rfl #[.agg #[.int .i64 j, .int .i64 l, .slice A i.length B, .int .i64 m, .bool n, .bool p], .int .i64 a1] rfl ag_ ?_; (with_reducible refine (shutterref11_Open.calls k j l _ _ i m n p a1 true _ ?side1 ?side2 A3.out).mono ?_); (case side1 => repeat (first | exact (Kd.C_below Q.out HB.out) | (with_reducible apply pC))); (case side2 => exact P.out); rintro e w8 ⟨rfl, hb⟩; refine ⟨_, rfl, ?_⟩; replace d := Z (kb d.out hb); replace HB := Z (below_step bl_ hb); (try clear hb); (try clear a5); (try clear hk); (try clear hi); obtain ⟨al, am, an, ao, ap, aq, az, aA, aC, aD, aE, aG⟩ := cells6 d.out) | ((with_reducible refine gate_callee (f := 57) rfl ?_); refine goesL_ (some 16) rfl rfl Tryd.func57 (by kernel_rfl) rfl #[.agg #[.int .i64 j, .int .i64 l, .slice A i.length B, .int .i64 m, .bool n, .bool p], .int .i64 a1] rfl ag_ ?_; (with_reducible refine (shutterref11_Cells.calls k j l _ _ i m n p a1 c _ ?side1 ?side2 A5.out).mono ?_); (case side1 => repeat (first | exact (Kd.C_below Q.out HB.out) | (with_reducible apply pC))); (case side2 => exact P.out); rintro e bK ⟨aH, rfl, a6, hb⟩; refine ⟨_, rfl, ?_⟩; have aN := Z (Kd.R_lower a6 (below_size bl_)); replace d := Z (kb d.out hb); replace HB := Z (below_step bl_ hb); (try clear hb); (try clear a5); (try clear hk); (try clear hi); (try clear a6)))
  go_loopg [5, 7, 8] k (fun kq v5 v7 v8 w' => ∃ (u : List Int) (T : Bool) (a : Int), v7 = .bool T ∧ v8 = .int .i64 a ∧ Aside0 (shutterref14_Line.l0 kq a1 u c T a = some r) ∧ Aside0 (kq ≤ k) ∧ Aside0 (Kd.R (Kd.int .i64) 3 w' w.heap.size (fun k_ => some k_ ≠ (aH : Value).ownBlock) v5 u) ∧ Aside0 (Kd.R (Kd.int .i64) 3 w' w.heap.size (fun k_ => some k_ ≠ (v5 : Value).ownBlock) aH c) ∧ Aside0 (w'.heap[y]? = some (.cells #[.int .i64 j, .int .i64 l, (.slice A i.length B), .int .i64 m, .bool n, .bool p] 24 (0, 0))) ∧ Aside0 (Below w.heap.size w w'))
  case atStart => exact ⟨(([] : List Int)), (false), (0), (dn_), (dn_), H', ⟨Nat.le_refl _⟩, ⟨by first | exact Kd.R_nil _ _ _ _ _ | exact Kd.N_nil _ _ _ _ _ | exact Kd.V_nil _ _ _ _ _ | exact Kd.Q_nil _ _ _ _ _ | exact Kd.S_nil _ _ _ _ _⟩, ⟨by (with_reducible repeat apply pR); exact Kd.R_mono aN.out (fun _ hk => (by simp [Value.ownBlock]))⟩, ⟨vK d.out⟩, ⟨bl_⟩⟩
  case round =>
   clear H'
   try clear c2
   try clear p2
   try clear c3
   try clear c4
   try clear c5
   try clear af
   try clear ag
   try clear ah
   try clear ai
   try clear aj
   try clear ak
   try clear al
   try clear am
   try clear an
   try clear ao
   try clear ap
   try clear aq
   try clear ar
   try clear au
   try clear av
   try clear aw
   try clear ax
   try clear ay
   try clear az
   try clear aA
   try clear aC
   try clear aD
   try clear aE
   try clear aG
   obtain ⟨u, T, a, rfl, rfl, HA, L, HO_5, HO_6, d, HB⟩ := hrel
   cases gk with
   | zero => exact absurd HA.out (by simp [shutterref14_Line.l0])
   | succ k1 =>
    have H := HA.out
    clear HA
    simp only [shutterref14_Line.l0] at H
    by_cases M : a < (c.length : Int)
    ·rw [if_pos M] at H
     have aZ : decide (a < (c.length : Int)) = true := decide_eq_true M
     clear M
     by_cases Y : 0 ≤ a
     ·rw [if_pos Y] at H
      have bw : decide (0 ≤ a) = true := decide_eq_true Y
      clear Y
      by_cases J : (rd c a) = a1
      ·rw [if_pos J] at H
       have a0 : ((rd c a) == a1) = true := beq_iff_eq.mpr J
       have a2 : ((rd c a) != a1) = false := bne_eq_false_iff_eq.mpr J
       clear J
       by_cases aa : u.length < 17592186044416
       ·rw [if_pos aa] at H
        have aT := Z aa
        clear aa
        obtain ⟨aI, F⟩ : ∃ y_ : List Int, y_ = (u ++ [rd c a]) := ⟨_, rfl⟩
        replace H : (shutterref14_Line.l0 k1 a1 aI c true (wrap64 (a + 1))) = some r := by first | (rw [F]; with_reducible exact H) | (have I := (Option.bind_some _ _).symm.trans H; rw [F]; with_reducible exact I) | (have I := (Option.bind_some _ _).symm.trans H; with_reducible exact I) | with_reducible exact H | (rw [F]; exact H) | exact H
        have aV := Z F
        clear F
        have H' := Z H
        clear H
        obtain ⟨bz, a8, bc⟩ := Kd.R_slice HO_6.out
        subst bc
        have v : 0 ≤ (a : Int) := od_
        have x : a < (c.length : Int) := od_
        obtain ⟨E, K, O⟩ := Kd.at_int (Kd.R_reads' HO_6.out).2.2 a v x
        cases K
        replace v := eq_true v
        replace x := eq_true x
        have U : 0 ≤ (a : Int) := od_
        have W : a < (c.length : Int) := od_
        obtain ⟨aX, ba, bs⟩ := Kd.at_int (Kd.R_reads' HO_6.out).2.2 a U W
        obtain rfl : E = aX := (by injection ba)
        replace U := eq_true U
        replace W := eq_true W
        go_wp2_with (first | ((with_reducible refine gate_builtin (b := .append) (xs := #[.tmp 30, .tmp 35]) rfl ?_); at_builtin; refine Kd.R_append (Kd.int .i64) (w0 := w) w.heap.size rfl (.tmp 30) (.tmp 35) 41 3 (.int .i64 0) 8 rfl Tryd.underlying41 info3 rfl (by decide) (by omega) u5 u (rd c a) [.int .i64 (rd c a)] (fun k_ => some k_ ≠ (.slice (some E) c.length a8 : Value).ownBlock) (fun _ => False) rfl rfl ?aP (fun _ hk => hk.elim) ?aF ?aO ?aB ?aS ?aL ?_; (case aP => exact rfl); (case aB => exact bl_); (case aF => exact (fun k_ hk => Kd.fresh' (Kd.R_lt (by (with_reducible repeat apply pR); exact HO_6.out)) k_ hk)); (case aO => exact (by (with_reducible repeat apply pR); exact HO_5.out)); (case aS => exact (below_size bl_)); (case aL => have := aT.out; omega); intro bG bL ho hb hg hat; rw [← aV.out] at ho; replace HO_6 := Z (Kd.R_after (ok := (fun _ => True)) (by (with_reducible repeat apply pR); exact Kd.R_mono HO_6.out (fun _ hk => ⟨trivial, hk⟩)) hg hat); replace d := Z (blk_grown (g := y) (o := .cells #[.int .i64 j, .int .i64 l, .slice A i.length B, .int .i64 m, .bool n, .bool p] 24 (0, 0)) (vK d.out) hg (Kd.R_ne HO_5.out d.out (by decide))); replace HB := Z (hb); have aQ := Z (ho); clear HO_5; clear ho hb hg hat))
        go_roundg k1
        case measure => have := L.out; omega
        case rel => exact ⟨(aI), (true), (wrap64 (a + 1)), (dn_), (dn_), H', ⟨by have := L.out; omega⟩, ⟨by (with_reducible repeat apply pR); exact aQ.out⟩, ⟨by (with_reducible repeat apply pR); exact Kd.R_mono HO_6.out (fun _ hk => hk.2)⟩, ⟨vK d.out⟩, ⟨bl_⟩⟩
       ·rw [if_neg aa] at H
        exact absurd H (by simp)
      ·rw [if_neg J] at H
       have a0 : ((rd c a) == a1) = false := beq_eq_false_iff_ne.mpr J
       have a2 : ((rd c a) != a1) = true := bne_iff_ne.mpr J
       by_cases ab : T = true
       ·subst ab
        have H1 : (if u.length < 17592186044416 then (shutterref14_Line.l0 k1 a1 (u ++ [rd c a]) c true (wrap64 (a + 1))) else (none)) = some r := by rw [if_pos rfl] at H; exact H
        clear H
        have H := H1
        clear H1
        by_cases ac : u.length < 17592186044416
        ·rw [if_pos ac] at H
         have aU := Z ac
         clear ac
         obtain ⟨aJ, G⟩ : ∃ y_ : List Int, y_ = (u ++ [rd c a]) := ⟨_, rfl⟩
         replace H : (shutterref14_Line.l0 k1 a1 aJ c true (wrap64 (a + 1))) = some r := by first | (rw [G]; with_reducible exact H) | (have I := (Option.bind_some _ _).symm.trans H; rw [G]; with_reducible exact I) | (have I := (Option.bind_some _ _).symm.trans H; with_reducible exact I) | with_reducible exact H | (rw [G]; exact H) | exact H
         have aW := Z G
         clear G
         have H' := Z H
         clear H
         obtain ⟨bA, a9, bd⟩ := Kd.R_slice HO_6.out
         subst bd
         have v : 0 ≤ (a : Int) := od_
         have x : a < (c.length : Int) := od_
         obtain ⟨E, K, O⟩ := Kd.at_int (Kd.R_reads' HO_6.out).2.2 a v x
         cases K
         replace v := eq_true v
         replace x := eq_true x
         have V : 0 ≤ (a : Int) := od_
         have X : a < (c.length : Int) := od_
         obtain ⟨aY, bb, bt⟩ := Kd.at_int (Kd.R_reads' HO_6.out).2.2 a V X
         obtain rfl : E = aY := (by injection bb)
         replace V := eq_true V
         replace X := eq_true X
         go_wp2_with (first | ((with_reducible refine gate_builtin (b := .append) (xs := #[.tmp 30, .tmp 35]) rfl ?_); at_builtin; refine Kd.R_append (Kd.int .i64) (w0 := w) w.heap.size rfl (.tmp 30) (.tmp 35) 41 3 (.int .i64 0) 8 rfl Tryd.underlying41 info3 rfl (by decide) (by omega) u5 u (rd c a) [.int .i64 (rd c a)] (fun k_ => some k_ ≠ (.slice (some E) c.length a9 : Value).ownBlock) (fun _ => False) rfl rfl ?aP (fun _ hk => hk.elim) ?aF ?aO ?aB ?aS ?aL ?_; (case aP => exact rfl); (case aB => exact bl_); (case aF => exact (fun k_ hk => Kd.fresh' (Kd.R_lt (by (with_reducible repeat apply pR); exact HO_6.out)) k_ hk)); (case aO => exact (by (with_reducible repeat apply pR); exact HO_5.out)); (case aS => exact (below_size bl_)); (case aL => have := aU.out; omega); intro bH bM ho hb hg hat; rw [← aW.out] at ho; replace HO_6 := Z (Kd.R_after (ok := (fun _ => True)) (by (with_reducible repeat apply pR); exact Kd.R_mono HO_6.out (fun _ hk => ⟨trivial, hk⟩)) hg hat); replace d := Z (blk_grown (g := y) (o := .cells #[.int .i64 j, .int .i64 l, .slice A i.length B, .int .i64 m, .bool n, .bool p] 24 (0, 0)) (vK d.out) hg (Kd.R_ne HO_5.out d.out (by decide))); replace HB := Z (hb); have aR := Z (ho); clear HO_5; clear ho hb hg hat))
         go_roundg k1
         case measure => have := L.out; omega
         case rel => exact ⟨(aJ), (true), (wrap64 (a + 1)), (dn_), (dn_), H', ⟨by have := L.out; omega⟩, ⟨by (with_reducible repeat apply pR); exact aR.out⟩, ⟨by (with_reducible repeat apply pR); exact Kd.R_mono HO_6.out (fun _ hk => hk.2)⟩, ⟨vK d.out⟩, ⟨bl_⟩⟩
        ·rw [if_neg ac] at H
         exact absurd H (by simp)
       ·replace ab := Bool.eq_false_iff.mpr ab
        subst ab
        have H1 : (shutterref14_Line.l0 k1 a1 u c false (wrap64 (a + 1))) = some r := by rw [if_neg (show ¬ (false = true) by decide)] at H; exact H
        clear H
        have H := H1
        clear H1
        have H' := Z H
        clear H
        obtain ⟨bB, bD, be⟩ := Kd.R_slice HO_6.out
        subst be
        have v : 0 ≤ (a : Int) := od_
        have x : a < (c.length : Int) := od_
        obtain ⟨E, K, O⟩ := Kd.at_int (Kd.R_reads' HO_6.out).2.2 a v x
        cases K
        replace v := eq_true v
        replace x := eq_true x
        go_wp2
        go_roundg k1
        case measure => have := L.out; omega
        case rel => exact ⟨(u), (false), (wrap64 (a + 1)), (dn_), (dn_), H', ⟨by have := L.out; omega⟩, ⟨by (with_reducible repeat apply pR); exact HO_5.out⟩, ⟨by (with_reducible repeat apply pR); exact HO_6.out⟩, ⟨vK d.out⟩, ⟨bl_⟩⟩
     ·rw [if_neg Y] at H
      exact absurd H (by simp)
    ·rw [if_neg M] at H
     have aZ : decide (a < (c.length : Int)) = false := decide_eq_false M
     clear M
     obtain rfl := Option.some.inj H
     obtain ⟨bC, bE, bf⟩ := Kd.R_slice HO_6.out
     subst bf
     go_wp2
     go_ret
     exact ⟨_, er_, by (with_reducible repeat apply pR); exact Kd.R_mono HO_5.out (fun _ hk => trivial), bl_⟩
 ·replace c4 := Bool.eq_false_iff.mpr c4
  subst c4
  have H1 : (some ([] : List Int)) = some r := by rw [if_neg (show ¬ (false = true) by decide)] at H; exact H
  clear H
  have H := H1
  clear H1
  obtain rfl := Option.some.inj H
  go_enter Tryd.func32, Tryd.ntmps32
  go_wp2_with (first | ((with_reducible refine gate_dst (N := 2) rfl ?_); refine bx_ 2 24 #[.int .i64 j, .int .i64 l, .slice A i.length B, .int .i64 m, .bool n, .bool p] ?_; intro y hg bN hbox hb; have d := Z (hbox); have aM := Z (ln_ hg : w.heap.size ≤ y); have aK := Z (ln_ hg : w.heap.size ≤ y); replace HB := Z (below_step bl_ hb); clear hb hbox hg; obtain ⟨bg, bh, bi, bj, bk, bl, bm, bn, bo, bp, bq, br⟩ := cells6 d.out) | ((with_reducible refine gate_callee (f := 22) rfl ?_); refine goesL_ (some 11) rfl rfl Tryd.func22 (by kernel_rfl) rfl #[.agg #[.int .i64 j, .int .i64 l, .slice A i.length B, .int .i64 m, .bool n, .bool p], .int .i64 a1] rfl ag_ ?_; (with_reducible refine (shutterref11_Open.calls k j l _ _ i m n p a1 false _ ?side1 ?side2 A3.out).mono ?_); (case side1 => repeat (first | exact (Kd.C_below Q.out HB.out) | (with_reducible apply pC))); (case side2 => exact P.out); rintro e bO ⟨rfl, hb⟩; refine ⟨_, rfl, ?_⟩; replace d := Z (kb d.out hb); replace HB := Z (below_step bl_ hb); (try clear hb); (try clear a5); (try clear hk); (try clear hi)))
  go_ret
  exact ⟨_, er_, by first | exact Kd.R_nil _ _ _ _ _ | exact Kd.N_nil _ _ _ _ _ | exact Kd.V_nil _ _ _ _ _ | exact Kd.Q_nil _ _ _ _ _ | exact Kd.S_nil _ _ _ _ _, bl_⟩

end Go.Proofs.YtggecanpjkpkiaaDoor.P
