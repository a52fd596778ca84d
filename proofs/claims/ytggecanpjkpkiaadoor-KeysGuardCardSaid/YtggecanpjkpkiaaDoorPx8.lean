/- pp.py and press2.py (wip/tools) wrote this text. -/
import Derived.Test.YtggecanpjkpkiaaDoorPx0
import Derived.Test.YtggecanpjkpkiaaDoorPxS
import Derived.Test.YtggecanpjkpkiaaDoorPx6
import Derived.Test.YtggecanpjkpkiaaDoorPx7
namespace Go.Proofs.YtggecanpjkpkiaaDoor.P
open Go.RowKit Go.Proofs.YtggecanpjkpkiaaDoorW.PrintWords Go.Proofs.YtggecanpjkpkiaaDoorW.PrintLast Go.Proofs.YtggecanpjkpkiaaDoorW.PrintMore
attribute [local go_sem] max2_int min2_int max_two min_two max_three min_three max_four min_four
attribute [local go_sem] Instr.field asAgg
set_option linter.unusedVariables false
set_option linter.unusedSimpArgs false

/-! ### edit_onward: function 56 -/
def edit_onward.j0 : Nat → Int → Bool → Int → Int → List (S35) → Int → Bool → Bool → Option (Int)
 | 0, _, _, _, _, _, _, _, _ => none
 | k + 1, l, m, a, b, c, d, e, g => if m = true then ((field_Next.f a b c d e g l).bind fun h => (if h ≥ 0 then (some h) else ((grid_On.f a b c d e g l 1).bind fun i => (some i)))) else ((grid_On.f a b c d e g l 1).bind fun j => (some j))
def edit_onward.f (k : Nat) (d : Int) (e : Int) (b : List (S35)) (c : Int) (g : Bool) (h : Bool) : Option (Int) := (grid_On.f d e b c g h c 1).bind fun a => (if 0 ≤ a then (if a < (b.length : Int) then (if ((rd_T35 b a).f0 = true) then (if (rd_T35 b a).f1.f0 = true then (edit_onward.j0 k a ((rd_T35 b a).f1.f1) d e b c g h) else (edit_onward.j0 k a false d e b c g h)) else (some a)) else (none)) else (none))
theorem edit_onward.mono_l : ∀ k, (∀ b c d e f g i j, LeO (edit_onward.j0 k b c d e f g i j) (edit_onward.j0 (k + 1) b c d e f g i j))
 | 0 => fun _ _ _ _ _ _ _ _ r h => by simp [edit_onward.j0] at h
 | k + 1 => by
  have a := edit_onward.mono_l k
  ·intro b c d e f g i j
   unfold edit_onward.j0
   repeat' first
   | (with_reducible exact a _ _ _ _ _ _ _ _)
   | (with_reducible exact LeO.refl _)
   | (with_reducible exact LeO.none _)
   | (with_reducible refine LeO.ite ?_ ?_)
   | (with_reducible refine LeO.bind ?_ (fun _ => ?_))
   | exact a _ _ _ _ _ _ _ _
   | exact LeO.none _
   | refine LeO.ite ?_ ?_
   | refine LeO.bind ?_ (fun _ => ?_)
theorem edit_onward.mono : ∀ a0 a1 b c a4 d k, LeO (edit_onward.f k a0 a1 b c a4 d) (edit_onward.f (k + 1) a0 a1 b c a4 d) := by
 intro a0 a1 b c a4 d k
 have a := edit_onward.mono_l k
 unfold edit_onward.f
 repeat' first
   | (with_reducible exact a _ _ _ _ _ _ _ _)
   | (with_reducible exact LeO.refl _)
   | (with_reducible exact LeO.none _)
   | (with_reducible refine LeO.ite ?_ ?_)
   | (with_reducible refine LeO.bind ?_ (fun _ => ?_))
   | exact a _ _ _ _ _ _ _ _
   | exact LeO.none _
   | refine LeO.ite ?_ ?_
   | refine LeO.bind ?_ (fun _ => ?_)
set_option maxHeartbeats 8000000 in
set_option maxRecDepth 100000 in
theorem edit_onward.calls (k : Nat) (g : Int) (i : Int) (P : Option Addr) (B : Nat) (b : List (S35)) (d : Int) (j : Bool) (l : Bool) (r : Int) (w : World) (ag : Kd.C k35 w P b.length b) (af : b.length ≤ B) (h : edit_onward.f k g i b d j l = some r) :
  Calls Tryd.prog 56 #[.agg #[.int .i64 g, .int .i64 i, .slice P b.length B, .int .i64 d, .bool j, .bool l]] w fun e w' => e = .returned (.int .i64 r) ∧ Below w.heap.size w w' := by
 have di := Tryd.underlying24
 have dj := Tryd.underlying35
 have D := Z ag
 have K := Z af
 clear ag af
 have HB := Z (Below.refl w.heap.size w)
 have H : ((grid_On.f g i b d j l d 1).bind fun a => (if 0 ≤ a then (if a < (b.length : Int) then (if ((rd_T35 b a).f0 = true) then (if (rd_T35 b a).f1.f0 = true then (edit_onward.j0 k a ((rd_T35 b a).f1.f1) g i b d j l) else (edit_onward.j0 k a false g i b d j l)) else (some a)) else (none)) else (none))) = some r := h
 clear h
 replace H := Option.bind_eq_some_iff.mp H
 obtain ⟨a, br, H⟩ := H
 replace H : (if 0 ≤ a then (if a < (b.length : Int) then (if ((rd_T35 b a).f0 = true) then (if (rd_T35 b a).f1.f0 = true then (edit_onward.j0 k a ((rd_T35 b a).f1.f1) g i b d j l) else (edit_onward.j0 k a false g i b d j l)) else (some a)) else (none)) else (none)) = some r := H
 have A2 := Z br
 clear br
 by_cases c3 : 0 ≤ a
 ·rw [if_pos c3] at H
  have bu : decide (0 ≤ a) = true := decide_eq_true c3
  clear c3
  by_cases c4 : a < (b.length : Int)
  ·rw [if_pos c4] at H
   have bv : decide (a < (b.length : Int)) = true := decide_eq_true c4
   clear c4
   obtain ⟨bt, ad⟩ : ∃ b_ : Bool, b_ = ((rd_T35 b a).f0) := ⟨_, rfl⟩
   replace H : (if (bt = true) then (if (rd_T35 b a).f1.f0 = true then (edit_onward.j0 k a ((rd_T35 b a).f1.f1) g i b d j l) else (edit_onward.j0 k a false g i b d j l)) else (some a)) = some r := by rw [← ad] at H; exact H
   have E := Z ad
   clear ad
   by_cases c6 : (bt = true)
   ·subst c6
    have H1 : (if (rd_T35 b a).f1.f0 = true then (edit_onward.j0 k a ((rd_T35 b a).f1.f1) g i b d j l) else (edit_onward.j0 k a false g i b d j l)) = some r := by rw [if_pos rfl] at H; exact H
    clear H
    have H := H1
    clear H1
    have a8 := Z H
    clear H
    go_enter Tryd.func56, Tryd.ntmps56
    go_upto_region 5 with (first | ((with_reducible refine gate_dst (N := 1) rfl ?_); refine bx_ 1 24 #[.int .i64 g, .int .i64 i, .slice P b.length B, .int .i64 d, .bool j, .bool l] ?_; intro M hg w8 hbox hb; have c := Z (hbox); have bo := Z (ln_ hg : w.heap.size ≤ M); have bm := Z (ln_ hg : w.heap.size ≤ M); replace HB := Z (below_step bl_ hb); clear hb hbox hg; obtain ⟨ba, bb, bc, bd, be, bf, bg, bh, bi, bj, bk, bl⟩ := cells6 c.out) | ((with_reducible refine gate_callee (f := 80) rfl ?_); refine goesL_ (some 9) rfl rfl Tryd.func80 (by kernel_rfl) rfl #[.agg #[.int .i64 g, .int .i64 i, .slice P b.length B, .int .i64 d, .bool j, .bool l], .int .i64 d, .int .i64 1] rfl ag_ ?_; (with_reducible refine (grid_On.calls g i _ _ b d j l d 1 a _ ?side1 ?side2 A2.out).mono ?_); (case side1 => repeat (first | exact (Kd.C_below D.out HB.out) | (with_reducible apply pC))); (case side2 => exact K.out); rintro e du ⟨rfl, hb⟩; refine ⟨_, rfl, ?_⟩; replace c := Z (kb c.out hb); replace HB := Z (below_step bl_ hb); (try clear hb); (try clear X); (try clear hk); (try clear hi); obtain ⟨ah, ai, aj, ak, al, am, aH, aI, aJ, aK, aL, aM⟩ := cells6 c.out; have I : 0 ≤ (a : Int) := od_; have J : a < (b.length : Int) := od_; obtain ⟨L, ac, s, u, v, z, x, A⟩ := at_T35 D.out a I J; (try rw [← E.out] at s); (try rw [← E.out] at u); (try rw [← E.out] at v); (try rw [← E.out] at x); cases ac; replace s := (HB.out.cell (bk_ w _ s)).trans s; replace u := (HB.out.cell (bk_ w _ u)).trans u; replace v := (HB.out.cell (bk_ w _ v)).trans v; replace z := (HB.out.cell (bk_ w _ z)).trans z; replace x := (HB.out.cell (bk_ w _ x)).trans x; replace A := (HB.out.cell (bk_ w _ A)).trans A; replace I := eq_true I; replace J := eq_true J) | ((with_reducible refine gate_dst (N := 4) rfl ?_); refine bx_ 4 35 #[.bool false, .bool false, .bool false, .int .i64 0, .bool false, .int .u8 0] ?_; intro O hg dv hbox hb; have m := Z (hbox); have bp := Z (ln_ hg : w.heap.size ≤ O); have bn := Z (ln_ hg : w.heap.size ≤ O); replace HB := Z (below_step bl_ hb); have n := Z (nl c.out hg); have q := Z (ng c.out hg); replace c := Z (kb c.out hb); clear hb hbox hg; have cY := q.out; have db := n.out; obtain ⟨an, ao, ap, aq, ar, au, aN, aO, aP, aQ, aR, aS⟩ := cells6 m.out))
    (try simp only [Act.put, sA, sB, sC])
    go_cut [26] (fun cX wc => ∃ (kq : Nat) (R : Bool), cX = .bool R ∧ Aside0 (edit_onward.j0 kq a R g i b d j l = some r) ∧ Aside0 (kq ≤ k) ∧ Aside0 (wc.heap[M]? = some (.cells #[.int .i64 g, .int .i64 i, (.slice (some L) b.length B), .int .i64 d, .bool j, .bool l] 24 (0, 0))) ∧ Aside0 (wc.heap[O]? = some (.cells #[.bool true, .bool ((rd_T35 b a).f1.f0), .bool ((rd_T35 b a).f1.f1), .int .i64 ((rd_T35 b a).f1.f2), .bool ((rd_T35 b a).f1.f3), .int .u8 ((rd_T35 b a).f2)] 35 (0, 0))) ∧ Aside0 (Below w.heap.size w wc))
    case first =>
     have H := a8.out
     clear a8
     obtain ⟨a9, U⟩ : ∃ b_ : Bool, b_ = ((rd_T35 b a).f1.f0) := ⟨_, rfl⟩
     replace H : (if a9 = true then (edit_onward.j0 k a ((rd_T35 b a).f1.f1) g i b d j l) else (edit_onward.j0 k a false g i b d j l)) = some r := by rw [← U] at H; exact H
     have T := Z U
     clear U
     (try rw [← T.out])
     by_cases W : a9 = true
     ·subst W
      have H1 : (edit_onward.j0 k a ((rd_T35 b a).f1.f1) g i b d j l) = some r := by rw [if_pos rfl] at H; exact H
      clear H
      have H := H1
      clear H1
      have H' := Z H
      clear H
      have cZ := q.out
      have dc := n.out
      obtain ⟨av, aw, ax, ay, az, aA, aT, aU, aV, aW, aX, aY⟩ := cells6 m.out
      go_wp2
      go_meet
      case rel => exact ⟨_, ((rd_T35 b a).f1.f1), (dn_), H', ⟨by first | omega | exact Nat.le_refl _⟩, ⟨blk_off c.out n.out off2_⟩, ⟨by first | exact put6 m.out | (simp only [← T.out, ← E.out]; exact put6 m.out)⟩, ⟨bl_⟩⟩
     ·replace W := Bool.eq_false_iff.mpr W
      subst W
      have H1 : (edit_onward.j0 k a false g i b d j l) = some r := by rw [if_neg (show ¬ (false = true) by decide)] at H; exact H
      clear H
      have H := H1
      clear H1
      have H' := Z H
      clear H
      have c0 := q.out
      have dd := n.out
      obtain ⟨aB, aC, aD, aE, aF, aG, aZ, a0, a1, a2, a3, a4⟩ := cells6 m.out
      go_wp2
      go_meet
      case rel => exact ⟨_, (false), (dn_), H', ⟨by first | omega | exact Nat.le_refl _⟩, ⟨blk_off c.out n.out off2_⟩, ⟨by first | exact put6 m.out | (simp only [← T.out, ← E.out]; exact put6 m.out)⟩, ⟨bl_⟩⟩
    case rest =>
     clear a8
     try clear c1
     try clear p1
     try clear q1
     try clear hx1
     try clear p2
     try clear c3
     try clear bu
     try clear c4
     try clear bv
     try clear c5
     try clear q5
     try clear c6
     try clear c8
     try clear dm
     try clear ds
     try clear W
     try clear dr
     try clear dt
     try clear dk
     try clear dn
     try clear dp
     try clear ah
     try clear ai
     try clear aj
     try clear ak
     try clear al
     try clear am
     try clear an
     try clear ao
     try clear ap
     try clear aq
     try clear ar
     try clear au
     try clear av
     try clear aw
     try clear ax
     try clear ay
     try clear az
     try clear aA
     try clear aB
     try clear aC
     try clear aD
     try clear aE
     try clear aF
     try clear aG
     try clear ba
     try clear bb
     try clear bc
     try clear bd
     try clear be
     try clear bf
     try clear aH
     try clear aI
     try clear aJ
     try clear aK
     try clear aL
     try clear aM
     try clear aN
     try clear aO
     try clear aP
     try clear aQ
     try clear aR
     try clear aS
     try clear aT
     try clear aU
     try clear aV
     try clear aW
     try clear aX
     try clear aY
     try clear aZ
     try clear a0
     try clear a1
     try clear a2
     try clear a3
     try clear a4
     try clear bg
     try clear bh
     try clear bi
     try clear bj
     try clear bk
     try clear bl
     try clear s
     try clear u
     try clear v
     try clear z
     try clear x
     try clear A
     try clear I
     try clear J
     obtain ⟨kq, R, rfl, HA, dl, c, m, HB⟩ := hcut
     cases kq with
     | zero => exact absurd HA.out (by simp [edit_onward.j0])
     | succ dq =>
      have H := HA.out
      clear HA
      simp only [edit_onward.j0] at H
      by_cases ae : R = true
      ·subst ae
       have H1 : ((field_Next.f g i b d j l a).bind fun F => (if F ≥ 0 then (some F) else ((grid_On.f g i b d j l a 1).bind fun Q => (some Q)))) = some r := by rw [if_pos rfl] at H; exact H
       clear H
       have H := H1
       clear H1
       replace H := Option.bind_eq_some_iff.mp H
       obtain ⟨F, a5, H⟩ := H
       replace H : (if F ≥ 0 then (some F) else ((grid_On.f g i b d j l a 1).bind fun Q => (some Q))) = some r := H
       have bs := Z a5
       clear a5
       by_cases S : F ≥ 0
       ·rw [if_pos S] at H
        have bq : decide (0 ≤ F) = true := decide_eq_true S
        clear S
        obtain rfl := Option.some.inj H
        have c2 := n.out
        have de := q.out
        obtain ⟨bw, bx, bz, bA, bB, bC, cd, ce, cf, cg, ch, ci⟩ := cells6 c.out
        go_wp2_with (first | ((with_reducible refine gate_callee (f := 67) rfl ?_); refine goesL_ (some 29) rfl rfl Tryd.func67 (by kernel_rfl) rfl #[.agg #[.int .i64 g, .int .i64 i, .slice (some L) b.length B, .int .i64 d, .bool j, .bool l], .int .i64 a] rfl ag_ ?_; (with_reducible refine (field_Next.calls g i _ _ b d j l a F _ ?side1 ?side2 bs.out).mono ?_); (case side1 => repeat (first | exact (Kd.C_below D.out HB.out) | (with_reducible apply pC))); (case side2 => exact K.out); rintro e dw ⟨rfl, hb⟩; refine ⟨_, rfl, ?_⟩; replace c := Z (kb c.out hb); replace m := Z (kb m.out hb); replace HB := Z (below_step bl_ hb); (try clear hb); (try clear X); (try clear hk); (try clear hi)))
        go_ret
        exact ⟨er_, bl_⟩
       ·rw [if_neg S] at H
        have bq : decide (0 ≤ F) = false := decide_eq_false S
        clear S
        replace H := Option.bind_eq_some_iff.mp H
        obtain ⟨Q, a6, H⟩ := H
        replace H : (some Q) = some r := H
        have cV := Z a6
        clear a6
        obtain rfl := Option.some.inj H
        have c7 := n.out
        have df := q.out
        obtain ⟨bD, bE, bF, bG, bH, bI, cj, ck, cl, cm, cn, co⟩ := cells6 c.out
        go_wp2_with (first | ((with_reducible refine gate_callee (f := 67) rfl ?_); refine goesL_ (some 29) rfl rfl Tryd.func67 (by kernel_rfl) rfl #[.agg #[.int .i64 g, .int .i64 i, .slice (some L) b.length B, .int .i64 d, .bool j, .bool l], .int .i64 a] rfl ag_ ?_; (with_reducible refine (field_Next.calls g i _ _ b d j l a F _ ?side1 ?side2 bs.out).mono ?_); (case side1 => repeat (first | exact (Kd.C_below D.out HB.out) | (with_reducible apply pC))); (case side2 => exact K.out); rintro e dx ⟨rfl, hb⟩; refine ⟨_, rfl, ?_⟩; replace c := Z (kb c.out hb); replace m := Z (kb m.out hb); replace HB := Z (below_step bl_ hb); (try clear hb); (try clear X); (try clear hk); (try clear hi); obtain ⟨bJ, bK, bL, bM, bN, bO, cp, cq, cr, ct, cu, cv⟩ := cells6 c.out) | ((with_reducible refine gate_callee (f := 80) rfl ?_); refine goesL_ (some 35) rfl rfl Tryd.func80 (by kernel_rfl) rfl #[.agg #[.int .i64 g, .int .i64 i, .slice (some L) b.length B, .int .i64 d, .bool j, .bool l], .int .i64 a, .int .i64 1] rfl ag_ ?_; (with_reducible refine (grid_On.calls g i _ _ b d j l a 1 Q _ ?side1 ?side2 cV.out).mono ?_); (case side1 => repeat (first | exact (Kd.C_below D.out HB.out) | (with_reducible apply pC))); (case side2 => exact K.out); rintro e dy ⟨rfl, hb⟩; refine ⟨_, rfl, ?_⟩; replace c := Z (kb c.out hb); replace m := Z (kb m.out hb); replace HB := Z (below_step bl_ hb); (try clear hb); (try clear X); (try clear hk); (try clear hi)))
        go_ret
        exact ⟨er_, bl_⟩
      ·replace ae := Bool.eq_false_iff.mpr ae
       subst ae
       have H1 : ((grid_On.f g i b d j l a 1).bind fun V => (some V)) = some r := by rw [if_neg (show ¬ (false = true) by decide)] at H; exact H
       clear H
       have H := H1
       clear H1
       replace H := Option.bind_eq_some_iff.mp H
       obtain ⟨V, a7, H⟩ := H
       replace H : (some V) = some r := H
       have cW := Z a7
       clear a7
       obtain rfl := Option.some.inj H
       have c9 := n.out
       have dg := q.out
       obtain ⟨bP, bQ, bR, bS, bT, bU, cw, cx, cy, cz, cA, cB⟩ := cells6 c.out
       go_wp2_with (first | ((with_reducible refine gate_callee (f := 80) rfl ?_); refine goesL_ (some 35) rfl rfl Tryd.func80 (by kernel_rfl) rfl #[.agg #[.int .i64 g, .int .i64 i, .slice (some L) b.length B, .int .i64 d, .bool j, .bool l], .int .i64 a, .int .i64 1] rfl ag_ ?_; (with_reducible refine (grid_On.calls g i _ _ b d j l a 1 V _ ?side1 ?side2 cW.out).mono ?_); (case side1 => repeat (first | exact (Kd.C_below D.out HB.out) | (with_reducible apply pC))); (case side2 => exact K.out); rintro e dz ⟨rfl, hb⟩; refine ⟨_, rfl, ?_⟩; replace c := Z (kb c.out hb); replace m := Z (kb m.out hb); replace HB := Z (below_step bl_ hb); (try clear hb); (try clear X); (try clear hk); (try clear hi)))
       go_ret
       exact ⟨er_, bl_⟩
   ·replace c6 := Bool.eq_false_iff.mpr c6
    subst c6
    have H1 : (some a) = some r := by rw [if_neg (show ¬ (false = true) by decide)] at H; exact H
    clear H
    have H := H1
    clear H1
    obtain rfl := Option.some.inj H
    go_enter Tryd.func56, Tryd.ntmps56
    go_wp2_with (first | ((with_reducible refine gate_dst (N := 1) rfl ?_); refine bx_ 1 24 #[.int .i64 g, .int .i64 i, .slice P b.length B, .int .i64 d, .bool j, .bool l] ?_; intro M hg dA hbox hb; have c := Z (hbox); have bo := Z (ln_ hg : w.heap.size ≤ M); have bm := Z (ln_ hg : w.heap.size ≤ M); replace HB := Z (below_step bl_ hb); clear hb hbox hg; obtain ⟨bV, bW, bX, bY, bZ, b0, cC, cD, cE, cF, cG, cH⟩ := cells6 c.out) | ((with_reducible refine gate_callee (f := 80) rfl ?_); refine goesL_ (some 9) rfl rfl Tryd.func80 (by kernel_rfl) rfl #[.agg #[.int .i64 g, .int .i64 i, .slice P b.length B, .int .i64 d, .bool j, .bool l], .int .i64 d, .int .i64 1] rfl ag_ ?_; (with_reducible refine (grid_On.calls g i _ _ b d j l d 1 a _ ?side1 ?side2 A2.out).mono ?_); (case side1 => repeat (first | exact (Kd.C_below D.out HB.out) | (with_reducible apply pC))); (case side2 => exact K.out); rintro e dB ⟨rfl, hb⟩; refine ⟨_, rfl, ?_⟩; replace c := Z (kb c.out hb); replace HB := Z (below_step bl_ hb); (try clear hb); (try clear X); (try clear hk); (try clear hi); obtain ⟨b1, b2, b3, b4, b5, b6, cI, cJ, cK, cL, cM, cN⟩ := cells6 c.out; have I : 0 ≤ (a : Int) := od_; have J : a < (b.length : Int) := od_; obtain ⟨L, ac, s, u, v, z, x, A⟩ := at_T35 D.out a I J; (try rw [← E.out] at s); (try rw [← E.out] at u); (try rw [← E.out] at v); (try rw [← E.out] at x); cases ac; replace s := (HB.out.cell (bk_ w _ s)).trans s; replace u := (HB.out.cell (bk_ w _ u)).trans u; replace v := (HB.out.cell (bk_ w _ v)).trans v; replace z := (HB.out.cell (bk_ w _ z)).trans z; replace x := (HB.out.cell (bk_ w _ x)).trans x; replace A := (HB.out.cell (bk_ w _ A)).trans A; replace I := eq_true I; replace J := eq_true J) | ((with_reducible refine gate_dst (N := 4) rfl ?_); refine bx_ 4 35 #[.bool false, .bool false, .bool false, .int .i64 0, .bool false, .int .u8 0] ?_; intro O hg dC hbox hb; have m := Z (hbox); have bp := Z (ln_ hg : w.heap.size ≤ O); have bn := Z (ln_ hg : w.heap.size ≤ O); replace HB := Z (below_step bl_ hb); have n := Z (nl c.out hg); have q := Z (ng c.out hg); replace c := Z (kb c.out hb); clear hb hbox hg; have da := q.out; have dh := n.out; obtain ⟨b7, b8, b9, ca, cb, cc, cO, cP, cQ, cR, cS, cT⟩ := cells6 m.out))
    go_ret
    exact ⟨er_, bl_⟩
  ·rw [if_neg c4] at H
   exact absurd H (by simp)
 ·rw [if_neg c3] at H
  exact absurd H (by simp)

end Go.Proofs.YtggecanpjkpkiaaDoor.P
