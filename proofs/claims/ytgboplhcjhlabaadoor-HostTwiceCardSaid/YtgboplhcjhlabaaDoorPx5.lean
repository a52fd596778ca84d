/- pp.py and press2.py (wip/tools) wrote this text. -/
import Derived.Test.YtgboplhcjhlabaaDoorPx0
import Derived.Test.YtgboplhcjhlabaaDoorPxS
import Derived.Test.YtgboplhcjhlabaaDoorPx4
namespace Go.Proofs.YtgboplhcjhlabaaDoor.P
open Go.RowKit Go.Proofs.YtgboplhcjhlabaaDoorW.PrintWords Go.Proofs.YtgboplhcjhlabaaDoorW.PrintLast Go.Proofs.YtgboplhcjhlabaaDoorW.PrintMore
attribute [local go_sem] max2_int min2_int max_two min_two max_three min_three max_four min_four
attribute [local go_sem] Instr.field asAgg
set_option linter.unusedVariables false
set_option linter.unusedSimpArgs false

/-! ### shutterref10_Right: function 21 -/
mutual
def shutterref10_Right.j0 : Nat → Bool → Int → Int → List (S44) → Int → Bool → Bool → Option (Bool)
 | 0, _, _, _, _, _, _, _ => none
 | k + 1, g, a, b, c, d, e, f => if g = true then (some false) else (shutterref10_Right.l0 k 0 a b c d e f)
def shutterref10_Right.l0 : Nat → Int → Int → Int → List (S44) → Int → Bool → Bool → Option (Bool)
 | 0, _, _, _, _, _, _, _ => none
 | k + 1, b, c, d, a, e, g, h => if b < (a.length : Int) then (if 0 ≤ b then ((shutterref10_Cell.f ((rd_T44 a b).f0) ((rd_T44 a b).f1.f0) ((rd_T44 a b).f1.f1) ((rd_T44 a b).f1.f2) ((rd_T44 a b).f1.f3) ((rd_T44 a b).f2)).bind fun i => (if i = true then (shutterref10_Right.l0 k (wrap64 (b + 1)) c d a e g h) else (some false))) else (none)) else (some true)
end
def shutterref10_Right.f (k : Nat) (a : Int) (b : Int) (d : List (S44)) (c : Int) (e : Bool) (g : Bool) : Option (Bool) := (shutterref10_Sized.f a b).bind fun h => (if h = true then (if (d.length : Int) = (wrap64 (a * b)) then (if c < 0 then (shutterref10_Right.j0 k true a b d c e g) else (shutterref10_Right.j0 k (decide (c ≥ (d.length : Int))) a b d c e g)) else (shutterref10_Right.j0 k true a b d c e g)) else (shutterref10_Right.j0 k true a b d c e g))
theorem shutterref10_Right.mono_l : ∀ k, (∀ a b c d e f g, LeO (shutterref10_Right.j0 k a b c d e f g) (shutterref10_Right.j0 (k + 1) a b c d e f g)) ∧ (∀ a b c d e f g, LeO (shutterref10_Right.l0 k a b c d e f g) (shutterref10_Right.l0 (k + 1) a b c d e f g))
 | 0 => ⟨fun _ _ _ _ _ _ _ r h => by simp [shutterref10_Right.j0] at h, fun _ _ _ _ _ _ _ r h => by simp [shutterref10_Right.l0] at h⟩
 | k + 1 => by
  obtain ⟨i, j⟩ := shutterref10_Right.mono_l k
  refine ⟨?_, ?_⟩
  ·intro a b c d e f g
   unfold shutterref10_Right.j0
   repeat' first
   | (with_reducible exact i _ _ _ _ _ _ _)
   | (with_reducible exact j _ _ _ _ _ _ _)
   | (with_reducible exact LeO.refl _)
   | (with_reducible exact LeO.none _)
   | (with_reducible refine LeO.ite ?_ ?_)
   | (with_reducible refine LeO.bind ?_ (fun _ => ?_))
   | exact i _ _ _ _ _ _ _
   | exact j _ _ _ _ _ _ _
   | exact LeO.none _
   | refine LeO.ite ?_ ?_
   | refine LeO.bind ?_ (fun _ => ?_)
  ·intro a b c d e f g
   unfold shutterref10_Right.l0
   repeat' first
   | (with_reducible exact i _ _ _ _ _ _ _)
   | (with_reducible exact j _ _ _ _ _ _ _)
   | (with_reducible exact LeO.refl _)
   | (with_reducible exact LeO.none _)
   | (with_reducible refine LeO.ite ?_ ?_)
   | (with_reducible refine LeO.bind ?_ (fun _ => ?_))
   | exact i _ _ _ _ _ _ _
   | exact j _ _ _ _ _ _ _
   | exact LeO.none _
   | refine LeO.ite ?_ ?_
   | refine LeO.bind ?_ (fun _ => ?_)
theorem shutterref10_Right.mono : ∀ a0 a1 c d a4 e k, LeO (shutterref10_Right.f k a0 a1 c d a4 e) (shutterref10_Right.f (k + 1) a0 a1 c d a4 e) := by
 intro a0 a1 c d a4 e k
 obtain ⟨a, b⟩ := shutterref10_Right.mono_l k
 unfold shutterref10_Right.f
 repeat' first
   | (with_reducible exact a _ _ _ _ _ _ _)
   | (with_reducible exact b _ _ _ _ _ _ _)
   | (with_reducible exact LeO.refl _)
   | (with_reducible exact LeO.none _)
   | (with_reducible refine LeO.ite ?_ ?_)
   | (with_reducible refine LeO.bind ?_ (fun _ => ?_))
   | exact a _ _ _ _ _ _ _
   | exact b _ _ _ _ _ _ _
   | exact LeO.none _
   | refine LeO.ite ?_ ?_
   | refine LeO.bind ?_ (fun _ => ?_)
set_option maxHeartbeats 8000000 in
set_option maxRecDepth 100000 in
theorem shutterref10_Right.calls (k : Nat) (c : Int) (d : Int) (D : Option Addr) (E : Nat) (a : List (S44)) (g : Int) (j : Bool) (l : Bool) (r : Bool) (w : World) (aQ : Kd.C k44 w D a.length a) (aP : a.length ≤ E) (h : shutterref10_Right.f k c d a g j l = some r) :
  Calls Tryd.prog 21 #[.agg #[.int .i64 c, .int .i64 d, .slice D a.length E, .int .i64 g, .bool j, .bool l]] w fun e w' => e = .returned (.bool r) ∧ Below w.heap.size w w' := by
 have bL := Tryd.underlying24
 have bM := Tryd.underlying44
 have aM := Z aQ
 have bJ := Z aP
 clear aQ aP
 have HB := Z (Below.refl w.heap.size w)
 have H : ((shutterref10_Sized.f c d).bind fun ah => (if ah = true then (if (a.length : Int) = (wrap64 (c * d)) then (if g < 0 then (shutterref10_Right.j0 k true c d a g j l) else (shutterref10_Right.j0 k (decide (g ≥ (a.length : Int))) c d a g j l)) else (shutterref10_Right.j0 k true c d a g j l)) else (shutterref10_Right.j0 k true c d a g j l))) = some r := h
 clear h
 have aS := Z H
 clear H
 go_enter Tryd.func21, Tryd.ntmps21
 go_upto_region 1 with (first | ((with_reducible refine gate_dst (N := 1) rfl ?_); (try (refine gate_guard (by rfl) ?_; dsimp only)); refine bx_ 1 24 #[.int .i64 c, .int .i64 d, .slice D a.length E, .int .i64 g, .bool j, .bool l] ?_; intro A hg w3 hbox hb; have i := Z (hbox); have bI := Z (ln_ hg : w.heap.size ≤ A); have bH := Z (ln_ hg : w.heap.size ≤ A); replace HB := Z (below_step bl_ hb); clear hb hbox hg))
 (try simp only [Act.put, sA, sB, sC])
 go_cut [33] (fun bG wc => ∃ (kq : Nat) (B : Bool), bG = .bool B ∧ Aside0 (shutterref10_Right.j0 kq B c d a g j l = some r) ∧ Aside0 (kq ≤ k) ∧ Aside0 (wc.heap[A]? = some (.cells #[.int .i64 c, .int .i64 d, (.slice D a.length E), .int .i64 g, .bool j, .bool l] 24 (0, 0))) ∧ Aside0 (Below w.heap.size w wc))
 case first =>
  have H := aS.out
  clear aS
  replace H := Option.bind_eq_some_iff.mp H
  obtain ⟨ah, aZ, H⟩ := H
  replace H : (if ah = true then (if (a.length : Int) = (wrap64 (c * d)) then (if g < 0 then (shutterref10_Right.j0 k true c d a g j l) else (shutterref10_Right.j0 k (decide (g ≥ (a.length : Int))) c d a g j l)) else (shutterref10_Right.j0 k true c d a g j l)) else (shutterref10_Right.j0 k true c d a g j l)) = some r := H
  have A4 := Z aZ
  clear aZ
  by_cases c5 : ah = true
  ·subst c5
   have H1 : (if (a.length : Int) = (wrap64 (c * d)) then (if g < 0 then (shutterref10_Right.j0 k true c d a g j l) else (shutterref10_Right.j0 k (decide (g ≥ (a.length : Int))) c d a g j l)) else (shutterref10_Right.j0 k true c d a g j l)) = some r := by rw [if_pos rfl] at H; exact H
   clear H
   have H := H1
   clear H1
   by_cases c6 : (a.length : Int) = (wrap64 (c * d))
   ·rw [if_pos c6] at H
    have u : ((a.length : Int) == (wrap64 (c * d))) = true := beq_iff_eq.mpr c6
    have aJ : ((a.length : Int) != (wrap64 (c * d))) = false := bne_eq_false_iff_eq.mpr c6
    clear c6
    (first | rw [u] | (simp only [i64_w, i32_w]; rw [u]) | skip)
    by_cases c7 : g < 0
    ·rw [if_pos c7] at H
     have aK : decide (g < 0) = true := decide_eq_true c7
     clear c7
     have H' := Z H
     clear H
     obtain ⟨aj, ak, al, am, an, ao, ax, ay, az, aA, aB, aC⟩ := cells6 i.out
     go_wp2_with (first | ((with_reducible refine gate_callee (f := 45) rfl ?_); refine goesL_ (some 8) rfl rfl Tryd.func45 (by kernel_rfl) rfl #[.int .i64 c, .int .i64 d] rfl ag_ ?_; (with_reducible refine (shutterref10_Sized.calls c d true _ A4.out).mono ?_); rintro e w' ⟨rfl, ⟨nd, rfl⟩⟩; refine ⟨_, rfl, ?_⟩))
     go_meet
     case rel => exact ⟨_, (true), (dn_), H', ⟨by first | omega | exact Nat.le_refl _⟩, ⟨vK i.out⟩, ⟨bl_⟩⟩
    ·rw [if_neg c7] at H
     have aK : decide (g < 0) = false := decide_eq_false c7
     clear c7
     have H' := Z H
     clear H
     obtain ⟨ap, aq, ar, au, av, aw, aD, aE, aF, aG, aH, aI⟩ := cells6 i.out
     go_wp2_with (first | ((with_reducible refine gate_callee (f := 45) rfl ?_); refine goesL_ (some 8) rfl rfl Tryd.func45 (by kernel_rfl) rfl #[.int .i64 c, .int .i64 d] rfl ag_ ?_; (with_reducible refine (shutterref10_Sized.calls c d true _ A4.out).mono ?_); rintro e w' ⟨rfl, ⟨nd, rfl⟩⟩; refine ⟨_, rfl, ?_⟩))
     go_meet
     case rel => exact ⟨_, (decide (g ≥ (a.length : Int))), (dn_), H', ⟨by first | omega | exact Nat.le_refl _⟩, ⟨vK i.out⟩, ⟨bl_⟩⟩
   ·rw [if_neg c6] at H
    have u : ((a.length : Int) == (wrap64 (c * d))) = false := beq_eq_false_iff_ne.mpr c6
    have aJ : ((a.length : Int) != (wrap64 (c * d))) = true := bne_iff_ne.mpr c6
    (first | rw [u] | (simp only [i64_w, i32_w]; rw [u]) | skip)
    have H' := Z H
    clear H
    obtain ⟨G, I, J, K, L, M, U, V, W, X, Y, aa⟩ := cells6 i.out
    go_wp2_with (first | ((with_reducible refine gate_callee (f := 45) rfl ?_); refine goesL_ (some 8) rfl rfl Tryd.func45 (by kernel_rfl) rfl #[.int .i64 c, .int .i64 d] rfl ag_ ?_; (with_reducible refine (shutterref10_Sized.calls c d true _ A4.out).mono ?_); rintro e w' ⟨rfl, ⟨nd, rfl⟩⟩; refine ⟨_, rfl, ?_⟩))
    go_meet
    case rel => exact ⟨_, (true), (dn_), H', ⟨by first | omega | exact Nat.le_refl _⟩, ⟨vK i.out⟩, ⟨bl_⟩⟩
  ·replace c5 := Bool.eq_false_iff.mpr c5
   subst c5
   have H1 : (shutterref10_Right.j0 k true c d a g j l) = some r := by rw [if_neg (show ¬ (false = true) by decide)] at H; exact H
   clear H
   have H := H1
   clear H1
   have H' := Z H
   clear H
   obtain ⟨O, P, Q, R, S, T, ab, ac, ad, ae, af, ag⟩ := cells6 i.out
   go_wp2_with (first | ((with_reducible refine gate_callee (f := 45) rfl ?_); refine goesL_ (some 8) rfl rfl Tryd.func45 (by kernel_rfl) rfl #[.int .i64 c, .int .i64 d] rfl ag_ ?_; (with_reducible refine (shutterref10_Sized.calls c d false _ A4.out).mono ?_); rintro e w' ⟨rfl, ⟨nd, rfl⟩⟩; refine ⟨_, rfl, ?_⟩))
   go_meet
   case rel => exact ⟨_, (true), (dn_), H', ⟨by first | omega | exact Nat.le_refl _⟩, ⟨vK i.out⟩, ⟨bl_⟩⟩
 case rest =>
  clear aS
  try clear c2
  try clear p2
  try clear c4
  try clear c5
  try clear c6
  try clear u
  try clear aJ
  try clear p6
  try clear c7
  try clear aK
  try clear G
  try clear I
  try clear J
  try clear K
  try clear L
  try clear M
  try clear O
  try clear P
  try clear Q
  try clear R
  try clear S
  try clear T
  try clear aj
  try clear ak
  try clear al
  try clear am
  try clear an
  try clear ao
  try clear ap
  try clear aq
  try clear ar
  try clear au
  try clear av
  try clear aw
  try clear U
  try clear V
  try clear W
  try clear X
  try clear Y
  try clear aa
  try clear ab
  try clear ac
  try clear ad
  try clear ae
  try clear af
  try clear ag
  try clear ax
  try clear ay
  try clear az
  try clear aA
  try clear aB
  try clear aC
  try clear aD
  try clear aE
  try clear aF
  try clear aG
  try clear aH
  try clear aI
  obtain ⟨kq, B, rfl, HA, a0, i, HB⟩ := hcut
  cases kq with
  | zero => exact absurd HA.out (by simp [shutterref10_Right.j0])
  | succ aT =>
   have H := HA.out
   clear HA
   simp only [shutterref10_Right.j0] at H
   by_cases ai : B = true
   ·subst ai
    have H1 : (some false) = some r := by rw [if_pos rfl] at H; exact H
    clear H
    have H := H1
    clear H1
    obtain rfl := Option.some.inj H
    go_wp2
    go_ret
    exact ⟨er_, bl_⟩
   ·replace ai := Bool.eq_false_iff.mpr ai
    subst ai
    have H1 : (shutterref10_Right.l0 aT 0 c d a g j l) = some r := by rw [if_neg (show ¬ (false = true) by decide)] at H; exact H
    clear H
    have H := H1
    clear H1
    have H' := Z H
    clear H
    go_wp2
    go_loopg [3] aT (fun kq v3 w' => ∃ (b : Int), v3 = .int .i64 b ∧ Aside0 (shutterref10_Right.l0 kq b c d a g j l = some r) ∧ Aside0 (kq ≤ aT) ∧ Aside0 (w'.heap[A]? = some (.cells #[.int .i64 c, .int .i64 d, (.slice D a.length E), .int .i64 g, .bool j, .bool l] 24 (0, 0))) ∧ Aside0 (Below w.heap.size w w'))
    case atStart => exact ⟨(0), (dn_), H', ⟨Nat.le_refl _⟩, ⟨vK i.out⟩, ⟨bl_⟩⟩
    case round =>
     clear H'
     try clear c1
     try clear c2
     try clear p2
     try clear c4
     try clear c5
     try clear c6
     try clear u
     try clear aJ
     try clear p6
     try clear c7
     try clear aK
     try clear ai
     try clear G
     try clear I
     try clear J
     try clear K
     try clear L
     try clear M
     try clear O
     try clear P
     try clear Q
     try clear R
     try clear S
     try clear T
     try clear aj
     try clear ak
     try clear al
     try clear am
     try clear an
     try clear ao
     try clear ap
     try clear aq
     try clear ar
     try clear au
     try clear av
     try clear aw
     try clear U
     try clear V
     try clear W
     try clear X
     try clear Y
     try clear aa
     try clear ab
     try clear ac
     try clear ad
     try clear ae
     try clear af
     try clear ag
     try clear ax
     try clear ay
     try clear az
     try clear aA
     try clear aB
     try clear aC
     try clear aD
     try clear aE
     try clear aF
     try clear aG
     try clear aH
     try clear aI
     try clear p2
     try clear p6
     obtain ⟨b, rfl, HA, a1, i, HB⟩ := hrel
     cases gk with
     | zero => exact absurd HA.out (by simp [shutterref10_Right.l0])
     | succ k2 =>
      have H := HA.out
      clear HA
      simp only [shutterref10_Right.l0] at H
      by_cases F : b < (a.length : Int)
      ·rw [if_pos F] at H
       have aX : decide (b < (a.length : Int)) = true := decide_eq_true F
       clear F
       by_cases aN : 0 ≤ b
       ·rw [if_pos aN] at H
        have bK : decide (0 ≤ b) = true := decide_eq_true aN
        clear aN
        replace H := Option.bind_eq_some_iff.mp H
        obtain ⟨aU, aR, H⟩ := H
        replace H : (if aU = true then (shutterref10_Right.l0 k2 (wrap64 (b + 1)) c d a g j l) else (some false)) = some r := H
        have aY := Z aR
        clear aR
        by_cases aO : aU = true
        ·subst aO
         have H1 : (shutterref10_Right.l0 k2 (wrap64 (b + 1)) c d a g j l) = some r := by rw [if_pos rfl] at H; exact H
         clear H
         have H := H1
         clear H1
         have H' := Z H
         clear H
         obtain ⟨a4, a5, a6, a7, a8, a9, bm, bn, bo, bp, bq, br⟩ := cells6 i.out
         have v : 0 ≤ (b : Int) := od_
         have x : b < (a.length : Int) := od_
         obtain ⟨aW, aL, m, n, o, p, q, s⟩ := at_T44 aM.out b v x
         cases aL
         replace m := (HB.out.cell (bk_ w _ m)).trans m
         replace n := (HB.out.cell (bk_ w _ n)).trans n
         replace o := (HB.out.cell (bk_ w _ o)).trans o
         replace p := (HB.out.cell (bk_ w _ p)).trans p
         replace q := (HB.out.cell (bk_ w _ q)).trans q
         replace s := (HB.out.cell (bk_ w _ s)).trans s
         replace v := eq_true v
         replace x := eq_true x
         go_wp2_with (first | ((with_reducible refine gate_callee (f := 46) rfl ?_); refine goesL_ (some 46) rfl rfl Tryd.func46 (by kernel_rfl) rfl #[.agg #[.bool ((rd_T44 a b).f0), .bool ((rd_T44 a b).f1.f0), .bool ((rd_T44 a b).f1.f1), .int .i64 ((rd_T44 a b).f1.f2), .bool ((rd_T44 a b).f1.f3), .int .u8 ((rd_T44 a b).f2)]] rfl ag_ ?_; (with_reducible refine (shutterref10_Cell.calls ((rd_T44 a b).f0) ((rd_T44 a b).f1.f0) ((rd_T44 a b).f1.f1) ((rd_T44 a b).f1.f2) ((rd_T44 a b).f1.f3) ((rd_T44 a b).f2) true _ aY.out).mono ?_); rintro e bO ⟨rfl, hb⟩; refine ⟨_, rfl, ?_⟩; replace i := Z (kb i.out hb); replace HB := Z (below_step bl_ hb); (try clear hb); (try clear bF); (try clear hk); (try clear hi)))
         go_roundg k2
         case measure => have := a0.out; have := a1.out; omega
         case rel => exact ⟨(wrap64 (b + 1)), (dn_), H', ⟨by have := a0.out; have := a1.out; omega⟩, ⟨vK i.out⟩, ⟨bl_⟩⟩
        ·replace aO := Bool.eq_false_iff.mpr aO
         subst aO
         have H1 : (some false) = some r := by rw [if_neg (show ¬ (false = true) by decide)] at H; exact H
         clear H
         have H := H1
         clear H1
         obtain rfl := Option.some.inj H
         obtain ⟨ba, bb, bc, bd, be, bf, bs, bt, bu, bv, bw, bx⟩ := cells6 i.out
         have v : 0 ≤ (b : Int) := od_
         have x : b < (a.length : Int) := od_
         obtain ⟨aW, aL, m, n, o, p, q, s⟩ := at_T44 aM.out b v x
         cases aL
         replace m := (HB.out.cell (bk_ w _ m)).trans m
         replace n := (HB.out.cell (bk_ w _ n)).trans n
         replace o := (HB.out.cell (bk_ w _ o)).trans o
         replace p := (HB.out.cell (bk_ w _ p)).trans p
         replace q := (HB.out.cell (bk_ w _ q)).trans q
         replace s := (HB.out.cell (bk_ w _ s)).trans s
         replace v := eq_true v
         replace x := eq_true x
         go_wp2_with (first | ((with_reducible refine gate_callee (f := 46) rfl ?_); refine goesL_ (some 46) rfl rfl Tryd.func46 (by kernel_rfl) rfl #[.agg #[.bool ((rd_T44 a b).f0), .bool ((rd_T44 a b).f1.f0), .bool ((rd_T44 a b).f1.f1), .int .i64 ((rd_T44 a b).f1.f2), .bool ((rd_T44 a b).f1.f3), .int .u8 ((rd_T44 a b).f2)]] rfl ag_ ?_; (with_reducible refine (shutterref10_Cell.calls ((rd_T44 a b).f0) ((rd_T44 a b).f1.f0) ((rd_T44 a b).f1.f1) ((rd_T44 a b).f1.f2) ((rd_T44 a b).f1.f3) ((rd_T44 a b).f2) false _ aY.out).mono ?_); rintro e bP ⟨rfl, hb⟩; refine ⟨_, rfl, ?_⟩; replace i := Z (kb i.out hb); replace HB := Z (below_step bl_ hb); (try clear hb); (try clear bF); (try clear hk); (try clear hi)))
         go_ret
         exact ⟨er_, bl_⟩
       ·rw [if_neg aN] at H
        exact absurd H (by simp)
      ·rw [if_neg F] at H
       have aX : decide (b < (a.length : Int)) = false := decide_eq_false F
       clear F
       obtain rfl := Option.some.inj H
       obtain ⟨bg, bh, bi, bj, bk, bl, bz, bA, bB, bC, bD, bE⟩ := cells6 i.out
       go_wp2
       go_ret
       exact ⟨er_, bl_⟩

/-! ### shutterref10_Few: function 15 -/
def shutterref10_Few.f (k : Nat) (b : Int) (c : Int) (a : List (S44)) (d : Int) (e : Bool) (g : Bool) : Option (Bool) := if (a.length : Int) ≤ 200 then ((shutterref10_Right.f k b c a d e g).bind fun h => (some h)) else (some false)
theorem shutterref10_Few.mono : ∀ a0 a1 a b a4 c k, LeO (shutterref10_Few.f k a0 a1 a b a4 c) (shutterref10_Few.f (k + 1) a0 a1 a b a4 c) := by
 intro a0 a1 a b a4 c k
 unfold shutterref10_Few.f
 repeat' first
   | (with_reducible exact shutterref10_Right.mono _ _ _ _ _ _ _)
   | (with_reducible exact LeO.refl _)
   | (with_reducible exact LeO.none _)
   | (with_reducible refine LeO.ite ?_ ?_)
   | (with_reducible refine LeO.bind ?_ (fun _ => ?_))
   | exact shutterref10_Right.mono _ _ _ _ _ _ _
   | exact LeO.none _
   | refine LeO.ite ?_ ?_
   | refine LeO.bind ?_ (fun _ => ?_)
set_option maxHeartbeats 8000000 in
set_option maxRecDepth 100000 in
theorem shutterref10_Few.calls (k : Nat) (d : Int) (g : Int) (o : Option Addr) (p : Nat) (a : List (S44)) (i : Int) (j : Bool) (l : Bool) (r : Bool) (w : World) (x : Kd.C k44 w o a.length a) (v : a.length ≤ p) (h : shutterref10_Few.f k d g a i j l = some r) :
  Calls Tryd.prog 15 #[.agg #[.int .i64 d, .int .i64 g, .slice o a.length p, .int .i64 i, .bool j, .bool l]] w fun e w' => e = .returned (.bool r) ∧ Below w.heap.size w w' := by
 have ai := Tryd.underlying24
 have B := Z x
 have A := Z v
 clear x v
 have HB := Z (Below.refl w.heap.size w)
 have H : (if (a.length : Int) ≤ 200 then ((shutterref10_Right.f k d g a i j l).bind fun q => (some q)) else (some false)) = some r := h
 clear h
 by_cases c2 : (a.length : Int) ≤ 200
 ·rw [if_pos c2] at H
  have E : decide ((a.length : Int) ≤ 200) = true := decide_eq_true c2
  have F : decide (a.length ≤ 200) = true := decide_eq_true (by omega)
  clear c2
  replace H := Option.bind_eq_some_iff.mp H
  obtain ⟨q, D, H⟩ := H
  replace H : (some q) = some r := H
  have A3 := Z D
  clear D
  obtain rfl := Option.some.inj H
  go_enter Tryd.func15, Tryd.ntmps15
  go_wp2_with (first | ((with_reducible refine gate_dst (N := 1) rfl ?_); refine bx_ 1 24 #[.int .i64 d, .int .i64 g, .slice o a.length p, .int .i64 i, .bool j, .bool l] ?_; intro c hg w4 hbox hb; have b := Z (hbox); have z := Z (ln_ hg : w.heap.size ≤ c); have y := Z (ln_ hg : w.heap.size ≤ c); replace HB := Z (below_step bl_ hb); clear hb hbox hg; obtain ⟨G, I, J, K, L, M, U, V, W, X, Y, aa⟩ := cells6 b.out) | (go_at_call 21; (with_reducible refine (shutterref10_Right.calls k d g _ _ a i j l q _ ?side1 ?side2 A3.out).mono ?_); (case side1 => repeat (first | exact (Kd.C_below B.out HB.out) | (with_reducible apply pC))); (case side2 => exact A.out); rintro e w6 ⟨rfl, hb⟩; replace b := Z (kb b.out hb); replace HB := Z (below_step bl_ hb); (try clear hb); (try clear aj); (try clear hk); (try clear hi)))
  go_ret
  exact ⟨er_, bl_⟩
 ·rw [if_neg c2] at H
  have E : decide ((a.length : Int) ≤ 200) = false := decide_eq_false c2
  have F : decide (a.length ≤ 200) = false := decide_eq_false (by omega)
  clear c2
  obtain rfl := Option.some.inj H
  go_enter Tryd.func15, Tryd.ntmps15
  go_wp2_with (first | ((with_reducible refine gate_dst (N := 1) rfl ?_); refine bx_ 1 24 #[.int .i64 d, .int .i64 g, .slice o a.length p, .int .i64 i, .bool j, .bool l] ?_; intro c hg w7 hbox hb; have b := Z (hbox); have z := Z (ln_ hg : w.heap.size ≤ c); have y := Z (ln_ hg : w.heap.size ≤ c); replace HB := Z (below_step bl_ hb); clear hb hbox hg; obtain ⟨O, P, Q, R, S, T, ab, ac, ad, ae, af, ag⟩ := cells6 b.out))
  go_ret
  exact ⟨er_, bl_⟩

end Go.Proofs.YtgboplhcjhlabaaDoor.P
