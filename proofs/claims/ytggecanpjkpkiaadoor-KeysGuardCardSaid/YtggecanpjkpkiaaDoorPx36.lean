/- pp.py and press2.py (wip/tools) wrote this text. -/
import Derived.Test.YtggecanpjkpkiaaDoorPx0
import Derived.Test.YtggecanpjkpkiaaDoorPxS
import Derived.Test.YtggecanpjkpkiaaDoorPx2
import Derived.Test.YtggecanpjkpkiaaDoorPx3
import Derived.Test.YtggecanpjkpkiaaDoorPx4
import Derived.Test.YtggecanpjkpkiaaDoorPx10
import Derived.Test.YtggecanpjkpkiaaDoorPx35
import Derived.Test.YtggecanpjkpkiaaDoorPx35L
namespace Go.Proofs.YtggecanpjkpkiaaDoor.P
open Go.RowKit Go.Proofs.YtggecanpjkpkiaaDoorW.PrintWords Go.Proofs.YtggecanpjkpkiaaDoorW.PrintLast Go.Proofs.YtggecanpjkpkiaaDoorW.PrintMore
attribute [local go_sem] max2_int min2_int max_two min_two max_three min_three max_four min_four
attribute [local go_sem] Instr.field asAgg
set_option linter.unusedVariables false
set_option linter.unusedSimpArgs false

attribute [local go_sem high] eqA35
theorem off3_ {P : Prop} (h : P := by intro k hk; (with_reducible repeat refine set_far_ hk ?_); first | with_reducible rfl | rfl) : P := h
/-! ### shutterlaw17_KeysGuard: function 13 -/
mutual
def shutterlaw17_KeysGuard.j0 : Nat → Bool → Int → Int → List (S35) → Int → Bool → Bool → Int → Int → Option (Bool)
 | 0, _, _, _, _, _, _, _, _, _ => none
 | k + 1, n, c, d, b, e, g, h, i, j => if n = true then ((shutterlaw17_awake.f k).bind fun l => (some l)) else ((keys_Do.f k c d b e g h i j).bind fun a => (if a.2.2.2.2.2.2.1 = true then (none) else ((shutterref10_Right.f k a.1 a.2.1 a.2.2.1 a.2.2.2.1 a.2.2.2.2.1 a.2.2.2.2.2.1).bind fun m => (if m = true then (if (a.2.2.1.length : Int) = (b.length : Int) then (shutterlaw17_KeysGuard.l0 k 0 c d b e g h i j a.1 a.2.1 a.2.2.1 a.2.2.2.1 a.2.2.2.2.1 a.2.2.2.2.2.1) else (none)) else (none)))))
def shutterlaw17_KeysGuard.l0 : Nat → Int → Int → Int → List (S35) → Int → Bool → Bool → Int → Int → Int → Int → List (S35) → Int → Bool → Bool → Option (Bool)
 | 0, _, _, _, _, _, _, _, _, _, _, _, _, _, _, _ => none
 | k + 1, c, d, e, b, g, h, i, j, l, m, n, a, o, p, q => if c < (b.length : Int) then (if 0 ≤ c then (if c < (a.length : Int) then (if (((rd_T35 a c).f0) == ((rd_T35 b c).f0) && ((((rd_T35 a c).f1.f0) == ((rd_T35 b c).f1.f0) && (((rd_T35 a c).f1.f1) == ((rd_T35 b c).f1.f1) && (((rd_T35 a c).f1.f2) == ((rd_T35 b c).f1.f2) && (((rd_T35 a c).f1.f3) == ((rd_T35 b c).f1.f3))))) && (((rd_T35 a c).f2) == ((rd_T35 b c).f2)))) = true then (shutterlaw17_KeysGuard.l0 k (wrap64 (c + 1)) d e b g h i j l m n a o p q) else (if (rd_T35 b c).f0 = true then (if (!(((rd_T35 a c).f0) == ((rd_T35 b c).f0)) || ((!(((rd_T35 a c).f1.f0) == ((rd_T35 b c).f1.f0)) || (!(((rd_T35 a c).f1.f1) == ((rd_T35 b c).f1.f1)) || (!(((rd_T35 a c).f1.f2) == ((rd_T35 b c).f1.f2))))) || (!(((rd_T35 a c).f2) == ((rd_T35 b c).f2))))) = true then (none) else (shutterlaw17_KeysGuard.l0 k (wrap64 (c + 1)) d e b g h i j l m n a o p q)) else ((shutterref11_Begin.f k d e b g h i c).bind fun r => (if (rd_T35 a c).f0 = true then (none) else ((shutterref11_Open.f k d e b g h i c).bind fun s => (if s = true then (if j = 14 then (if ((rd_T35 a c).f2) = 0 then (shutterlaw17_KeysGuard.l0 k (wrap64 (c + 1)) d e b g h i j l m n a o p q) else (none)) else (if r ≥ 0 then (if 0 ≤ r then (if r < (a.length : Int) then (if ((rd_T35 a r).f1.f3 = true) then (shutterlaw17_KeysGuard.l0 k (wrap64 (c + 1)) d e b g h i j l m n a o p q) else (none)) else (none)) else (none)) else (shutterlaw17_KeysGuard.l0 k (wrap64 (c + 1)) d e b g h i j l m n a o p q))) else (none))))))) else (none)) else (none)) else (some true)
end
def shutterlaw17_KeysGuard.f (k : Nat) (a : Int) (b : Int) (h : List (S35)) (c : Int) (d : Bool) (e : Bool) (g : Int) (i : Int) : Option (Bool) := (shutterlaw17_awake.f k).bind fun j => (if j = true then ((shutterref10_Few.f k a b h c d e).bind fun l => (if l = true then (shutterlaw17_KeysGuard.j0 k (g == 17) a b h c d e g i) else (shutterlaw17_KeysGuard.j0 k true a b h c d e g i))) else (none))
theorem shutterlaw17_KeysGuard.mono_l : ∀ k, (∀ a b c d e f g i j, LeO (shutterlaw17_KeysGuard.j0 k a b c d e f g i j) (shutterlaw17_KeysGuard.j0 (k + 1) a b c d e f g i j)) ∧ (∀ a b c d e f g i j t n o p q s, LeO (shutterlaw17_KeysGuard.l0 k a b c d e f g i j t n o p q s) (shutterlaw17_KeysGuard.l0 (k + 1) a b c d e f g i j t n o p q s))
 | 0 => ⟨fun _ _ _ _ _ _ _ _ _ r h => by simp [shutterlaw17_KeysGuard.j0] at h, fun _ _ _ _ _ _ _ _ _ _ _ _ _ _ _ r h => by simp [shutterlaw17_KeysGuard.l0] at h⟩
 | k + 1 => by
  obtain ⟨l, m⟩ := shutterlaw17_KeysGuard.mono_l k
  refine ⟨?_, ?_⟩
  ·intro a b c d e f g i j
   unfold shutterlaw17_KeysGuard.j0
   repeat' first
   | (with_reducible exact l _ _ _ _ _ _ _ _ _)
   | (with_reducible exact m _ _ _ _ _ _ _ _ _ _ _ _ _ _ _)
   | (with_reducible exact keys_Do.mono _ _ _ _ _ _ _ _ _)
   | (with_reducible exact shutterlaw17_awake.mono _)
   | (with_reducible exact shutterref10_Few.mono _ _ _ _ _ _ _)
   | (with_reducible exact shutterref10_Right.mono _ _ _ _ _ _ _)
   | (with_reducible exact shutterref11_Begin.mono _ _ _ _ _ _ _ _)
   | (with_reducible exact shutterref11_Open.mono _ _ _ _ _ _ _ _)
   | (with_reducible exact LeO.refl _)
   | (with_reducible exact LeO.none _)
   | (with_reducible refine LeO.ite ?_ ?_)
   | (with_reducible refine LeO.bind ?_ (fun _ => ?_))
   | exact l _ _ _ _ _ _ _ _ _
   | exact m _ _ _ _ _ _ _ _ _ _ _ _ _ _ _
   | exact keys_Do.mono _ _ _ _ _ _ _ _ _
   | exact shutterlaw17_awake.mono _
   | exact shutterref10_Few.mono _ _ _ _ _ _ _
   | exact shutterref10_Right.mono _ _ _ _ _ _ _
   | exact shutterref11_Begin.mono _ _ _ _ _ _ _ _
   | exact shutterref11_Open.mono _ _ _ _ _ _ _ _
   | exact LeO.none _
   | refine LeO.ite ?_ ?_
   | refine LeO.bind ?_ (fun _ => ?_)
  ·intro a b c d e f g i j t n o p q s
   unfold shutterlaw17_KeysGuard.l0
   repeat' first
   | (with_reducible exact l _ _ _ _ _ _ _ _ _)
   | (with_reducible exact m _ _ _ _ _ _ _ _ _ _ _ _ _ _ _)
   | (with_reducible exact keys_Do.mono _ _ _ _ _ _ _ _ _)
   | (with_reducible exact shutterlaw17_awake.mono _)
   | (with_reducible exact shutterref10_Few.mono _ _ _ _ _ _ _)
   | (with_reducible exact shutterref10_Right.mono _ _ _ _ _ _ _)
   | (with_reducible exact shutterref11_Begin.mono _ _ _ _ _ _ _ _)
   | (with_reducible exact shutterref11_Open.mono _ _ _ _ _ _ _ _)
   | (with_reducible exact LeO.refl _)
   | (with_reducible exact LeO.none _)
   | (with_reducible refine LeO.ite ?_ ?_)
   | (with_reducible refine LeO.bind ?_ (fun _ => ?_))
   | exact l _ _ _ _ _ _ _ _ _
   | exact m _ _ _ _ _ _ _ _ _ _ _ _ _ _ _
   | exact keys_Do.mono _ _ _ _ _ _ _ _ _
   | exact shutterlaw17_awake.mono _
   | exact shutterref10_Few.mono _ _ _ _ _ _ _
   | exact shutterref10_Right.mono _ _ _ _ _ _ _
   | exact shutterref11_Begin.mono _ _ _ _ _ _ _ _
   | exact shutterref11_Open.mono _ _ _ _ _ _ _ _
   | exact LeO.none _
   | refine LeO.ite ?_ ?_
   | refine LeO.bind ?_ (fun _ => ?_)
theorem shutterlaw17_KeysGuard.mono : ∀ a0 a1 c d a4 e g h k, LeO (shutterlaw17_KeysGuard.f k a0 a1 c d a4 e g h) (shutterlaw17_KeysGuard.f (k + 1) a0 a1 c d a4 e g h) := by
 intro a0 a1 c d a4 e g h k
 obtain ⟨a, b⟩ := shutterlaw17_KeysGuard.mono_l k
 unfold shutterlaw17_KeysGuard.f
 repeat' first
   | (with_reducible exact a _ _ _ _ _ _ _ _ _)
   | (with_reducible exact b _ _ _ _ _ _ _ _ _ _ _ _ _ _ _)
   | (with_reducible exact keys_Do.mono _ _ _ _ _ _ _ _ _)
   | (with_reducible exact shutterlaw17_awake.mono _)
   | (with_reducible exact shutterref10_Few.mono _ _ _ _ _ _ _)
   | (with_reducible exact shutterref10_Right.mono _ _ _ _ _ _ _)
   | (with_reducible exact shutterref11_Begin.mono _ _ _ _ _ _ _ _)
   | (with_reducible exact shutterref11_Open.mono _ _ _ _ _ _ _ _)
   | (with_reducible exact LeO.refl _)
   | (with_reducible exact LeO.none _)
   | (with_reducible refine LeO.ite ?_ ?_)
   | (with_reducible refine LeO.bind ?_ (fun _ => ?_))
   | exact a _ _ _ _ _ _ _ _ _
   | exact b _ _ _ _ _ _ _ _ _ _ _ _ _ _ _
   | exact keys_Do.mono _ _ _ _ _ _ _ _ _
   | exact shutterlaw17_awake.mono _
   | exact shutterref10_Few.mono _ _ _ _ _ _ _
   | exact shutterref10_Right.mono _ _ _ _ _ _ _
   | exact shutterref11_Begin.mono _ _ _ _ _ _ _ _
   | exact shutterref11_Open.mono _ _ _ _ _ _ _ _
   | exact LeO.none _
   | refine LeO.ite ?_ ?_
   | refine LeO.bind ?_ (fun _ => ?_)
set_option maxHeartbeats 8000000 in
set_option maxRecDepth 100000 in
theorem shutterlaw17_KeysGuard.calls (k : Nat) (T : Int) (U : Int) (bb : Option Addr) (bc : Nat) (j : List (S35)) (W : Int) (X : Bool) (Y : Bool) (aj : Int) (ax : Int) (r : Bool) (w : World) (jR : Kd.C k35 w bb j.length j) (jw : j.length ≤ bc) (hG : LaidG w) (h : shutterlaw17_KeysGuard.f k T U j W X Y aj ax = some r) :
  Calls Tryd.prog 13 #[.agg #[.int .i64 T, .int .i64 U, .slice bb j.length bc, .int .i64 W, .bool X, .bool Y], .agg #[.int .i64 aj, .int .u8 ax]] w fun e w' => e = .returned (.bool r) ∧ Below w.heap.size w w' := by
 have HG := Z hG
 clear hG
 have nV := Tryd.underlying24
 have nX := Tryd.underlying58
 have nW := Tryd.underlying35
 have ak := Z jR
 have a3 := Z jw
 clear jR jw
 have HB := Z (Below.refl w.heap.size w)
 have H : ((shutterlaw17_awake.f k).bind fun ed => (if ed = true then ((shutterref10_Few.f k T U j W X Y).bind fun bR => (if bR = true then (shutterlaw17_KeysGuard.j0 k (aj == 17) T U j W X Y aj ax) else (shutterlaw17_KeysGuard.j0 k true T U j W X Y aj ax))) else (none))) = some r := h
 clear h
 have km := Z H
 clear H
 go_enter Tryd.func13, Tryd.ntmps13
 go_upto_region 1 with (first | ((with_reducible refine gate_dst (N := 2) rfl ?_); (try (refine gate_guard (by rfl) ?_; dsimp only)); refine bx_ 2 24 #[.int .i64 T, .int .i64 U, .slice bb j.length bc, .int .i64 W, .bool X, .bool Y] ?_; intro ah hg w4 hbox hb; have b := Z (hbox); have bI := Z (ln_ hg : w.heap.size ≤ ah); have iU := Z (ln_ hg : w.heap.size ≤ ah); replace HB := Z (below_step bl_ hb); clear hb hbox hg) | ((with_reducible refine gate_dst (N := 3) rfl ?_); (try (refine gate_guard (by rfl) ?_; dsimp only)); refine bx_ 3 58 #[.int .i64 aj, .int .u8 ax] ?_; intro ai hg w5 hbox hb; have d := Z (hbox); have bJ := Z (ln_ hg : w.heap.size ≤ ai); have iV := Z (ln_ hg : w.heap.size ≤ ai); replace HB := Z (below_step bl_ hb); have aX := Z (nl b.out hg); have aY := Z (ng b.out hg); replace b := Z (kb b.out hb); clear hb hbox hg))
 repeat (go_quiet (fail))
 (try simp only [Act.put, sA, sB, sC])
 go_cut [22] (fun nv wc => ∃ (kq : Nat) (ee : Bool), nv = .bool ee ∧ Aside0 (shutterlaw17_KeysGuard.j0 kq ee T U j W X Y aj ax = some r) ∧ Aside0 (kq ≤ k) ∧ Aside0 (wc.heap[ah]? = some (.cells #[.int .i64 T, .int .i64 U, (.slice bb j.length bc), .int .i64 W, .bool X, .bool Y] 24 (0, 0))) ∧ Aside0 (wc.heap[ai]? = some (.cells #[.int .i64 aj, .int .u8 ax] 58 (0, 0))) ∧ Aside0 (Below w.heap.size w wc))
 case first =>
  have H := km.out
  clear km
  replace H := Option.bind_eq_some_iff.mp H
  obtain ⟨ed, kD, H⟩ := H
  replace H : (if ed = true then ((shutterref10_Few.f k T U j W X Y).bind fun bR => (if bR = true then (shutterlaw17_KeysGuard.j0 k (aj == 17) T U j W X Y aj ax) else (shutterlaw17_KeysGuard.j0 k true T U j W X Y aj ax))) else (none)) = some r := H
  have A6 := Z kD
  clear kD
  by_cases c7 : ed = true
  ·subst c7
   have H1 : ((shutterref10_Few.f k T U j W X Y).bind fun bR => (if bR = true then (shutterlaw17_KeysGuard.j0 k (aj == 17) T U j W X Y aj ax) else (shutterlaw17_KeysGuard.j0 k true T U j W X Y aj ax))) = some r := by rw [if_pos rfl] at H; exact H
   clear H
   have H := H1
   clear H1
   replace H := Option.bind_eq_some_iff.mp H
   obtain ⟨bR, kE, H⟩ := H
   replace H : (if bR = true then (shutterlaw17_KeysGuard.j0 k (aj == 17) T U j W X Y aj ax) else (shutterlaw17_KeysGuard.j0 k true T U j W X Y aj ax)) = some r := H
   have A8 := Z kE
   clear kE
   by_cases c9 : bR = true
   ·subst c9
    have H1 : (shutterlaw17_KeysGuard.j0 k (aj == 17) T U j W X Y aj ax) = some r := by rw [if_pos rfl] at H; exact H
    clear H
    have H := H1
    clear H1
    have H' := Z H
    clear H
    go_wp2_with (first | (go_at_call 41; (with_reducible refine (shutterlaw17_awake.calls k  true _ ?sideG A6.out).mono ?_); (case sideG => exact laidG_below HG.out bl_ rfl); rintro e kF ⟨rfl, hb⟩; replace b := Z (kb b.out hb); replace d := Z (kb d.out hb); replace HB := Z (below_step bl_ hb); (try clear hb); (try clear ba); (try clear hk); (try clear hi); have jx := aX.out; have jH := aY.out; obtain ⟨cB, cC, cD, cE, cF, cG, cP, cQ, cR, cS, cT, cU⟩ := cells6 b.out) | (go_at_call 18; (with_reducible refine (shutterref10_Few.calls k T U _ _ j W X Y true _ ?side1 ?side2 A8.out).mono ?_); (case side1 => repeat (first | exact (Kd.C_below ak.out HB.out) | (with_reducible apply pC))); (case side2 => exact a3.out); rintro e kG ⟨rfl, hb⟩; replace b := Z (kb b.out hb); replace d := Z (kb d.out hb); replace HB := Z (below_step bl_ hb); (try clear hb); (try clear ba); (try clear hk); (try clear hi); obtain ⟨cH, cI, cV, cW⟩ := cells2 d.out))
    repeat (go_quiet (fail); try go_wp2_with (first | (go_at_call 41; (with_reducible refine (shutterlaw17_awake.calls k  true _ ?sideG A6.out).mono ?_); (case sideG => exact laidG_below HG.out bl_ rfl); rintro e kF ⟨rfl, hb⟩; replace b := Z (kb b.out hb); replace d := Z (kb d.out hb); replace HB := Z (below_step bl_ hb); (try clear hb); (try clear ba); (try clear hk); (try clear hi); have jx := aX.out; have jH := aY.out; obtain ⟨cB, cC, cD, cE, cF, cG, cP, cQ, cR, cS, cT, cU⟩ := cells6 b.out) | (go_at_call 18; (with_reducible refine (shutterref10_Few.calls k T U _ _ j W X Y true _ ?side1 ?side2 A8.out).mono ?_); (case side1 => repeat (first | exact (Kd.C_below ak.out HB.out) | (with_reducible apply pC))); (case side2 => exact a3.out); rintro e kG ⟨rfl, hb⟩; replace b := Z (kb b.out hb); replace d := Z (kb d.out hb); replace HB := Z (below_step bl_ hb); (try clear hb); (try clear ba); (try clear hk); (try clear hi); obtain ⟨cH, cI, cV, cW⟩ := cells2 d.out)))
    go_meet
    case rel => exact ⟨_, ((aj == 17)), (dn_), H', ⟨by first | omega | exact Nat.le_refl _⟩, ⟨vK b.out⟩, ⟨vK d.out⟩, ⟨bl_⟩⟩
   ·replace c9 := Bool.eq_false_iff.mpr c9
    subst c9
    have H1 : (shutterlaw17_KeysGuard.j0 k true T U j W X Y aj ax) = some r := by rw [if_neg (show ¬ (false = true) by decide)] at H; exact H
    clear H
    have H := H1
    clear H1
    have H' := Z H
    clear H
    go_wp2_with (first | (go_at_call 41; (with_reducible refine (shutterlaw17_awake.calls k  true _ ?sideG A6.out).mono ?_); (case sideG => exact laidG_below HG.out bl_ rfl); rintro e kH ⟨rfl, hb⟩; replace b := Z (kb b.out hb); replace d := Z (kb d.out hb); replace HB := Z (below_step bl_ hb); (try clear hb); (try clear ba); (try clear hk); (try clear hi); have jy := aX.out; have jI := aY.out; obtain ⟨cJ, cK, cL, cM, cN, cO, cX, cY, cZ, c0, c4, c5⟩ := cells6 b.out) | (go_at_call 18; (with_reducible refine (shutterref10_Few.calls k T U _ _ j W X Y false _ ?side1 ?side2 A8.out).mono ?_); (case side1 => repeat (first | exact (Kd.C_below ak.out HB.out) | (with_reducible apply pC))); (case side2 => exact a3.out); rintro e kI ⟨rfl, hb⟩; replace b := Z (kb b.out hb); replace d := Z (kb d.out hb); replace HB := Z (below_step bl_ hb); (try clear hb); (try clear ba); (try clear hk); (try clear hi)))
    repeat (go_quiet (fail); try go_wp2_with (first | (go_at_call 41; (with_reducible refine (shutterlaw17_awake.calls k  true _ ?sideG A6.out).mono ?_); (case sideG => exact laidG_below HG.out bl_ rfl); rintro e kH ⟨rfl, hb⟩; replace b := Z (kb b.out hb); replace d := Z (kb d.out hb); replace HB := Z (below_step bl_ hb); (try clear hb); (try clear ba); (try clear hk); (try clear hi); have jy := aX.out; have jI := aY.out; obtain ⟨cJ, cK, cL, cM, cN, cO, cX, cY, cZ, c0, c4, c5⟩ := cells6 b.out) | (go_at_call 18; (with_reducible refine (shutterref10_Few.calls k T U _ _ j W X Y false _ ?side1 ?side2 A8.out).mono ?_); (case side1 => repeat (first | exact (Kd.C_below ak.out HB.out) | (with_reducible apply pC))); (case side2 => exact a3.out); rintro e kI ⟨rfl, hb⟩; replace b := Z (kb b.out hb); replace d := Z (kb d.out hb); replace HB := Z (below_step bl_ hb); (try clear hb); (try clear ba); (try clear hk); (try clear hi))))
    go_meet
    case rel => exact ⟨_, (true), (dn_), H', ⟨by first | omega | exact Nat.le_refl _⟩, ⟨vK b.out⟩, ⟨vK d.out⟩, ⟨bl_⟩⟩
  ·replace c7 := Bool.eq_false_iff.mpr c7
   subst c7
   have H1 : (none) = some r := by rw [if_neg (show ¬ (false = true) by decide)] at H; exact H
   clear H
   have H := H1
   clear H1
   exact absurd H (by simp)
 case rest =>
  clear km
  try clear c1
  try clear p2
  try clear c7
  try clear c9
  try clear na
  try clear nb
  try clear nc
  try clear cB
  try clear cC
  try clear cD
  try clear cE
  try clear cF
  try clear cG
  try clear cH
  try clear cI
  try clear cJ
  try clear cK
  try clear cL
  try clear cM
  try clear cN
  try clear cO
  try clear cP
  try clear cQ
  try clear cR
  try clear cS
  try clear cT
  try clear cU
  try clear cV
  try clear cW
  try clear cX
  try clear cY
  try clear cZ
  try clear c0
  try clear c4
  try clear c5
  obtain ⟨kq, ee, rfl, HA, da, b, d, HB⟩ := hcut
  cases kq with
  | zero => exact absurd HA.out (by simp [shutterlaw17_KeysGuard.j0])
  | succ bu =>
   have H := HA.out
   clear HA
   simp only [shutterlaw17_KeysGuard.j0] at H
   by_cases iY : ee = true
   ·subst iY
    have H1 : ((shutterlaw17_awake.f bu).bind fun c6 => (some c6)) = some r := by rw [if_pos rfl] at H; exact H
    clear H
    have H := H1
    clear H1
    replace H := Option.bind_eq_some_iff.mp H
    obtain ⟨c6, kf, H⟩ := H
    replace H : (some c6) = some r := H
    have ke := Z kf
    clear kf
    obtain rfl := Option.some.inj H
    go_wp2_with (first | (go_at_call 41; (with_reducible refine (shutterlaw17_awake.calls bu  c6 _ ?sideG ke.out).mono ?_); (case sideG => exact laidG_below HG.out bl_ rfl); rintro e kJ ⟨rfl, hb⟩; replace b := Z (kb b.out hb); replace d := Z (kb d.out hb); replace HB := Z (below_step bl_ hb); (try clear hb); (try clear ba); (try clear hk); (try clear hi)))
    repeat (go_quiet (first | (go_at_call 41; (with_reducible refine (shutterlaw17_awake.calls bu  c6 _ ?sideG ke.out).mono ?_); (case sideG => exact laidG_below HG.out bl_ rfl); rintro e kJ ⟨rfl, hb⟩; replace b := Z (kb b.out hb); replace d := Z (kb d.out hb); replace HB := Z (below_step bl_ hb); (try clear hb); (try clear ba); (try clear hk); (try clear hi))); try go_wp2_with (first | (go_at_call 41; (with_reducible refine (shutterlaw17_awake.calls bu  c6 _ ?sideG ke.out).mono ?_); (case sideG => exact laidG_below HG.out bl_ rfl); rintro e kJ ⟨rfl, hb⟩; replace b := Z (kb b.out hb); replace d := Z (kb d.out hb); replace HB := Z (below_step bl_ hb); (try clear hb); (try clear ba); (try clear hk); (try clear hi))))
    go_ret
    exact ⟨er_, bl_⟩
   ·replace iY := Bool.eq_false_iff.mpr iY
    subst iY
    have H1 : ((keys_Do.f bu T U j W X Y aj ax).bind fun bo => (if bo.2.2.2.2.2.2.1 = true then (none) else ((shutterref10_Right.f bu bo.1 bo.2.1 bo.2.2.1 bo.2.2.2.1 bo.2.2.2.2.1 bo.2.2.2.2.2.1).bind fun bS => (if bS = true then (if (bo.2.2.1.length : Int) = (j.length : Int) then (shutterlaw17_KeysGuard.l0 bu 0 T U j W X Y aj ax bo.1 bo.2.1 bo.2.2.1 bo.2.2.2.1 bo.2.2.2.2.1 bo.2.2.2.2.2.1) else (none)) else (none))))) = some r := by rw [if_neg (show ¬ (false = true) by decide)] at H; exact H
    clear H
    have H := H1
    clear H1
    replace H := Option.bind_eq_some_iff.mp H
    obtain ⟨⟨ap, aq, c, ar, au, av, jS, iT, c8⟩, kh, H⟩ := H
    replace H : (if jS = true then (none) else ((shutterref10_Right.f bu ap aq c ar au av).bind fun bS => (if bS = true then (if (c.length : Int) = (j.length : Int) then (shutterlaw17_KeysGuard.l0 bu 0 T U j W X Y aj ax ap aq c ar au av) else (none)) else (none)))) = some r := H
    have kg := Z kh
    clear kh
    by_cases iZ : jS = true
    ·subst iZ
     have H1 : (none) = some r := by rw [if_pos rfl] at H; exact H
     clear H
     have H := H1
     clear H1
     exact absurd H (by simp)
    ·replace iZ := Bool.eq_false_iff.mpr iZ
     subst iZ
     have H1 : ((shutterref10_Right.f bu ap aq c ar au av).bind fun bS => (if bS = true then (if (c.length : Int) = (j.length : Int) then (shutterlaw17_KeysGuard.l0 bu 0 T U j W X Y aj ax ap aq c ar au av) else (none)) else (none))) = some r := by rw [if_neg (show ¬ (false = true) by decide)] at H; exact H
     clear H
     have H := H1
     clear H1
     replace H := Option.bind_eq_some_iff.mp H
     obtain ⟨bS, kj, H⟩ := H
     replace H : (if bS = true then (if (c.length : Int) = (j.length : Int) then (shutterlaw17_KeysGuard.l0 bu 0 T U j W X Y aj ax ap aq c ar au av) else (none)) else (none)) = some r := H
     have ki := Z kj
     clear kj
     by_cases ja : bS = true
     ·subst ja
      have H1 : (if (c.length : Int) = (j.length : Int) then (shutterlaw17_KeysGuard.l0 bu 0 T U j W X Y aj ax ap aq c ar au av) else (none)) = some r := by rw [if_pos rfl] at H; exact H
      clear H
      have H := H1
      clear H1
      by_cases ea : (c.length : Int) = (j.length : Int)
      ·rw [if_pos ea] at H
       have ku : ((c.length : Int) == (j.length : Int)) = true := beq_iff_eq.mpr ea
       have kv : ((c.length : Int) != (j.length : Int)) = false := bne_eq_false_iff_eq.mpr ea
       have kw : (c.length == j.length) = true := by first | simpa using ea | (simp at ea ⊢; omega)
       clear ea
       have H' := Z H
       clear H
       have nB := aX.out
       have nL := aY.out
       obtain ⟨jW, jX, jY, jZ, j1, j2, j5, j6, j7, j8, j9, ka⟩ := cells6 b.out
       obtain ⟨j3, j4, kc, kd⟩ := cells2 d.out
       go_wp2_with (first | (go_at_call 42; (with_reducible refine (keys_Do.calls bu T U (fun k_ => k_ < w.heap.size) _ _ j W X Y aj ax ap aq c ar au av false iT c8 _ ?side1 kg.out).mono ?_); (case side1 => exact Kd.V_mk a3.out (Kd.F_below (Kd.C_F k35_heap ak.out) bl_)); rintro e kK ⟨jT, dl, rfl, eb, ec, hb⟩; have aA := Z (Kd.V_lower (Kd.V_mono (ok' := fun k_ => k_ ≠ ah ∧ k_ ≠ ai) eb (fun k_ hk_ => ⟨Or.elim hk_ (fun hs_ => fun e_ => Nat.not_le.2 hs_ (by rw [e_]; exact bI.out)) (fun hn_ => (fb b.out k_ hn_)), Or.elim hk_ (fun hs_ => fun e_ => Nat.not_le.2 hs_ (by rw [e_]; exact bJ.out)) (fun hn_ => (fb d.out k_ hn_))⟩)) (below_size bl_)); have aK := Z (Kd.V_lower (Kd.V_mono (ok' := fun k_ => k_ ≠ ah ∧ k_ ≠ ai) ec (fun k_ hk_ => ⟨Or.elim hk_ (fun hs_ => fun e_ => Nat.not_le.2 hs_ (by rw [e_]; exact bI.out)) (fun hn_ => (fb b.out k_ hn_)), Or.elim hk_ (fun hs_ => fun e_ => Nat.not_le.2 hs_ (by rw [e_]; exact bJ.out)) (fun hn_ => (fb d.out k_ hn_))⟩)) (below_size bl_)); replace b := Z (kb b.out hb); replace d := Z (kb d.out hb); replace HB := Z (below_step bl_ hb); (try clear hb); (try clear ba); (try clear hk); (try clear hi); (try clear eb); (try clear ec); (try simp only [errW_none, errW_some])) | ((with_reducible refine gate_dst (N := 5) rfl ?_); (try (refine gate_guard (by rfl) ?_; dsimp only)); refine bx_ 5 24 #[.int .i64 0, .int .i64 0, .slice none 0 0, .int .i64 0, .bool false, .bool false] ?_; intro S hg bT hbox hb; replace aA := Z (ve aA.out hg hb); replace aK := Z (ve aK.out hg hb); have g := Z (hbox); have iX := Z (ln_ hg : w.heap.size ≤ S); have iW := Z (ln_ hg : w.heap.size ≤ S); replace HB := Z (below_step bl_ hb); have aZ := Z (nl b.out hg); have a4 := Z (ng b.out hg); replace b := Z (kb b.out hb); have a0 := Z (nl d.out hg); have a5 := Z (ng d.out hg); replace d := Z (kb d.out hb); clear hb hbox hg; have jz := a4.out; have jJ := aZ.out; have jA := a5.out; have jK := a0.out; obtain ⟨dn, dp, dq, dr, ds, dt, dM, dN, dO, dP, dQ, dR⟩ := cells6 g.out; obtain ⟨bH, aP, eg⟩ := Kd.V_slice aA.out; subst eg) | ((with_reducible refine gate_store (t := 24) (p := 5) rfl ?_); (try (rw [drewN_self bT]; generalize hq_ : World.drewN bT _ = bT; replace aA := Z (Kd.V_at hq_ aA.out); replace aK := Z (Kd.V_at hq_ aK.out); replace b := Z (blk_at hq_ b.out); replace d := Z (blk_at hq_ d.out); replace g := Z (blk_at hq_ g.out); replace HB := Z (below_at hq_ HB.out); clear hq_)); refine sx_ 24 5 ((((((bT.setCell ⟨S, 0, none⟩ (.int .i64 ap)).setCell ⟨S, 1, none⟩ (.int .i64 aq)).setCell ⟨S, 2, none⟩ (.slice bH c.length aP)).setCell ⟨S, 3, none⟩ (.int .i64 ar)).setCell ⟨S, 4, none⟩ (.bool au)).setCell ⟨S, 5, none⟩ (.bool av)) ?_; intro bw hw; replace aA : Aside0 (Kd.V k35 35 bw w.heap.size (fun k_ => k_ ≠ ah ∧ k_ ≠ ai ∧ k_ ≠ S) (.slice bH c.length aP) c) := ⟨(by rw [hw]; exact (by (with_reducible repeat apply pV); exact V_off aA.out (fun k_ hk => hk.2) off3_ (fun _ hk => ⟨hk.1.1, ⟨hk.1.2, hk.2⟩⟩)))⟩; replace aK : Aside0 (Kd.V k164 164 bw w.heap.size (fun k_ => k_ ≠ ah ∧ k_ ≠ ai ∧ k_ ≠ S) dl c8) := ⟨(by rw [hw]; exact (by (with_reducible repeat apply pV); exact V_off aK.out (fun k_ hk => hk.2) off3_ (fun _ hk => ⟨hk.1.1, ⟨hk.1.2, hk.2⟩⟩)))⟩; replace b : Aside0 (bw.heap[ah]? = some (.cells #[.int .i64 T, .int .i64 U, .slice bb j.length bc, .int .i64 W, .bool X, .bool Y] 24 (0, 0))) := ⟨(by rw [hw]; exact (by (with_reducible repeat apply pK); exact blk_off b.out aZ.out off3_))⟩; replace d : Aside0 (bw.heap[ai]? = some (.cells #[.int .i64 aj, .int .u8 ax] 58 (0, 0))) := ⟨(by rw [hw]; exact (by (with_reducible repeat apply pK); exact blk_off d.out a0.out off3_))⟩; replace g : Aside0 (bw.heap[S]? = some (.cells #[.int .i64 ap, .int .i64 aq, .slice bH c.length aP, .int .i64 ar, .bool au, .bool av] 24 (0, 0))) := ⟨by rw [hw]; exact (put6 g.out)⟩; replace HB : Aside0 (Below w.heap.size w bw) := ⟨by rw [hw]; exact bl_⟩; clear hw; obtain ⟨du, dv, dw, dx, dy, dz, dS, dT, dU, dV, dW, dX⟩ := cells6 g.out) | (go_at_call 20; (with_reducible refine (shutterref10_Right.calls bu ap aq _ _ c ar au av true _ ?side1 ?side2 ki.out).mono ?_); (case side1 => repeat (first | exact (Kd.V_reads' aA.out).2.2 | (with_reducible apply pC))); (case side2 => exact (Kd.V_reads' aA.out).2.1); rintro e kL ⟨rfl, hb⟩; replace aA := Z (vb aA.out hb); replace aK := Z (vb aK.out hb); replace b := Z (kb b.out hb); replace d := Z (kb d.out hb); replace g := Z (kb g.out hb); replace HB := Z (below_step bl_ hb); (try clear hb); (try clear ba); (try clear hk); (try clear hi); obtain ⟨dA, dB, dC, dD, dE, dF, dY, dZ, d0, d1, d2, d3⟩ := cells6 g.out; obtain ⟨dG, dH, dI, dJ, dK, dL, d4, d5, d6, d7, d8, d9⟩ := cells6 b.out))
       repeat (go_quiet (fail); try go_wp2_with (first | (go_at_call 42; (with_reducible refine (keys_Do.calls bu T U (fun k_ => k_ < w.heap.size) _ _ j W X Y aj ax ap aq c ar au av false iT c8 _ ?side1 kg.out).mono ?_); (case side1 => exact Kd.V_mk a3.out (Kd.F_below (Kd.C_F k35_heap ak.out) bl_)); rintro e kK ⟨jT, dl, rfl, eb, ec, hb⟩; have aA := Z (Kd.V_lower (Kd.V_mono (ok' := fun k_ => k_ ≠ ah ∧ k_ ≠ ai) eb (fun k_ hk_ => ⟨Or.elim hk_ (fun hs_ => fun e_ => Nat.not_le.2 hs_ (by rw [e_]; exact bI.out)) (fun hn_ => (fb b.out k_ hn_)), Or.elim hk_ (fun hs_ => fun e_ => Nat.not_le.2 hs_ (by rw [e_]; exact bJ.out)) (fun hn_ => (fb d.out k_ hn_))⟩)) (below_size bl_)); have aK := Z (Kd.V_lower (Kd.V_mono (ok' := fun k_ => k_ ≠ ah ∧ k_ ≠ ai) ec (fun k_ hk_ => ⟨Or.elim hk_ (fun hs_ => fun e_ => Nat.not_le.2 hs_ (by rw [e_]; exact bI.out)) (fun hn_ => (fb b.out k_ hn_)), Or.elim hk_ (fun hs_ => fun e_ => Nat.not_le.2 hs_ (by rw [e_]; exact bJ.out)) (fun hn_ => (fb d.out k_ hn_))⟩)) (below_size bl_)); replace b := Z (kb b.out hb); replace d := Z (kb d.out hb); replace HB := Z (below_step bl_ hb); (try clear hb); (try clear ba); (try clear hk); (try clear hi); (try clear eb); (try clear ec); (try simp only [errW_none, errW_some])) | ((with_reducible refine gate_dst (N := 5) rfl ?_); (try (refine gate_guard (by rfl) ?_; dsimp only)); refine bx_ 5 24 #[.int .i64 0, .int .i64 0, .slice none 0 0, .int .i64 0, .bool false, .bool false] ?_; intro S hg bT hbox hb; replace aA := Z (ve aA.out hg hb); replace aK := Z (ve aK.out hg hb); have g := Z (hbox); have iX := Z (ln_ hg : w.heap.size ≤ S); have iW := Z (ln_ hg : w.heap.size ≤ S); replace HB := Z (below_step bl_ hb); have aZ := Z (nl b.out hg); have a4 := Z (ng b.out hg); replace b := Z (kb b.out hb); have a0 := Z (nl d.out hg); have a5 := Z (ng d.out hg); replace d := Z (kb d.out hb); clear hb hbox hg; have jz := a4.out; have jJ := aZ.out; have jA := a5.out; have jK := a0.out; obtain ⟨dn, dp, dq, dr, ds, dt, dM, dN, dO, dP, dQ, dR⟩ := cells6 g.out; obtain ⟨bH, aP, eg⟩ := Kd.V_slice aA.out; subst eg) | ((with_reducible refine gate_store (t := 24) (p := 5) rfl ?_); (try (rw [drewN_self bT]; generalize hq_ : World.drewN bT _ = bT; replace aA := Z (Kd.V_at hq_ aA.out); replace aK := Z (Kd.V_at hq_ aK.out); replace b := Z (blk_at hq_ b.out); replace d := Z (blk_at hq_ d.out); replace g := Z (blk_at hq_ g.out); replace HB := Z (below_at hq_ HB.out); clear hq_)); refine sx_ 24 5 ((((((bT.setCell ⟨S, 0, none⟩ (.int .i64 ap)).setCell ⟨S, 1, none⟩ (.int .i64 aq)).setCell ⟨S, 2, none⟩ (.slice bH c.length aP)).setCell ⟨S, 3, none⟩ (.int .i64 ar)).setCell ⟨S, 4, none⟩ (.bool au)).setCell ⟨S, 5, none⟩ (.bool av)) ?_; intro bw hw; replace aA : Aside0 (Kd.V k35 35 bw w.heap.size (fun k_ => k_ ≠ ah ∧ k_ ≠ ai ∧ k_ ≠ S) (.slice bH c.length aP) c) := ⟨(by rw [hw]; exact (by (with_reducible repeat apply pV); exact V_off aA.out (fun k_ hk => hk.2) off3_ (fun _ hk => ⟨hk.1.1, ⟨hk.1.2, hk.2⟩⟩)))⟩; replace aK : Aside0 (Kd.V k164 164 bw w.heap.size (fun k_ => k_ ≠ ah ∧ k_ ≠ ai ∧ k_ ≠ S) dl c8) := ⟨(by rw [hw]; exact (by (with_reducible repeat apply pV); exact V_off aK.out (fun k_ hk => hk.2) off3_ (fun _ hk => ⟨hk.1.1, ⟨hk.1.2, hk.2⟩⟩)))⟩; replace b : Aside0 (bw.heap[ah]? = some (.cells #[.int .i64 T, .int .i64 U, .slice bb j.length bc, .int .i64 W, .bool X, .bool Y] 24 (0, 0))) := ⟨(by rw [hw]; exact (by (with_reducible repeat apply pK); exact blk_off b.out aZ.out off3_))⟩; replace d : Aside0 (bw.heap[ai]? = some (.cells #[.int .i64 aj, .int .u8 ax] 58 (0, 0))) := ⟨(by rw [hw]; exact (by (with_reducible repeat apply pK); exact blk_off d.out a0.out off3_))⟩; replace g : Aside0 (bw.heap[S]? = some (.cells #[.int .i64 ap, .int .i64 aq, .slice bH c.length aP, .int .i64 ar, .bool au, .bool av] 24 (0, 0))) := ⟨by rw [hw]; exact (put6 g.out)⟩; replace HB : Aside0 (Below w.heap.size w bw) := ⟨by rw [hw]; exact bl_⟩; clear hw; obtain ⟨du, dv, dw, dx, dy, dz, dS, dT, dU, dV, dW, dX⟩ := cells6 g.out) | (go_at_call 20; (with_reducible refine (shutterref10_Right.calls bu ap aq _ _ c ar au av true _ ?side1 ?side2 ki.out).mono ?_); (case side1 => repeat (first | exact (Kd.V_reads' aA.out).2.2 | (with_reducible apply pC))); (case side2 => exact (Kd.V_reads' aA.out).2.1); rintro e kL ⟨rfl, hb⟩; replace aA := Z (vb aA.out hb); replace aK := Z (vb aK.out hb); replace b := Z (kb b.out hb); replace d := Z (kb d.out hb); replace g := Z (kb g.out hb); replace HB := Z (below_step bl_ hb); (try clear hb); (try clear ba); (try clear hk); (try clear hi); obtain ⟨dA, dB, dC, dD, dE, dF, dY, dZ, d0, d1, d2, d3⟩ := cells6 g.out; obtain ⟨dG, dH, dI, dJ, dK, dL, d4, d5, d6, d7, d8, d9⟩ := cells6 b.out)))
       go_loopg [8] bu (fun kq v8 w' => ∃ (a : Int), v8 = .int .i64 a ∧ Aside0 (shutterlaw17_KeysGuard.l0 kq a T U j W X Y aj ax ap aq c ar au av = some r) ∧ Aside0 (kq ≤ bu) ∧ Aside0 (Kd.V k35 35 w' w.heap.size (fun k_ => k_ ≠ ah ∧ k_ ≠ ai ∧ k_ ≠ S) (.slice bH c.length aP) c) ∧ Aside0 (w'.heap[ah]? = some (.cells #[.int .i64 T, .int .i64 U, (.slice bb j.length bc), .int .i64 W, .bool X, .bool Y] 24 (0, 0))) ∧ Aside0 (w'.heap[ai]? = some (.cells #[.int .i64 aj, .int .u8 ax] 58 (0, 0))) ∧ Aside0 (w'.heap[S]? = some (.cells #[.int .i64 ap, .int .i64 aq, (.slice bH c.length aP), .int .i64 ar, .bool au, .bool av] 24 (0, 0))) ∧ Aside0 (Below w.heap.size w w'))
       case atStart => exact ⟨(0), (dn_), H', ⟨Nat.le_refl _⟩, ⟨vV aA.out⟩, ⟨vK b.out⟩, ⟨vK d.out⟩, ⟨vK g.out⟩, ⟨bl_⟩⟩
       case round =>
        clear H'
        try clear c1
        try clear c2
        try clear p2
        try clear c3
        try clear c7
        try clear c9
        try clear na
        try clear nb
        try clear nc
        try clear iY
        try clear iZ
        try clear ja
        try clear ea
        try clear ku
        try clear kv
        try clear kw
        try clear nZ
        try clear n0
        try clear n1
        try clear cB
        try clear cC
        try clear cD
        try clear cE
        try clear cF
        try clear cG
        try clear cH
        try clear cI
        try clear cJ
        try clear cK
        try clear cL
        try clear cM
        try clear cN
        try clear cO
        try clear jW
        try clear jX
        try clear jY
        try clear jZ
        try clear j1
        try clear j2
        try clear j3
        try clear j4
        try clear dn
        try clear dp
        try clear dq
        try clear dr
        try clear ds
        try clear dt
        try clear du
        try clear dv
        try clear dw
        try clear dx
        try clear dy
        try clear dz
        try clear dA
        try clear dB
        try clear dC
        try clear dD
        try clear dE
        try clear dF
        try clear dG
        try clear dH
        try clear dI
        try clear dJ
        try clear dK
        try clear dL
        try clear cP
        try clear cQ
        try clear cR
        try clear cS
        try clear cT
        try clear cU
        try clear cV
        try clear cW
        try clear cX
        try clear cY
        try clear cZ
        try clear c0
        try clear c4
        try clear c5
        try clear j5
        try clear j6
        try clear j7
        try clear j8
        try clear j9
        try clear ka
        try clear kc
        try clear kd
        try clear dM
        try clear dN
        try clear dO
        try clear dP
        try clear dQ
        try clear dR
        try clear dS
        try clear dT
        try clear dU
        try clear dV
        try clear dW
        try clear dX
        try clear dY
        try clear dZ
        try clear d0
        try clear d1
        try clear d2
        try clear d3
        try clear d4
        try clear d5
        try clear d6
        try clear d7
        try clear d8
        try clear d9
        try clear p2
        obtain ⟨a, rfl, HA, db, HO_1582002, b, d, g, HB⟩ := hrel
        cases gk with
        | zero => exact absurd HA.out (by simp [shutterlaw17_KeysGuard.l0])
        | succ k2 =>
         have H := HA.out
         clear HA
         simp only [shutterlaw17_KeysGuard.l0] at H
         by_cases gM : a < (j.length : Int)
         ·rw [if_pos gM] at H
          have kx : decide (a < (j.length : Int)) = true := decide_eq_true gM
          clear gM
          by_cases jq : 0 ≤ a
          ·rw [if_pos jq] at H
           have nw : decide (0 ≤ a) = true := decide_eq_true jq
           clear jq
           by_cases jr : a < (c.length : Int)
           ·rw [if_pos jr] at H
            have nx : decide (a < (c.length : Int)) = true := decide_eq_true jr
            clear jr
            by_cases cA : (((rd_T35 c a).f0) == ((rd_T35 j a).f0) && ((((rd_T35 c a).f1.f0) == ((rd_T35 j a).f1.f0) && (((rd_T35 c a).f1.f1) == ((rd_T35 j a).f1.f1) && (((rd_T35 c a).f1.f2) == ((rd_T35 j a).f1.f2) && (((rd_T35 c a).f1.f3) == ((rd_T35 j a).f1.f3))))) && (((rd_T35 c a).f2) == ((rd_T35 j a).f2)))) = true
            ·rw [if_pos cA] at H
             have bA : (((rd_T35 c a).f0) == ((rd_T35 j a).f0) && ((((rd_T35 c a).f1.f0) == ((rd_T35 j a).f1.f0) && (((rd_T35 c a).f1.f1) == ((rd_T35 j a).f1.f1) && (((rd_T35 c a).f1.f2) == ((rd_T35 j a).f1.f2) && (((rd_T35 c a).f1.f3) == ((rd_T35 j a).f1.f3))))) && (((rd_T35 c a).f2) == ((rd_T35 j a).f2)))) = true := cA
             (try (have ky : decide (((rd_T35 c a).f0) = ((rd_T35 j a).f0) && ((((rd_T35 c a).f1.f0) == ((rd_T35 j a).f1.f0) && (((rd_T35 c a).f1.f1) == ((rd_T35 j a).f1.f1) && (((rd_T35 c a).f1.f2) == ((rd_T35 j a).f1.f2) && (((rd_T35 c a).f1.f3) == ((rd_T35 j a).f1.f3))))) && (((rd_T35 c a).f2) == ((rd_T35 j a).f2)))) = true := by simpa using cA))
             (try (have kz : (((rd_T35 c a).f0) == ((rd_T35 j a).f0) && ((((rd_T35 c a).f1.f0) == ((rd_T35 j a).f1.f0) && (((rd_T35 c a).f1.f1) == ((rd_T35 j a).f1.f1) && (((rd_T35 c a).f1.f2) == ((rd_T35 j a).f1.f2) && (((rd_T35 c a).f1.f3) == ((rd_T35 j a).f1.f3))))) && (((rd_T35 c a).f2) == ((rd_T35 j a).f2)))) = true := by simpa using cA))
             clear cA
             have H' := Z H
             clear H
             have nC := aX.out
             have nM := aY.out
             have nD := aZ.out
             have nN := a4.out
             obtain ⟨lW, lX, lY, lZ, l1, l2, my, mz, mA, mB, mC, mD⟩ := cells6 b.out
             have nE := a5.out
             have nO := a0.out
             obtain ⟨l3, l4, l5, l6, l7, l8, mE, mF, mG, mH, mI, mJ⟩ := cells6 g.out
             have bi : 0 ≤ (a : Int) := od_
             have bj : a < (c.length : Int) := od_
             obtain ⟨aD, bK, be, bf, bg, cx, bh, cy⟩ := at_T35 (Kd.V_reads' HO_1582002.out).2.2 a bi bj
             cases bK
             replace bi := eq_true bi
             replace bj := eq_true bj
             go_wp2_with (first | ((with_reducible refine gate_dst (N := 9) rfl ?_); (try (refine gate_guard (by rfl) ?_; dsimp only)); refine bx_ 9 35 #[.bool false, .bool false, .bool false, .int .i64 0, .bool false, .int .u8 0] ?_; intro i hg bU hbox hb; replace HO_1582002 := Z (ve HO_1582002.out hg hb); have l := Z (hbox); have a2 := Z (ln_ hg : w.heap.size ≤ i); have bd := Z (ln_ hg : w.heap.size ≤ i); replace HB := Z (below_step bl_ hb); have J := Z (nl b.out hg); have ab := Z (ng b.out hg); replace b := Z (kb b.out hb); have K := Z (nl d.out hg); have ac := Z (ng d.out hg); replace d := Z (kb d.out hb); have L := Z (nl g.out hg); have ad := Z (ng g.out hg); replace g := Z (kb g.out hb); clear hb hbox hg; have jB := ab.out; have jL := J.out; have jC := ac.out; have jM := K.out; have jD := ad.out; have jN := L.out; obtain ⟨gN, gO, gP, gQ, gR, gS, hR, hS, hT, hU, hV, hW⟩ := cells6 l.out) | ((with_reducible refine gate_store (t := 35) (p := 9) rfl ?_); (try (rw [drewN_self bU]; generalize hq_ : World.drewN bU _ = bU; replace HO_1582002 := Z (Kd.V_at hq_ HO_1582002.out); replace b := Z (blk_at hq_ b.out); replace d := Z (blk_at hq_ d.out); replace g := Z (blk_at hq_ g.out); replace l := Z (blk_at hq_ l.out); replace HB := Z (below_at hq_ HB.out); clear hq_)); refine sx_ 35 9 ((((((bU.setCell ⟨i, 0, none⟩ (.bool ((rd_T35 c a).f0))).setCell ⟨i, 1, none⟩ (.bool ((rd_T35 c a).f1.f0))).setCell ⟨i, 2, none⟩ (.bool ((rd_T35 c a).f1.f1))).setCell ⟨i, 3, none⟩ (.int .i64 ((rd_T35 c a).f1.f2))).setCell ⟨i, 4, none⟩ (.bool ((rd_T35 c a).f1.f3))).setCell ⟨i, 5, none⟩ (.int .u8 ((rd_T35 c a).f2))) ?_; intro bx hw; replace HO_1582002 : Aside0 (Kd.V k35 35 bx w.heap.size (fun k_ => k_ ≠ ah ∧ k_ ≠ ai ∧ k_ ≠ S ∧ k_ ≠ i) (.slice (some aD) c.length aP) c) := ⟨(by rw [hw]; exact (by (with_reducible repeat apply pV); exact V_off HO_1582002.out (fun k_ hk => hk.2) off3_ (fun _ hk => ⟨hk.1.1, ⟨hk.1.2.1, ⟨hk.1.2.2, hk.2⟩⟩⟩)))⟩; replace b : Aside0 (bx.heap[ah]? = some (.cells #[.int .i64 T, .int .i64 U, .slice bb j.length bc, .int .i64 W, .bool X, .bool Y] 24 (0, 0))) := ⟨(by rw [hw]; exact (by (with_reducible repeat apply pK); exact blk_off b.out J.out off3_))⟩; replace d : Aside0 (bx.heap[ai]? = some (.cells #[.int .i64 aj, .int .u8 ax] 58 (0, 0))) := ⟨(by rw [hw]; exact (by (with_reducible repeat apply pK); exact blk_off d.out K.out off3_))⟩; replace g : Aside0 (bx.heap[S]? = some (.cells #[.int .i64 ap, .int .i64 aq, .slice (some aD) c.length aP, .int .i64 ar, .bool au, .bool av] 24 (0, 0))) := ⟨(by rw [hw]; exact (by (with_reducible repeat apply pK); exact blk_off g.out L.out off3_))⟩; replace l : Aside0 (bx.heap[i]? = some (.cells #[.bool ((rd_T35 c a).f0), .bool ((rd_T35 c a).f1.f0), .bool ((rd_T35 c a).f1.f1), .int .i64 ((rd_T35 c a).f1.f2), .bool ((rd_T35 c a).f1.f3), .int .u8 ((rd_T35 c a).f2)] 35 (0, 0))) := ⟨by rw [hw]; exact (put6 l.out)⟩; replace HB : Aside0 (Below w.heap.size w bx) := ⟨by rw [hw]; exact bl_⟩; clear hw; obtain ⟨gT, gU, gV, gW, gX, gY, hX, hY, hZ, h0, h1, h2⟩ := cells6 l.out; obtain ⟨gZ, g0, g1, g2, g3, g4, h3, h4, h5, h6, h7, h8⟩ := cells6 b.out; have al : 0 ≤ (a : Int) := od_; have am : a < (j.length : Int) := od_; obtain ⟨aw, aW, y, z, A, M, B, O⟩ := at_T35 ak.out a al am; cases aW; replace y := (HB.out.cell (bk_ w _ y)).trans y; replace z := (HB.out.cell (bk_ w _ z)).trans z; replace A := (HB.out.cell (bk_ w _ A)).trans A; replace M := (HB.out.cell (bk_ w _ M)).trans M; replace B := (HB.out.cell (bk_ w _ B)).trans B; replace O := (HB.out.cell (bk_ w _ O)).trans O; replace al := eq_true al; replace am := eq_true am))
             repeat (go_quiet (fail); try go_wp2_with (first | ((with_reducible refine gate_dst (N := 9) rfl ?_); (try (refine gate_guard (by rfl) ?_; dsimp only)); refine bx_ 9 35 #[.bool false, .bool false, .bool false, .int .i64 0, .bool false, .int .u8 0] ?_; intro i hg bU hbox hb; replace HO_1582002 := Z (ve HO_1582002.out hg hb); have l := Z (hbox); have a2 := Z (ln_ hg : w.heap.size ≤ i); have bd := Z (ln_ hg : w.heap.size ≤ i); replace HB := Z (below_step bl_ hb); have J := Z (nl b.out hg); have ab := Z (ng b.out hg); replace b := Z (kb b.out hb); have K := Z (nl d.out hg); have ac := Z (ng d.out hg); replace d := Z (kb d.out hb); have L := Z (nl g.out hg); have ad := Z (ng g.out hg); replace g := Z (kb g.out hb); clear hb hbox hg; have jB := ab.out; have jL := J.out; have jC := ac.out; have jM := K.out; have jD := ad.out; have jN := L.out; obtain ⟨gN, gO, gP, gQ, gR, gS, hR, hS, hT, hU, hV, hW⟩ := cells6 l.out) | ((with_reducible refine gate_store (t := 35) (p := 9) rfl ?_); (try (rw [drewN_self bU]; generalize hq_ : World.drewN bU _ = bU; replace HO_1582002 := Z (Kd.V_at hq_ HO_1582002.out); replace b := Z (blk_at hq_ b.out); replace d := Z (blk_at hq_ d.out); replace g := Z (blk_at hq_ g.out); replace l := Z (blk_at hq_ l.out); replace HB := Z (below_at hq_ HB.out); clear hq_)); refine sx_ 35 9 ((((((bU.setCell ⟨i, 0, none⟩ (.bool ((rd_T35 c a).f0))).setCell ⟨i, 1, none⟩ (.bool ((rd_T35 c a).f1.f0))).setCell ⟨i, 2, none⟩ (.bool ((rd_T35 c a).f1.f1))).setCell ⟨i, 3, none⟩ (.int .i64 ((rd_T35 c a).f1.f2))).setCell ⟨i, 4, none⟩ (.bool ((rd_T35 c a).f1.f3))).setCell ⟨i, 5, none⟩ (.int .u8 ((rd_T35 c a).f2))) ?_; intro bx hw; replace HO_1582002 : Aside0 (Kd.V k35 35 bx w.heap.size (fun k_ => k_ ≠ ah ∧ k_ ≠ ai ∧ k_ ≠ S ∧ k_ ≠ i) (.slice (some aD) c.length aP) c) := ⟨(by rw [hw]; exact (by (with_reducible repeat apply pV); exact V_off HO_1582002.out (fun k_ hk => hk.2) off3_ (fun _ hk => ⟨hk.1.1, ⟨hk.1.2.1, ⟨hk.1.2.2, hk.2⟩⟩⟩)))⟩; replace b : Aside0 (bx.heap[ah]? = some (.cells #[.int .i64 T, .int .i64 U, .slice bb j.length bc, .int .i64 W, .bool X, .bool Y] 24 (0, 0))) := ⟨(by rw [hw]; exact (by (with_reducible repeat apply pK); exact blk_off b.out J.out off3_))⟩; replace d : Aside0 (bx.heap[ai]? = some (.cells #[.int .i64 aj, .int .u8 ax] 58 (0, 0))) := ⟨(by rw [hw]; exact (by (with_reducible repeat apply pK); exact blk_off d.out K.out off3_))⟩; replace g : Aside0 (bx.heap[S]? = some (.cells #[.int .i64 ap, .int .i64 aq, .slice (some aD) c.length aP, .int .i64 ar, .bool au, .bool av] 24 (0, 0))) := ⟨(by rw [hw]; exact (by (with_reducible repeat apply pK); exact blk_off g.out L.out off3_))⟩; replace l : Aside0 (bx.heap[i]? = some (.cells #[.bool ((rd_T35 c a).f0), .bool ((rd_T35 c a).f1.f0), .bool ((rd_T35 c a).f1.f1), .int .i64 ((rd_T35 c a).f1.f2), .bool ((rd_T35 c a).f1.f3), .int .u8 ((rd_T35 c a).f2)] 35 (0, 0))) := ⟨by rw [hw]; exact (put6 l.out)⟩; replace HB : Aside0 (Below w.heap.size w bx) := ⟨by rw [hw]; exact bl_⟩; clear hw; obtain ⟨gT, gU, gV, gW, gX, gY, hX, hY, hZ, h0, h1, h2⟩ := cells6 l.out; obtain ⟨gZ, g0, g1, g2, g3, g4, h3, h4, h5, h6, h7, h8⟩ := cells6 b.out; have al : 0 ≤ (a : Int) := od_; have am : a < (j.length : Int) := od_; obtain ⟨aw, aW, y, z, A, M, B, O⟩ := at_T35 ak.out a al am; cases aW; replace y := (HB.out.cell (bk_ w _ y)).trans y; replace z := (HB.out.cell (bk_ w _ z)).trans z; replace A := (HB.out.cell (bk_ w _ A)).trans A; replace M := (HB.out.cell (bk_ w _ M)).trans M; replace B := (HB.out.cell (bk_ w _ B)).trans B; replace O := (HB.out.cell (bk_ w _ O)).trans O; replace al := eq_true al; replace am := eq_true am)))
             go_roundg k2
             case measure => have := da.out; have := db.out; omega
             case rel => exact ⟨(wrap64 (a + 1)), (dn_), H', ⟨by have := da.out; have := db.out; omega⟩, ⟨by (with_reducible repeat apply pV); exact Kd.V_mono HO_1582002.out (fun _ hk => ⟨hk.1, ⟨hk.2.1, hk.2.2.1⟩⟩)⟩, ⟨vK b.out⟩, ⟨vK d.out⟩, ⟨vK g.out⟩, ⟨bl_⟩⟩
            ·rw [if_neg cA] at H
             have bA : (((rd_T35 c a).f0) == ((rd_T35 j a).f0) && ((((rd_T35 c a).f1.f0) == ((rd_T35 j a).f1.f0) && (((rd_T35 c a).f1.f1) == ((rd_T35 j a).f1.f1) && (((rd_T35 c a).f1.f2) == ((rd_T35 j a).f1.f2) && (((rd_T35 c a).f1.f3) == ((rd_T35 j a).f1.f3))))) && (((rd_T35 c a).f2) == ((rd_T35 j a).f2)))) = false := by simpa using cA
             (try (have ky : decide (((rd_T35 c a).f0) = ((rd_T35 j a).f0) && ((((rd_T35 c a).f1.f0) == ((rd_T35 j a).f1.f0) && (((rd_T35 c a).f1.f1) == ((rd_T35 j a).f1.f1) && (((rd_T35 c a).f1.f2) == ((rd_T35 j a).f1.f2) && (((rd_T35 c a).f1.f3) == ((rd_T35 j a).f1.f3))))) && (((rd_T35 c a).f2) == ((rd_T35 j a).f2)))) = false := by simpa using cA))
             (try (have kz : (((rd_T35 c a).f0) == ((rd_T35 j a).f0) && ((((rd_T35 c a).f1.f0) == ((rd_T35 j a).f1.f0) && (((rd_T35 c a).f1.f1) == ((rd_T35 j a).f1.f1) && (((rd_T35 c a).f1.f2) == ((rd_T35 j a).f1.f2) && (((rd_T35 c a).f1.f3) == ((rd_T35 j a).f1.f3))))) && (((rd_T35 c a).f2) == ((rd_T35 j a).f2)))) = false := by simpa using cA))
             (try (have ny : ¬ (((rd_T35 c a).f0) = ((rd_T35 j a).f0) && ((((rd_T35 c a).f1.f0) == ((rd_T35 j a).f1.f0) && (((rd_T35 c a).f1.f1) == ((rd_T35 j a).f1.f1) && (((rd_T35 c a).f1.f2) == ((rd_T35 j a).f1.f2) && (((rd_T35 c a).f1.f3) == ((rd_T35 j a).f1.f3))))) && (((rd_T35 c a).f2) == ((rd_T35 j a).f2)))) := by simpa using cA))
             clear cA
             obtain ⟨jo, iR⟩ : ∃ b_ : Bool, b_ = ((rd_T35 j a).f0) := ⟨_, rfl⟩
             replace H : (if jo = true then (if (!(((rd_T35 c a).f0) == (jo)) || ((!(((rd_T35 c a).f1.f0) == ((rd_T35 j a).f1.f0)) || (!(((rd_T35 c a).f1.f1) == ((rd_T35 j a).f1.f1)) || (!(((rd_T35 c a).f1.f2) == ((rd_T35 j a).f1.f2))))) || (!(((rd_T35 c a).f2) == ((rd_T35 j a).f2))))) = true then (none) else (shutterlaw17_KeysGuard.l0 k2 (wrap64 (a + 1)) T U j W X Y aj ax ap aq c ar au av)) else ((shutterref11_Begin.f k2 T U j W X Y a).bind fun aB => (if (rd_T35 c a).f0 = true then (none) else ((shutterref11_Open.f k2 T U j W X Y a).bind fun bv => (if bv = true then (if aj = 14 then (if ((rd_T35 c a).f2) = 0 then (shutterlaw17_KeysGuard.l0 k2 (wrap64 (a + 1)) T U j W X Y aj ax ap aq c ar au av) else (none)) else (if aB ≥ 0 then (if 0 ≤ aB then (if aB < (c.length : Int) then (if ((rd_T35 c aB).f1.f3 = true) then (shutterlaw17_KeysGuard.l0 k2 (wrap64 (a + 1)) T U j W X Y aj ax ap aq c ar au av) else (none)) else (none)) else (none)) else (shutterlaw17_KeysGuard.l0 k2 (wrap64 (a + 1)) T U j W X Y aj ax ap aq c ar au av))) else (none)))))) = some r := by rw [← iR] at H; exact H
             have m := Z iR
             clear iR
             by_cases js : jo = true
             ·subst js
              have H1 : (if (!(((rd_T35 c a).f0) == (true)) || ((!(((rd_T35 c a).f1.f0) == ((rd_T35 j a).f1.f0)) || (!(((rd_T35 c a).f1.f1) == ((rd_T35 j a).f1.f1)) || (!(((rd_T35 c a).f1.f2) == ((rd_T35 j a).f1.f2))))) || (!(((rd_T35 c a).f2) == ((rd_T35 j a).f2))))) = true then (none) else (shutterlaw17_KeysGuard.l0 k2 (wrap64 (a + 1)) T U j W X Y aj ax ap aq c ar au av)) = some r := by rw [if_pos rfl] at H; exact H
              clear H
              have H := H1
              clear H1
              by_cases jt : (!(((rd_T35 c a).f0) == (true)) || ((!(((rd_T35 c a).f1.f0) == ((rd_T35 j a).f1.f0)) || (!(((rd_T35 c a).f1.f1) == ((rd_T35 j a).f1.f1)) || (!(((rd_T35 c a).f1.f2) == ((rd_T35 j a).f1.f2))))) || (!(((rd_T35 c a).f2) == ((rd_T35 j a).f2))))) = true
              ·rw [if_pos jt] at H
               exact absurd H (by simp)
              ·rw [if_neg jt] at H
               have kA : (!(((rd_T35 c a).f0) == (true)) || ((!(((rd_T35 c a).f1.f0) == ((rd_T35 j a).f1.f0)) || (!(((rd_T35 c a).f1.f1) == ((rd_T35 j a).f1.f1)) || (!(((rd_T35 c a).f1.f2) == ((rd_T35 j a).f1.f2))))) || (!(((rd_T35 c a).f2) == ((rd_T35 j a).f2))))) = false := by simpa using jt
               clear jt
               have H' := Z H
               clear H
               have nF := aX.out
               have nP := aY.out
               have nG := aZ.out
               have nQ := a4.out
               obtain ⟨l9, ma, mb, mc, md, me, mK, mL, mM, mN, mO, mP⟩ := cells6 b.out
               have nH := a5.out
               have nR := a0.out
               obtain ⟨mf, mg, mh, mi, mj, mk, mQ, mR, mS, mT, mU, mV⟩ := cells6 g.out
               have bi : 0 ≤ (a : Int) := od_
               have bj : a < (c.length : Int) := od_
               obtain ⟨aD, bK, be, bf, bg, cx, bh, cy⟩ := at_T35 (Kd.V_reads' HO_1582002.out).2.2 a bi bj
               (try rw [← m.out] at be)
               (try rw [← m.out] at bf)
               (try rw [← m.out] at bg)
               (try rw [← m.out] at bh)
               cases bK
               replace bi := eq_true bi
               replace bj := eq_true bj
               go_wp2_with (first | ((with_reducible refine gate_dst (N := 9) rfl ?_); (try (refine gate_guard (by rfl) ?_; dsimp only)); refine bx_ 9 35 #[.bool false, .bool false, .bool false, .int .i64 0, .bool false, .int .u8 0] ?_; intro i hg bp hbox hb; replace HO_1582002 := Z (ve HO_1582002.out hg hb); have l := Z (hbox); have a2 := Z (ln_ hg : w.heap.size ≤ i); have bd := Z (ln_ hg : w.heap.size ≤ i); replace HB := Z (below_step bl_ hb); have J := Z (nl b.out hg); have ab := Z (ng b.out hg); replace b := Z (kb b.out hb); have K := Z (nl d.out hg); have ac := Z (ng d.out hg); replace d := Z (kb d.out hb); have L := Z (nl g.out hg); have ad := Z (ng g.out hg); replace g := Z (kb g.out hb); clear hb hbox hg; have df := ab.out; have di := J.out; have dg := ac.out; have dj := K.out; have dh := ad.out; have dk := L.out; obtain ⟨bW, bX, bY, bZ, b0, b1, ce, cf, cg, ch, ci, cj⟩ := cells6 l.out) | ((with_reducible refine gate_store (t := 35) (p := 9) rfl ?_); (try (rw [drewN_self bp]; generalize hq_ : World.drewN bp _ = bp; replace HO_1582002 := Z (Kd.V_at hq_ HO_1582002.out); replace b := Z (blk_at hq_ b.out); replace d := Z (blk_at hq_ d.out); replace g := Z (blk_at hq_ g.out); replace l := Z (blk_at hq_ l.out); replace HB := Z (below_at hq_ HB.out); clear hq_)); refine sx_ 35 9 ((((((bp.setCell ⟨i, 0, none⟩ (.bool ((rd_T35 c a).f0))).setCell ⟨i, 1, none⟩ (.bool ((rd_T35 c a).f1.f0))).setCell ⟨i, 2, none⟩ (.bool ((rd_T35 c a).f1.f1))).setCell ⟨i, 3, none⟩ (.int .i64 ((rd_T35 c a).f1.f2))).setCell ⟨i, 4, none⟩ (.bool ((rd_T35 c a).f1.f3))).setCell ⟨i, 5, none⟩ (.int .u8 ((rd_T35 c a).f2))) ?_; intro aL hw; replace HO_1582002 : Aside0 (Kd.V k35 35 aL w.heap.size (fun k_ => k_ ≠ ah ∧ k_ ≠ ai ∧ k_ ≠ S ∧ k_ ≠ i) (.slice (some aD) c.length aP) c) := ⟨(by rw [hw]; exact (by (with_reducible repeat apply pV); exact V_off HO_1582002.out (fun k_ hk => hk.2) off3_ (fun _ hk => ⟨hk.1.1, ⟨hk.1.2.1, ⟨hk.1.2.2, hk.2⟩⟩⟩)))⟩; replace b : Aside0 (aL.heap[ah]? = some (.cells #[.int .i64 T, .int .i64 U, .slice bb j.length bc, .int .i64 W, .bool X, .bool Y] 24 (0, 0))) := ⟨(by rw [hw]; exact (by (with_reducible repeat apply pK); exact blk_off b.out J.out off3_))⟩; replace d : Aside0 (aL.heap[ai]? = some (.cells #[.int .i64 aj, .int .u8 ax] 58 (0, 0))) := ⟨(by rw [hw]; exact (by (with_reducible repeat apply pK); exact blk_off d.out K.out off3_))⟩; replace g : Aside0 (aL.heap[S]? = some (.cells #[.int .i64 ap, .int .i64 aq, .slice (some aD) c.length aP, .int .i64 ar, .bool au, .bool av] 24 (0, 0))) := ⟨(by rw [hw]; exact (by (with_reducible repeat apply pK); exact blk_off g.out L.out off3_))⟩; replace l : Aside0 (aL.heap[i]? = some (.cells #[.bool ((rd_T35 c a).f0), .bool ((rd_T35 c a).f1.f0), .bool ((rd_T35 c a).f1.f1), .int .i64 ((rd_T35 c a).f1.f2), .bool ((rd_T35 c a).f1.f3), .int .u8 ((rd_T35 c a).f2)] 35 (0, 0))) := ⟨(by rw [hw]; exact (by first | exact put6 l.out | (simp only [← m.out]; exact put6 l.out)))⟩; replace HB : Aside0 (Below w.heap.size w aL) := ⟨by rw [hw]; exact bl_⟩; clear hw; obtain ⟨b2, b3, b4, b5, b6, b7, ck, cl, cm, cn, co, cp⟩ := cells6 l.out; obtain ⟨b8, b9, ca, cb, cc, cd, cq, cr, ct, cu, cv, cw⟩ := cells6 b.out; have al : 0 ≤ (a : Int) := od_; have am : a < (j.length : Int) := od_; obtain ⟨aw, aW, y, z, A, M, B, O⟩ := at_T35 ak.out a al am; (try rw [← m.out] at y); (try rw [← m.out] at z); (try rw [← m.out] at A); (try rw [← m.out] at B); cases aW; replace y := (HB.out.cell (bk_ w _ y)).trans y; replace z := (HB.out.cell (bk_ w _ z)).trans z; replace A := (HB.out.cell (bk_ w _ A)).trans A; replace M := (HB.out.cell (bk_ w _ M)).trans M; replace B := (HB.out.cell (bk_ w _ B)).trans B; replace O := (HB.out.cell (bk_ w _ O)).trans O; replace al := eq_true al; replace am := eq_true am; have ay : 0 ≤ (a : Int) := od_; have az : a < (j.length : Int) := od_; obtain ⟨aV, a1, E, F, G, Q, I, R⟩ := at_T35 ak.out a ay az; (try rw [← m.out] at E); (try rw [← m.out] at F); (try rw [← m.out] at G); (try rw [← m.out] at I); obtain rfl : aw = aV := (by injection a1); replace E := (HB.out.cell (bk_ w _ E)).trans E; replace F := (HB.out.cell (bk_ w _ F)).trans F; replace G := (HB.out.cell (bk_ w _ G)).trans G; replace Q := (HB.out.cell (bk_ w _ Q)).trans Q; replace I := (HB.out.cell (bk_ w _ I)).trans I; replace R := (HB.out.cell (bk_ w _ R)).trans R; replace ay := eq_true ay; replace az := eq_true az; have a6 : 0 ≤ (a : Int) := od_; have a8 : a < (j.length : Int) := od_; obtain ⟨bs, bB, aG, aH, aI, aQ, aJ, aR⟩ := at_T35 ak.out a a6 a8; (try rw [← m.out] at aG); (try rw [← m.out] at aH); (try rw [← m.out] at aI); (try rw [← m.out] at aJ); obtain rfl : aw = bs := (by injection bB); replace aG := (HB.out.cell (bk_ w _ aG)).trans aG; replace aH := (HB.out.cell (bk_ w _ aH)).trans aH; replace aI := (HB.out.cell (bk_ w _ aI)).trans aI; replace aQ := (HB.out.cell (bk_ w _ aQ)).trans aQ; replace aJ := (HB.out.cell (bk_ w _ aJ)).trans aJ; replace aR := (HB.out.cell (bk_ w _ aR)).trans aR; replace a6 := eq_true a6; replace a8 := eq_true a8; have a7 : 0 ≤ (a : Int) := od_; have a9 : a < (j.length : Int) := od_; obtain ⟨bt, bC, aa, ae, af, an, ag, ao⟩ := at_T35 ak.out a a7 a9; (try rw [← m.out] at aa); (try rw [← m.out] at ae); (try rw [← m.out] at af); (try rw [← m.out] at ag); obtain rfl : aw = bt := (by injection bC); have s : aw.block ≠ i := Nat.ne_of_lt (Nat.lt_of_lt_of_le (by have := bk_ _ _ aa; first | rwa [add_block] at this | exact this) a2.out); replace aa := (HB.out.cell (bk_ w _ aa)).trans aa; replace ae := (HB.out.cell (bk_ w _ ae)).trans ae; replace af := (HB.out.cell (bk_ w _ af)).trans af; replace an := (HB.out.cell (bk_ w _ an)).trans an; replace ag := (HB.out.cell (bk_ w _ ag)).trans ag; replace ao := (HB.out.cell (bk_ w _ ao)).trans ao; replace aa := (cell_far (p := ⟨i, 4, none⟩) (by first | (rw [add_block]; exact s) | (show (Addr.add _ _).block ≠ _; rw [add_block]; exact s) | exact s) (.bool ((rd_T35 j a).f1.f3))).trans aa; replace ae := (cell_far (p := ⟨i, 4, none⟩) (by first | (rw [add_block]; exact s) | (show (Addr.add _ _).block ≠ _; rw [add_block]; exact s) | exact s) (.bool ((rd_T35 j a).f1.f3))).trans ae; replace af := (cell_far (p := ⟨i, 4, none⟩) (by first | (rw [add_block]; exact s) | (show (Addr.add _ _).block ≠ _; rw [add_block]; exact s) | exact s) (.bool ((rd_T35 j a).f1.f3))).trans af; replace an := (cell_far (p := ⟨i, 4, none⟩) (by first | (rw [add_block]; exact s) | (show (Addr.add _ _).block ≠ _; rw [add_block]; exact s) | exact s) (.bool ((rd_T35 j a).f1.f3))).trans an; replace ag := (cell_far (p := ⟨i, 4, none⟩) (by first | (rw [add_block]; exact s) | (show (Addr.add _ _).block ≠ _; rw [add_block]; exact s) | exact s) (.bool ((rd_T35 j a).f1.f3))).trans ag; replace ao := (cell_far (p := ⟨i, 4, none⟩) (by first | (rw [add_block]; exact s) | (show (Addr.add _ _).block ≠ _; rw [add_block]; exact s) | exact s) (.bool ((rd_T35 j a).f1.f3))).trans ao; (try have bL := fun (n_ : Nat) => (show (((aL.drewN n_).setCell ⟨i, 4, none⟩ (.bool ((rd_T35 j a).f1.f3)))).cell? _ = some _ from aa)); (try have bM := fun (n_ : Nat) => (show (((aL.drewN n_).setCell ⟨i, 4, none⟩ (.bool ((rd_T35 j a).f1.f3)))).cell? _ = some _ from ae)); (try have bN := fun (n_ : Nat) => (show (((aL.drewN n_).setCell ⟨i, 4, none⟩ (.bool ((rd_T35 j a).f1.f3)))).cell? _ = some _ from af)); (try have bO := fun (n_ : Nat) => (show (((aL.drewN n_).setCell ⟨i, 4, none⟩ (.bool ((rd_T35 j a).f1.f3)))).cell? _ = some _ from an)); (try have bP := fun (n_ : Nat) => (show (((aL.drewN n_).setCell ⟨i, 4, none⟩ (.bool ((rd_T35 j a).f1.f3)))).cell? _ = some _ from ag)); (try have bQ := fun (n_ : Nat) => (show (((aL.drewN n_).setCell ⟨i, 4, none⟩ (.bool ((rd_T35 j a).f1.f3)))).cell? _ = some _ from ao)); clear s; replace a7 := eq_true a7; replace a9 := eq_true a9))
               any_goals (first | (exfalso; rename_i hq_; exact Bool.noConfusion ((show (((rd_T35 c a).f0) == ((rd_T35 j a).f0) && ((((rd_T35 c a).f1.f0) == ((rd_T35 j a).f1.f0) && (((rd_T35 c a).f1.f1) == ((rd_T35 j a).f1.f1) && (((rd_T35 c a).f1.f2) == ((rd_T35 j a).f1.f2) && (((rd_T35 c a).f1.f3) == ((rd_T35 j a).f1.f3))))) && (((rd_T35 c a).f2) == ((rd_T35 j a).f2)))) = true by simpa [← m.out] using hq_).symm.trans bA)) | skip)
               repeat (go_quiet (fail); try go_wp2_with (first | ((with_reducible refine gate_dst (N := 9) rfl ?_); (try (refine gate_guard (by rfl) ?_; dsimp only)); refine bx_ 9 35 #[.bool false, .bool false, .bool false, .int .i64 0, .bool false, .int .u8 0] ?_; intro i hg bp hbox hb; replace HO_1582002 := Z (ve HO_1582002.out hg hb); have l := Z (hbox); have a2 := Z (ln_ hg : w.heap.size ≤ i); have bd := Z (ln_ hg : w.heap.size ≤ i); replace HB := Z (below_step bl_ hb); have J := Z (nl b.out hg); have ab := Z (ng b.out hg); replace b := Z (kb b.out hb); have K := Z (nl d.out hg); have ac := Z (ng d.out hg); replace d := Z (kb d.out hb); have L := Z (nl g.out hg); have ad := Z (ng g.out hg); replace g := Z (kb g.out hb); clear hb hbox hg; have df := ab.out; have di := J.out; have dg := ac.out; have dj := K.out; have dh := ad.out; have dk := L.out; obtain ⟨bW, bX, bY, bZ, b0, b1, ce, cf, cg, ch, ci, cj⟩ := cells6 l.out) | ((with_reducible refine gate_store (t := 35) (p := 9) rfl ?_); (try (rw [drewN_self bp]; generalize hq_ : World.drewN bp _ = bp; replace HO_1582002 := Z (Kd.V_at hq_ HO_1582002.out); replace b := Z (blk_at hq_ b.out); replace d := Z (blk_at hq_ d.out); replace g := Z (blk_at hq_ g.out); replace l := Z (blk_at hq_ l.out); replace HB := Z (below_at hq_ HB.out); clear hq_)); refine sx_ 35 9 ((((((bp.setCell ⟨i, 0, none⟩ (.bool ((rd_T35 c a).f0))).setCell ⟨i, 1, none⟩ (.bool ((rd_T35 c a).f1.f0))).setCell ⟨i, 2, none⟩ (.bool ((rd_T35 c a).f1.f1))).setCell ⟨i, 3, none⟩ (.int .i64 ((rd_T35 c a).f1.f2))).setCell ⟨i, 4, none⟩ (.bool ((rd_T35 c a).f1.f3))).setCell ⟨i, 5, none⟩ (.int .u8 ((rd_T35 c a).f2))) ?_; intro aL hw; replace HO_1582002 : Aside0 (Kd.V k35 35 aL w.heap.size (fun k_ => k_ ≠ ah ∧ k_ ≠ ai ∧ k_ ≠ S ∧ k_ ≠ i) (.slice (some aD) c.length aP) c) := ⟨(by rw [hw]; exact (by (with_reducible repeat apply pV); exact V_off HO_1582002.out (fun k_ hk => hk.2) off3_ (fun _ hk => ⟨hk.1.1, ⟨hk.1.2.1, ⟨hk.1.2.2, hk.2⟩⟩⟩)))⟩; replace b : Aside0 (aL.heap[ah]? = some (.cells #[.int .i64 T, .int .i64 U, .slice bb j.length bc, .int .i64 W, .bool X, .bool Y] 24 (0, 0))) := ⟨(by rw [hw]; exact (by (with_reducible repeat apply pK); exact blk_off b.out J.out off3_))⟩; replace d : Aside0 (aL.heap[ai]? = some (.cells #[.int .i64 aj, .int .u8 ax] 58 (0, 0))) := ⟨(by rw [hw]; exact (by (with_reducible repeat apply pK); exact blk_off d.out K.out off3_))⟩; replace g : Aside0 (aL.heap[S]? = some (.cells #[.int .i64 ap, .int .i64 aq, .slice (some aD) c.length aP, .int .i64 ar, .bool au, .bool av] 24 (0, 0))) := ⟨(by rw [hw]; exact (by (with_reducible repeat apply pK); exact blk_off g.out L.out off3_))⟩; replace l : Aside0 (aL.heap[i]? = some (.cells #[.bool ((rd_T35 c a).f0), .bool ((rd_T35 c a).f1.f0), .bool ((rd_T35 c a).f1.f1), .int .i64 ((rd_T35 c a).f1.f2), .bool ((rd_T35 c a).f1.f3), .int .u8 ((rd_T35 c a).f2)] 35 (0, 0))) := ⟨(by rw [hw]; exact (by first | exact put6 l.out | (simp only [← m.out]; exact put6 l.out)))⟩; replace HB : Aside0 (Below w.heap.size w aL) := ⟨by rw [hw]; exact bl_⟩; clear hw; obtain ⟨b2, b3, b4, b5, b6, b7, ck, cl, cm, cn, co, cp⟩ := cells6 l.out; obtain ⟨b8, b9, ca, cb, cc, cd, cq, cr, ct, cu, cv, cw⟩ := cells6 b.out; have al : 0 ≤ (a : Int) := od_; have am : a < (j.length : Int) := od_; obtain ⟨aw, aW, y, z, A, M, B, O⟩ := at_T35 ak.out a al am; (try rw [← m.out] at y); (try rw [← m.out] at z); (try rw [← m.out] at A); (try rw [← m.out] at B); cases aW; replace y := (HB.out.cell (bk_ w _ y)).trans y; replace z := (HB.out.cell (bk_ w _ z)).trans z; replace A := (HB.out.cell (bk_ w _ A)).trans A; replace M := (HB.out.cell (bk_ w _ M)).trans M; replace B := (HB.out.cell (bk_ w _ B)).trans B; replace O := (HB.out.cell (bk_ w _ O)).trans O; replace al := eq_true al; replace am := eq_true am; have ay : 0 ≤ (a : Int) := od_; have az : a < (j.length : Int) := od_; obtain ⟨aV, a1, E, F, G, Q, I, R⟩ := at_T35 ak.out a ay az; (try rw [← m.out] at E); (try rw [← m.out] at F); (try rw [← m.out] at G); (try rw [← m.out] at I); obtain rfl : aw = aV := (by injection a1); replace E := (HB.out.cell (bk_ w _ E)).trans E; replace F := (HB.out.cell (bk_ w _ F)).trans F; replace G := (HB.out.cell (bk_ w _ G)).trans G; replace Q := (HB.out.cell (bk_ w _ Q)).trans Q; replace I := (HB.out.cell (bk_ w _ I)).trans I; replace R := (HB.out.cell (bk_ w _ R)).trans R; replace ay := eq_true ay; replace az := eq_true az; have a6 : 0 ≤ (a : Int) := od_; have a8 : a < (j.length : Int) := od_; obtain ⟨bs, bB, aG, aH, aI, aQ, aJ, aR⟩ := at_T35 ak.out a a6 a8; (try rw [← m.out] at aG); (try rw [← m.out] at aH); (try rw [← m.out] at aI); (try rw [← m.out] at aJ); obtain rfl : aw = bs := (by injection bB); replace aG := (HB.out.cell (bk_ w _ aG)).trans aG; replace aH := (HB.out.cell (bk_ w _ aH)).trans aH; replace aI := (HB.out.cell (bk_ w _ aI)).trans aI; replace aQ := (HB.out.cell (bk_ w _ aQ)).trans aQ; replace aJ := (HB.out.cell (bk_ w _ aJ)).trans aJ; replace aR := (HB.out.cell (bk_ w _ aR)).trans aR; replace a6 := eq_true a6; replace a8 := eq_true a8; have a7 : 0 ≤ (a : Int) := od_; have a9 : a < (j.length : Int) := od_; obtain ⟨bt, bC, aa, ae, af, an, ag, ao⟩ := at_T35 ak.out a a7 a9; (try rw [← m.out] at aa); (try rw [← m.out] at ae); (try rw [← m.out] at af); (try rw [← m.out] at ag); obtain rfl : aw = bt := (by injection bC); have s : aw.block ≠ i := Nat.ne_of_lt (Nat.lt_of_lt_of_le (by have := bk_ _ _ aa; first | rwa [add_block] at this | exact this) a2.out); replace aa := (HB.out.cell (bk_ w _ aa)).trans aa; replace ae := (HB.out.cell (bk_ w _ ae)).trans ae; replace af := (HB.out.cell (bk_ w _ af)).trans af; replace an := (HB.out.cell (bk_ w _ an)).trans an; replace ag := (HB.out.cell (bk_ w _ ag)).trans ag; replace ao := (HB.out.cell (bk_ w _ ao)).trans ao; replace aa := (cell_far (p := ⟨i, 4, none⟩) (by first | (rw [add_block]; exact s) | (show (Addr.add _ _).block ≠ _; rw [add_block]; exact s) | exact s) (.bool ((rd_T35 j a).f1.f3))).trans aa; replace ae := (cell_far (p := ⟨i, 4, none⟩) (by first | (rw [add_block]; exact s) | (show (Addr.add _ _).block ≠ _; rw [add_block]; exact s) | exact s) (.bool ((rd_T35 j a).f1.f3))).trans ae; replace af := (cell_far (p := ⟨i, 4, none⟩) (by first | (rw [add_block]; exact s) | (show (Addr.add _ _).block ≠ _; rw [add_block]; exact s) | exact s) (.bool ((rd_T35 j a).f1.f3))).trans af; replace an := (cell_far (p := ⟨i, 4, none⟩) (by first | (rw [add_block]; exact s) | (show (Addr.add _ _).block ≠ _; rw [add_block]; exact s) | exact s) (.bool ((rd_T35 j a).f1.f3))).trans an; replace ag := (cell_far (p := ⟨i, 4, none⟩) (by first | (rw [add_block]; exact s) | (show (Addr.add _ _).block ≠ _; rw [add_block]; exact s) | exact s) (.bool ((rd_T35 j a).f1.f3))).trans ag; replace ao := (cell_far (p := ⟨i, 4, none⟩) (by first | (rw [add_block]; exact s) | (show (Addr.add _ _).block ≠ _; rw [add_block]; exact s) | exact s) (.bool ((rd_T35 j a).f1.f3))).trans ao; (try have bL := fun (n_ : Nat) => (show (((aL.drewN n_).setCell ⟨i, 4, none⟩ (.bool ((rd_T35 j a).f1.f3)))).cell? _ = some _ from aa)); (try have bM := fun (n_ : Nat) => (show (((aL.drewN n_).setCell ⟨i, 4, none⟩ (.bool ((rd_T35 j a).f1.f3)))).cell? _ = some _ from ae)); (try have bN := fun (n_ : Nat) => (show (((aL.drewN n_).setCell ⟨i, 4, none⟩ (.bool ((rd_T35 j a).f1.f3)))).cell? _ = some _ from af)); (try have bO := fun (n_ : Nat) => (show (((aL.drewN n_).setCell ⟨i, 4, none⟩ (.bool ((rd_T35 j a).f1.f3)))).cell? _ = some _ from an)); (try have bP := fun (n_ : Nat) => (show (((aL.drewN n_).setCell ⟨i, 4, none⟩ (.bool ((rd_T35 j a).f1.f3)))).cell? _ = some _ from ag)); (try have bQ := fun (n_ : Nat) => (show (((aL.drewN n_).setCell ⟨i, 4, none⟩ (.bool ((rd_T35 j a).f1.f3)))).cell? _ = some _ from ao)); clear s; replace a7 := eq_true a7; replace a9 := eq_true a9)))
               any_goals (first | (exfalso; rename_i hq_; exact Bool.noConfusion ((show (((rd_T35 c a).f0) == ((rd_T35 j a).f0) && ((((rd_T35 c a).f1.f0) == ((rd_T35 j a).f1.f0) && (((rd_T35 c a).f1.f1) == ((rd_T35 j a).f1.f1) && (((rd_T35 c a).f1.f2) == ((rd_T35 j a).f1.f2) && (((rd_T35 c a).f1.f3) == ((rd_T35 j a).f1.f3))))) && (((rd_T35 c a).f2) == ((rd_T35 j a).f2)))) = true by simpa [← m.out] using hq_).symm.trans bA)) | skip)
               repeat (go_quiet (fail); try go_wp2_with (first | ((with_reducible refine gate_dst (N := 9) rfl ?_); (try (refine gate_guard (by rfl) ?_; dsimp only)); refine bx_ 9 35 #[.bool false, .bool false, .bool false, .int .i64 0, .bool false, .int .u8 0] ?_; intro i hg bp hbox hb; replace HO_1582002 := Z (ve HO_1582002.out hg hb); have l := Z (hbox); have a2 := Z (ln_ hg : w.heap.size ≤ i); have bd := Z (ln_ hg : w.heap.size ≤ i); replace HB := Z (below_step bl_ hb); have J := Z (nl b.out hg); have ab := Z (ng b.out hg); replace b := Z (kb b.out hb); have K := Z (nl d.out hg); have ac := Z (ng d.out hg); replace d := Z (kb d.out hb); have L := Z (nl g.out hg); have ad := Z (ng g.out hg); replace g := Z (kb g.out hb); clear hb hbox hg; have df := ab.out; have di := J.out; have dg := ac.out; have dj := K.out; have dh := ad.out; have dk := L.out; obtain ⟨bW, bX, bY, bZ, b0, b1, ce, cf, cg, ch, ci, cj⟩ := cells6 l.out) | ((with_reducible refine gate_store (t := 35) (p := 9) rfl ?_); (try (rw [drewN_self bp]; generalize hq_ : World.drewN bp _ = bp; replace HO_1582002 := Z (Kd.V_at hq_ HO_1582002.out); replace b := Z (blk_at hq_ b.out); replace d := Z (blk_at hq_ d.out); replace g := Z (blk_at hq_ g.out); replace l := Z (blk_at hq_ l.out); replace HB := Z (below_at hq_ HB.out); clear hq_)); refine sx_ 35 9 ((((((bp.setCell ⟨i, 0, none⟩ (.bool ((rd_T35 c a).f0))).setCell ⟨i, 1, none⟩ (.bool ((rd_T35 c a).f1.f0))).setCell ⟨i, 2, none⟩ (.bool ((rd_T35 c a).f1.f1))).setCell ⟨i, 3, none⟩ (.int .i64 ((rd_T35 c a).f1.f2))).setCell ⟨i, 4, none⟩ (.bool ((rd_T35 c a).f1.f3))).setCell ⟨i, 5, none⟩ (.int .u8 ((rd_T35 c a).f2))) ?_; intro aL hw; replace HO_1582002 : Aside0 (Kd.V k35 35 aL w.heap.size (fun k_ => k_ ≠ ah ∧ k_ ≠ ai ∧ k_ ≠ S ∧ k_ ≠ i) (.slice (some aD) c.length aP) c) := ⟨(by rw [hw]; exact (by (with_reducible repeat apply pV); exact V_off HO_1582002.out (fun k_ hk => hk.2) off3_ (fun _ hk => ⟨hk.1.1, ⟨hk.1.2.1, ⟨hk.1.2.2, hk.2⟩⟩⟩)))⟩; replace b : Aside0 (aL.heap[ah]? = some (.cells #[.int .i64 T, .int .i64 U, .slice bb j.length bc, .int .i64 W, .bool X, .bool Y] 24 (0, 0))) := ⟨(by rw [hw]; exact (by (with_reducible repeat apply pK); exact blk_off b.out J.out off3_))⟩; replace d : Aside0 (aL.heap[ai]? = some (.cells #[.int .i64 aj, .int .u8 ax] 58 (0, 0))) := ⟨(by rw [hw]; exact (by (with_reducible repeat apply pK); exact blk_off d.out K.out off3_))⟩; replace g : Aside0 (aL.heap[S]? = some (.cells #[.int .i64 ap, .int .i64 aq, .slice (some aD) c.length aP, .int .i64 ar, .bool au, .bool av] 24 (0, 0))) := ⟨(by rw [hw]; exact (by (with_reducible repeat apply pK); exact blk_off g.out L.out off3_))⟩; replace l : Aside0 (aL.heap[i]? = some (.cells #[.bool ((rd_T35 c a).f0), .bool ((rd_T35 c a).f1.f0), .bool ((rd_T35 c a).f1.f1), .int .i64 ((rd_T35 c a).f1.f2), .bool ((rd_T35 c a).f1.f3), .int .u8 ((rd_T35 c a).f2)] 35 (0, 0))) := ⟨(by rw [hw]; exact (by first | exact put6 l.out | (simp only [← m.out]; exact put6 l.out)))⟩; replace HB : Aside0 (Below w.heap.size w aL) := ⟨by rw [hw]; exact bl_⟩; clear hw; obtain ⟨b2, b3, b4, b5, b6, b7, ck, cl, cm, cn, co, cp⟩ := cells6 l.out; obtain ⟨b8, b9, ca, cb, cc, cd, cq, cr, ct, cu, cv, cw⟩ := cells6 b.out; have al : 0 ≤ (a : Int) := od_; have am : a < (j.length : Int) := od_; obtain ⟨aw, aW, y, z, A, M, B, O⟩ := at_T35 ak.out a al am; (try rw [← m.out] at y); (try rw [← m.out] at z); (try rw [← m.out] at A); (try rw [← m.out] at B); cases aW; replace y := (HB.out.cell (bk_ w _ y)).trans y; replace z := (HB.out.cell (bk_ w _ z)).trans z; replace A := (HB.out.cell (bk_ w _ A)).trans A; replace M := (HB.out.cell (bk_ w _ M)).trans M; replace B := (HB.out.cell (bk_ w _ B)).trans B; replace O := (HB.out.cell (bk_ w _ O)).trans O; replace al := eq_true al; replace am := eq_true am; have ay : 0 ≤ (a : Int) := od_; have az : a < (j.length : Int) := od_; obtain ⟨aV, a1, E, F, G, Q, I, R⟩ := at_T35 ak.out a ay az; (try rw [← m.out] at E); (try rw [← m.out] at F); (try rw [← m.out] at G); (try rw [← m.out] at I); obtain rfl : aw = aV := (by injection a1); replace E := (HB.out.cell (bk_ w _ E)).trans E; replace F := (HB.out.cell (bk_ w _ F)).trans F; replace G := (HB.out.cell (bk_ w _ G)).trans G; replace Q := (HB.out.cell (bk_ w _ Q)).trans Q; replace I := (HB.out.cell (bk_ w _ I)).trans I; replace R := (HB.out.cell (bk_ w _ R)).trans R; replace ay := eq_true ay; replace az := eq_true az; have a6 : 0 ≤ (a : Int) := od_; have a8 : a < (j.length : Int) := od_; obtain ⟨bs, bB, aG, aH, aI, aQ, aJ, aR⟩ := at_T35 ak.out a a6 a8; (try rw [← m.out] at aG); (try rw [← m.out] at aH); (try rw [← m.out] at aI); (try rw [← m.out] at aJ); obtain rfl : aw = bs := (by injection bB); replace aG := (HB.out.cell (bk_ w _ aG)).trans aG; replace aH := (HB.out.cell (bk_ w _ aH)).trans aH; replace aI := (HB.out.cell (bk_ w _ aI)).trans aI; replace aQ := (HB.out.cell (bk_ w _ aQ)).trans aQ; replace aJ := (HB.out.cell (bk_ w _ aJ)).trans aJ; replace aR := (HB.out.cell (bk_ w _ aR)).trans aR; replace a6 := eq_true a6; replace a8 := eq_true a8; have a7 : 0 ≤ (a : Int) := od_; have a9 : a < (j.length : Int) := od_; obtain ⟨bt, bC, aa, ae, af, an, ag, ao⟩ := at_T35 ak.out a a7 a9; (try rw [← m.out] at aa); (try rw [← m.out] at ae); (try rw [← m.out] at af); (try rw [← m.out] at ag); obtain rfl : aw = bt := (by injection bC); have s : aw.block ≠ i := Nat.ne_of_lt (Nat.lt_of_lt_of_le (by have := bk_ _ _ aa; first | rwa [add_block] at this | exact this) a2.out); replace aa := (HB.out.cell (bk_ w _ aa)).trans aa; replace ae := (HB.out.cell (bk_ w _ ae)).trans ae; replace af := (HB.out.cell (bk_ w _ af)).trans af; replace an := (HB.out.cell (bk_ w _ an)).trans an; replace ag := (HB.out.cell (bk_ w _ ag)).trans ag; replace ao := (HB.out.cell (bk_ w _ ao)).trans ao; replace aa := (cell_far (p := ⟨i, 4, none⟩) (by first | (rw [add_block]; exact s) | (show (Addr.add _ _).block ≠ _; rw [add_block]; exact s) | exact s) (.bool ((rd_T35 j a).f1.f3))).trans aa; replace ae := (cell_far (p := ⟨i, 4, none⟩) (by first | (rw [add_block]; exact s) | (show (Addr.add _ _).block ≠ _; rw [add_block]; exact s) | exact s) (.bool ((rd_T35 j a).f1.f3))).trans ae; replace af := (cell_far (p := ⟨i, 4, none⟩) (by first | (rw [add_block]; exact s) | (show (Addr.add _ _).block ≠ _; rw [add_block]; exact s) | exact s) (.bool ((rd_T35 j a).f1.f3))).trans af; replace an := (cell_far (p := ⟨i, 4, none⟩) (by first | (rw [add_block]; exact s) | (show (Addr.add _ _).block ≠ _; rw [add_block]; exact s) | exact s) (.bool ((rd_T35 j a).f1.f3))).trans an; replace ag := (cell_far (p := ⟨i, 4, none⟩) (by first | (rw [add_block]; exact s) | (show (Addr.add _ _).block ≠ _; rw [add_block]; exact s) | exact s) (.bool ((rd_T35 j a).f1.f3))).trans ag; replace ao := (cell_far (p := ⟨i, 4, none⟩) (by first | (rw [add_block]; exact s) | (show (Addr.add _ _).block ≠ _; rw [add_block]; exact s) | exact s) (.bool ((rd_T35 j a).f1.f3))).trans ao; (try have bL := fun (n_ : Nat) => (show (((aL.drewN n_).setCell ⟨i, 4, none⟩ (.bool ((rd_T35 j a).f1.f3)))).cell? _ = some _ from aa)); (try have bM := fun (n_ : Nat) => (show (((aL.drewN n_).setCell ⟨i, 4, none⟩ (.bool ((rd_T35 j a).f1.f3)))).cell? _ = some _ from ae)); (try have bN := fun (n_ : Nat) => (show (((aL.drewN n_).setCell ⟨i, 4, none⟩ (.bool ((rd_T35 j a).f1.f3)))).cell? _ = some _ from af)); (try have bO := fun (n_ : Nat) => (show (((aL.drewN n_).setCell ⟨i, 4, none⟩ (.bool ((rd_T35 j a).f1.f3)))).cell? _ = some _ from an)); (try have bP := fun (n_ : Nat) => (show (((aL.drewN n_).setCell ⟨i, 4, none⟩ (.bool ((rd_T35 j a).f1.f3)))).cell? _ = some _ from ag)); (try have bQ := fun (n_ : Nat) => (show (((aL.drewN n_).setCell ⟨i, 4, none⟩ (.bool ((rd_T35 j a).f1.f3)))).cell? _ = some _ from ao)); clear s; replace a7 := eq_true a7; replace a9 := eq_true a9)))
               any_goals (first | (exfalso; rename_i hq_; exact Bool.noConfusion ((show (((rd_T35 c a).f0) == ((rd_T35 j a).f0) && ((((rd_T35 c a).f1.f0) == ((rd_T35 j a).f1.f0) && (((rd_T35 c a).f1.f1) == ((rd_T35 j a).f1.f1) && (((rd_T35 c a).f1.f2) == ((rd_T35 j a).f1.f2) && (((rd_T35 c a).f1.f3) == ((rd_T35 j a).f1.f3))))) && (((rd_T35 c a).f2) == ((rd_T35 j a).f2)))) = true by simpa [← m.out] using hq_).symm.trans bA)) | skip)
               any_goals (first | (exfalso; rename_i hq_; exact Bool.noConfusion ((show (!(((rd_T35 c a).f0) == (true)) || ((!(((rd_T35 c a).f1.f0) == ((rd_T35 j a).f1.f0)) || (!(((rd_T35 c a).f1.f1) == ((rd_T35 j a).f1.f1)) || (!(((rd_T35 c a).f1.f2) == ((rd_T35 j a).f1.f2))))) || (!(((rd_T35 c a).f2) == ((rd_T35 j a).f2))))) = true by simpa using hq_).symm.trans kA)) | skip)
               go_roundg k2
               case measure => have := da.out; have := db.out; omega
               case rel => exact ⟨(wrap64 (a + 1)), (dn_), H', ⟨by have := da.out; have := db.out; omega⟩, ⟨by (with_reducible repeat apply pV); exact Kd.V_mono (Kd.V_far (p := ⟨i, 4, none⟩) (Kd.V_mono HO_1582002.out (fun k_ hk => (⟨hk, hk.2.2.2⟩ : _ ∧ k_ ≠ i))) (fun _ hk => hk.2) (.bool ((rd_T35 j a).f1.f3))) (fun _ hk => ⟨hk.1.1, ⟨hk.1.2.1, hk.1.2.2.1⟩⟩)⟩, ⟨by (with_reducible repeat apply pK); exact blk_off b.out J.out off3_⟩, ⟨by (with_reducible repeat apply pK); exact blk_off d.out K.out off3_⟩, ⟨by (with_reducible repeat apply pK); exact blk_off g.out L.out off3_⟩, ⟨bl_⟩⟩
             ·replace js := Bool.eq_false_iff.mpr js
              subst js
              have H1 : ((shutterref11_Begin.f k2 T U j W X Y a).bind fun aB => (if (rd_T35 c a).f0 = true then (none) else ((shutterref11_Open.f k2 T U j W X Y a).bind fun bv => (if bv = true then (if aj = 14 then (if ((rd_T35 c a).f2) = 0 then (shutterlaw17_KeysGuard.l0 k2 (wrap64 (a + 1)) T U j W X Y aj ax ap aq c ar au av) else (none)) else (if aB ≥ 0 then (if 0 ≤ aB then (if aB < (c.length : Int) then (if ((rd_T35 c aB).f1.f3 = true) then (shutterlaw17_KeysGuard.l0 k2 (wrap64 (a + 1)) T U j W X Y aj ax ap aq c ar au av) else (none)) else (none)) else (none)) else (shutterlaw17_KeysGuard.l0 k2 (wrap64 (a + 1)) T U j W X Y aj ax ap aq c ar au av))) else (none))))) = some r := by rw [if_neg (show ¬ (false = true) by decide)] at H; exact H
              clear H
              have H := H1
              clear H1
              replace H := Option.bind_eq_some_iff.mp H
              obtain ⟨aB, kk, H⟩ := H
              replace H : (if (rd_T35 c a).f0 = true then (none) else ((shutterref11_Open.f k2 T U j W X Y a).bind fun bv => (if bv = true then (if aj = 14 then (if ((rd_T35 c a).f2) = 0 then (shutterlaw17_KeysGuard.l0 k2 (wrap64 (a + 1)) T U j W X Y aj ax ap aq c ar au av) else (none)) else (if aB ≥ 0 then (if 0 ≤ aB then (if aB < (c.length : Int) then (if ((rd_T35 c aB).f1.f3 = true) then (shutterlaw17_KeysGuard.l0 k2 (wrap64 (a + 1)) T U j W X Y aj ax ap aq c ar au av) else (none)) else (none)) else (none)) else (shutterlaw17_KeysGuard.l0 k2 (wrap64 (a + 1)) T U j W X Y aj ax ap aq c ar au av))) else (none)))) = some r := H
              have dc := Z kk
              clear kk
              obtain ⟨kn, iS⟩ : ∃ b_ : Bool, b_ = ((rd_T35 c a).f0) := ⟨_, rfl⟩
              replace H : (if kn = true then (none) else ((shutterref11_Open.f k2 T U j W X Y a).bind fun bv => (if bv = true then (if aj = 14 then (if ((rd_T35 c a).f2) = 0 then (shutterlaw17_KeysGuard.l0 k2 (wrap64 (a + 1)) T U j W X Y aj ax ap aq c ar au av) else (none)) else (if aB ≥ 0 then (if 0 ≤ aB then (if aB < (c.length : Int) then (if ((rd_T35 c aB).f1.f3 = true) then (shutterlaw17_KeysGuard.l0 k2 (wrap64 (a + 1)) T U j W X Y aj ax ap aq c ar au av) else (none)) else (none)) else (none)) else (shutterlaw17_KeysGuard.l0 k2 (wrap64 (a + 1)) T U j W X Y aj ax ap aq c ar au av))) else (none)))) = some r := by rw [← iS] at H; exact H
              have P := Z iS
              clear iS
              by_cases ju : kn = true
              ·subst ju
               have H1 : (none) = some r := by rw [if_pos rfl] at H; exact H
               clear H
               have H := H1
               clear H1
               exact absurd H (by simp)
              ·replace ju := Bool.eq_false_iff.mpr ju
               subst ju
               have H1 : ((shutterref11_Open.f k2 T U j W X Y a).bind fun bv => (if bv = true then (if aj = 14 then (if ((rd_T35 c a).f2) = 0 then (shutterlaw17_KeysGuard.l0 k2 (wrap64 (a + 1)) T U j W X Y aj ax ap aq c ar au av) else (none)) else (if aB ≥ 0 then (if 0 ≤ aB then (if aB < (c.length : Int) then (if ((rd_T35 c aB).f1.f3 = true) then (shutterlaw17_KeysGuard.l0 k2 (wrap64 (a + 1)) T U j W X Y aj ax ap aq c ar au av) else (none)) else (none)) else (none)) else (shutterlaw17_KeysGuard.l0 k2 (wrap64 (a + 1)) T U j W X Y aj ax ap aq c ar au av))) else (none))) = some r := by rw [if_neg (show ¬ (false = true) by decide)] at H; exact H
               clear H
               have H := H1
               clear H1
               replace H := Option.bind_eq_some_iff.mp H
               obtain ⟨bv, kl, H⟩ := H
               replace H : (if bv = true then (if aj = 14 then (if ((rd_T35 c a).f2) = 0 then (shutterlaw17_KeysGuard.l0 k2 (wrap64 (a + 1)) T U j W X Y aj ax ap aq c ar au av) else (none)) else (if aB ≥ 0 then (if 0 ≤ aB then (if aB < (c.length : Int) then (if ((rd_T35 c aB).f1.f3 = true) then (shutterlaw17_KeysGuard.l0 k2 (wrap64 (a + 1)) T U j W X Y aj ax ap aq c ar au av) else (none)) else (none)) else (none)) else (shutterlaw17_KeysGuard.l0 k2 (wrap64 (a + 1)) T U j W X Y aj ax ap aq c ar au av))) else (none)) = some r := H
               have dd := Z kl
               clear kl
               by_cases jv : bv = true
               ·subst jv
                have H1 : (if aj = 14 then (if ((rd_T35 c a).f2) = 0 then (shutterlaw17_KeysGuard.l0 k2 (wrap64 (a + 1)) T U j W X Y aj ax ap aq c ar au av) else (none)) else (if aB ≥ 0 then (if 0 ≤ aB then (if aB < (c.length : Int) then (if ((rd_T35 c aB).f1.f3 = true) then (shutterlaw17_KeysGuard.l0 k2 (wrap64 (a + 1)) T U j W X Y aj ax ap aq c ar au av) else (none)) else (none)) else (none)) else (shutterlaw17_KeysGuard.l0 k2 (wrap64 (a + 1)) T U j W X Y aj ax ap aq c ar au av))) = some r := by rw [if_pos rfl] at H; exact H
                clear H
                have H := H1
                clear H1
                by_cases ef : aj = 14
                ·rw [if_pos ef] at H
                 have kB : (aj == 14) = true := beq_iff_eq.mpr ef
                 have kC : (aj != 14) = false := bne_eq_false_iff_eq.mpr ef
                 clear ef
                 by_cases jb : ((rd_T35 c a).f2) = 0
                 ·rw [if_pos jb] at H
                  have nz : (((rd_T35 c a).f2) == 0) = true := beq_iff_eq.mpr jb
                  have nA : (((rd_T35 c a).f2) != 0) = false := bne_eq_false_iff_eq.mpr jb
                  clear jb
                  have H' := Z H
                  clear H
                  have nI := aX.out
                  have nS := aY.out
                  have nJ := aZ.out
                  have nT := a4.out
                  obtain ⟨ml, mm, mn, mo, mq, mr, mW, mX, mY, mZ, m0, m1⟩ := cells6 b.out
                  have nK := a5.out
                  have nU := a0.out
                  obtain ⟨ms, mt, mu, mv, mw, mx, m2, m3, m4, m5, m6, m7⟩ := cells6 g.out
                  have bi : 0 ≤ (a : Int) := od_
                  have bj : a < (c.length : Int) := od_
                  obtain ⟨aD, bK, be, bf, bg, cx, bh, cy⟩ := at_T35 (Kd.V_reads' HO_1582002.out).2.2 a bi bj
                  (try rw [← m.out] at be)
                  (try rw [← P.out] at be)
                  (try rw [← m.out] at bf)
                  (try rw [← P.out] at bf)
                  (try rw [← m.out] at bg)
                  (try rw [← P.out] at bg)
                  (try rw [← m.out] at bh)
                  (try rw [← P.out] at bh)
                  cases bK
                  replace bi := eq_true bi
                  replace bj := eq_true bj
                  go_wp2_with (first | ((with_reducible refine gate_dst (N := 9) rfl ?_); (try (refine gate_guard (by rfl) ?_; dsimp only)); refine bx_ 9 35 #[.bool false, .bool false, .bool false, .int .i64 0, .bool false, .int .u8 0] ?_; intro i hg bV hbox hb; replace HO_1582002 := Z (ve HO_1582002.out hg hb); have l := Z (hbox); have a2 := Z (ln_ hg : w.heap.size ≤ i); have bd := Z (ln_ hg : w.heap.size ≤ i); replace HB := Z (below_step bl_ hb); have J := Z (nl b.out hg); have ab := Z (ng b.out hg); replace b := Z (kb b.out hb); have K := Z (nl d.out hg); have ac := Z (ng d.out hg); replace d := Z (kb d.out hb); have L := Z (nl g.out hg); have ad := Z (ng g.out hg); replace g := Z (kb g.out hb); clear hb hbox hg; have jE := ab.out; have jO := J.out; have jF := ac.out; have jP := K.out; have jG := ad.out; have jQ := L.out; obtain ⟨g5, g6, g7, g8, g9, ha, h9, ia, ib, ic, id, ie⟩ := cells6 l.out) | ((with_reducible refine gate_store (t := 35) (p := 9) rfl ?_); (try (rw [drewN_self bV]; generalize hq_ : World.drewN bV _ = bV; replace HO_1582002 := Z (Kd.V_at hq_ HO_1582002.out); replace b := Z (blk_at hq_ b.out); replace d := Z (blk_at hq_ d.out); replace g := Z (blk_at hq_ g.out); replace l := Z (blk_at hq_ l.out); replace HB := Z (below_at hq_ HB.out); clear hq_)); refine sx_ 35 9 ((((((bV.setCell ⟨i, 0, none⟩ (.bool false)).setCell ⟨i, 1, none⟩ (.bool ((rd_T35 c a).f1.f0))).setCell ⟨i, 2, none⟩ (.bool ((rd_T35 c a).f1.f1))).setCell ⟨i, 3, none⟩ (.int .i64 ((rd_T35 c a).f1.f2))).setCell ⟨i, 4, none⟩ (.bool ((rd_T35 c a).f1.f3))).setCell ⟨i, 5, none⟩ (.int .u8 ((rd_T35 c a).f2))) ?_; intro bz hw; replace HO_1582002 : Aside0 (Kd.V k35 35 bz w.heap.size (fun k_ => k_ ≠ ah ∧ k_ ≠ ai ∧ k_ ≠ S ∧ k_ ≠ i) (.slice (some aD) c.length aP) c) := ⟨(by rw [hw]; exact (by (with_reducible repeat apply pV); exact V_off HO_1582002.out (fun k_ hk => hk.2) off3_ (fun _ hk => ⟨hk.1.1, ⟨hk.1.2.1, ⟨hk.1.2.2, hk.2⟩⟩⟩)))⟩; replace b : Aside0 (bz.heap[ah]? = some (.cells #[.int .i64 T, .int .i64 U, .slice bb j.length bc, .int .i64 W, .bool X, .bool Y] 24 (0, 0))) := ⟨(by rw [hw]; exact (by (with_reducible repeat apply pK); exact blk_off b.out J.out off3_))⟩; replace d : Aside0 (bz.heap[ai]? = some (.cells #[.int .i64 aj, .int .u8 ax] 58 (0, 0))) := ⟨(by rw [hw]; exact (by (with_reducible repeat apply pK); exact blk_off d.out K.out off3_))⟩; replace g : Aside0 (bz.heap[S]? = some (.cells #[.int .i64 ap, .int .i64 aq, .slice (some aD) c.length aP, .int .i64 ar, .bool au, .bool av] 24 (0, 0))) := ⟨(by rw [hw]; exact (by (with_reducible repeat apply pK); exact blk_off g.out L.out off3_))⟩; replace l : Aside0 (bz.heap[i]? = some (.cells #[.bool false, .bool ((rd_T35 c a).f1.f0), .bool ((rd_T35 c a).f1.f1), .int .i64 ((rd_T35 c a).f1.f2), .bool ((rd_T35 c a).f1.f3), .int .u8 ((rd_T35 c a).f2)] 35 (0, 0))) := ⟨(by rw [hw]; exact (by first | exact put6 l.out | (simp only [← m.out, ← P.out]; exact put6 l.out)))⟩; replace HB : Aside0 (Below w.heap.size w bz) := ⟨by rw [hw]; exact bl_⟩; clear hw; obtain ⟨hc, he, hf, hh, hj, hl, ig, ih, ii, ij, ik, il⟩ := cells6 l.out; obtain ⟨hm, hp, hq, hs, ht, hu, im, io, ip, iq, ir, it⟩ := cells6 b.out; have al : 0 ≤ (a : Int) := od_; have am : a < (j.length : Int) := od_; obtain ⟨aw, aW, y, z, A, M, B, O⟩ := at_T35 ak.out a al am; (try rw [← m.out] at y); (try rw [← P.out] at y); (try rw [← m.out] at z); (try rw [← P.out] at z); (try rw [← m.out] at A); (try rw [← P.out] at A); (try rw [← m.out] at B); (try rw [← P.out] at B); cases aW; replace y := (HB.out.cell (bk_ w _ y)).trans y; replace z := (HB.out.cell (bk_ w _ z)).trans z; replace A := (HB.out.cell (bk_ w _ A)).trans A; replace M := (HB.out.cell (bk_ w _ M)).trans M; replace B := (HB.out.cell (bk_ w _ B)).trans B; replace O := (HB.out.cell (bk_ w _ O)).trans O; replace al := eq_true al; replace am := eq_true am; have ay : 0 ≤ (a : Int) := od_; have az : a < (j.length : Int) := od_; obtain ⟨aV, a1, E, F, G, Q, I, R⟩ := at_T35 ak.out a ay az; (try rw [← m.out] at E); (try rw [← P.out] at E); (try rw [← m.out] at F); (try rw [← P.out] at F); (try rw [← m.out] at G); (try rw [← P.out] at G); (try rw [← m.out] at I); (try rw [← P.out] at I); obtain rfl : aw = aV := (by injection a1); replace E := (HB.out.cell (bk_ w _ E)).trans E; replace F := (HB.out.cell (bk_ w _ F)).trans F; replace G := (HB.out.cell (bk_ w _ G)).trans G; replace Q := (HB.out.cell (bk_ w _ Q)).trans Q; replace I := (HB.out.cell (bk_ w _ I)).trans I; replace R := (HB.out.cell (bk_ w _ R)).trans R; replace ay := eq_true ay; replace az := eq_true az) | (go_at_call 21; (with_reducible refine (shutterref11_Begin.calls k2 T U _ _ j W X Y a aB _ ?side1 ?side2 dc.out).mono ?_); (case side1 => repeat (first | exact (Kd.C_below ak.out HB.out) | (with_reducible apply pC))); (case side2 => exact a3.out); rintro e kM ⟨rfl, hb⟩; replace HO_1582002 := Z (vb HO_1582002.out hb); replace b := Z (kb b.out hb); replace d := Z (kb d.out hb); replace g := Z (kb g.out hb); replace l := Z (kb l.out hb); replace HB := Z (below_step bl_ hb); (try clear hb); (try clear ba); (try clear hk); (try clear hi); obtain ⟨hv, hx, hy, hz, hA, hB, iu, iv, iw, ix, iy, iz⟩ := cells6 l.out; obtain ⟨hC, hD, hE, hF, hH, hI, iA, iB, iC, iD, iE, iF⟩ := cells6 b.out) | (go_at_call 22; (with_reducible refine (shutterref11_Open.calls k2 T U _ _ j W X Y a true _ ?side1 ?side2 dd.out).mono ?_); (case side1 => repeat (first | exact (Kd.C_below ak.out HB.out) | (with_reducible apply pC))); (case side2 => exact a3.out); rintro e kN ⟨rfl, hb⟩; replace HO_1582002 := Z (vb HO_1582002.out hb); replace b := Z (kb b.out hb); replace d := Z (kb d.out hb); replace g := Z (kb g.out hb); replace l := Z (kb l.out hb); replace HB := Z (below_step bl_ hb); (try clear hb); (try clear ba); (try clear hk); (try clear hi); obtain ⟨hJ, hK, iG, iH⟩ := cells2 d.out; obtain ⟨hL, hM, hN, hO, hP, hQ, iI, iJ, iK, iL, iM, iN⟩ := cells6 l.out))
                  any_goals (first | (exfalso; rename_i hq_; exact Bool.noConfusion ((show (((rd_T35 c a).f0) == ((rd_T35 j a).f0) && ((((rd_T35 c a).f1.f0) == ((rd_T35 j a).f1.f0) && (((rd_T35 c a).f1.f1) == ((rd_T35 j a).f1.f1) && (((rd_T35 c a).f1.f2) == ((rd_T35 j a).f1.f2) && (((rd_T35 c a).f1.f3) == ((rd_T35 j a).f1.f3))))) && (((rd_T35 c a).f2) == ((rd_T35 j a).f2)))) = true by simpa [← m.out, ← P.out] using hq_).symm.trans bA)) | skip)
                  repeat (go_quiet (fail); try go_wp2_with (first | ((with_reducible refine gate_dst (N := 9) rfl ?_); (try (refine gate_guard (by rfl) ?_; dsimp only)); refine bx_ 9 35 #[.bool false, .bool false, .bool false, .int .i64 0, .bool false, .int .u8 0] ?_; intro i hg bV hbox hb; replace HO_1582002 := Z (ve HO_1582002.out hg hb); have l := Z (hbox); have a2 := Z (ln_ hg : w.heap.size ≤ i); have bd := Z (ln_ hg : w.heap.size ≤ i); replace HB := Z (below_step bl_ hb); have J := Z (nl b.out hg); have ab := Z (ng b.out hg); replace b := Z (kb b.out hb); have K := Z (nl d.out hg); have ac := Z (ng d.out hg); replace d := Z (kb d.out hb); have L := Z (nl g.out hg); have ad := Z (ng g.out hg); replace g := Z (kb g.out hb); clear hb hbox hg; have jE := ab.out; have jO := J.out; have jF := ac.out; have jP := K.out; have jG := ad.out; have jQ := L.out; obtain ⟨g5, g6, g7, g8, g9, ha, h9, ia, ib, ic, id, ie⟩ := cells6 l.out) | ((with_reducible refine gate_store (t := 35) (p := 9) rfl ?_); (try (rw [drewN_self bV]; generalize hq_ : World.drewN bV _ = bV; replace HO_1582002 := Z (Kd.V_at hq_ HO_1582002.out); replace b := Z (blk_at hq_ b.out); replace d := Z (blk_at hq_ d.out); replace g := Z (blk_at hq_ g.out); replace l := Z (blk_at hq_ l.out); replace HB := Z (below_at hq_ HB.out); clear hq_)); refine sx_ 35 9 ((((((bV.setCell ⟨i, 0, none⟩ (.bool false)).setCell ⟨i, 1, none⟩ (.bool ((rd_T35 c a).f1.f0))).setCell ⟨i, 2, none⟩ (.bool ((rd_T35 c a).f1.f1))).setCell ⟨i, 3, none⟩ (.int .i64 ((rd_T35 c a).f1.f2))).setCell ⟨i, 4, none⟩ (.bool ((rd_T35 c a).f1.f3))).setCell ⟨i, 5, none⟩ (.int .u8 ((rd_T35 c a).f2))) ?_; intro bz hw; replace HO_1582002 : Aside0 (Kd.V k35 35 bz w.heap.size (fun k_ => k_ ≠ ah ∧ k_ ≠ ai ∧ k_ ≠ S ∧ k_ ≠ i) (.slice (some aD) c.length aP) c) := ⟨(by rw [hw]; exact (by (with_reducible repeat apply pV); exact V_off HO_1582002.out (fun k_ hk => hk.2) off3_ (fun _ hk => ⟨hk.1.1, ⟨hk.1.2.1, ⟨hk.1.2.2, hk.2⟩⟩⟩)))⟩; replace b : Aside0 (bz.heap[ah]? = some (.cells #[.int .i64 T, .int .i64 U, .slice bb j.length bc, .int .i64 W, .bool X, .bool Y] 24 (0, 0))) := ⟨(by rw [hw]; exact (by (with_reducible repeat apply pK); exact blk_off b.out J.out off3_))⟩; replace d : Aside0 (bz.heap[ai]? = some (.cells #[.int .i64 aj, .int .u8 ax] 58 (0, 0))) := ⟨(by rw [hw]; exact (by (with_reducible repeat apply pK); exact blk_off d.out K.out off3_))⟩; replace g : Aside0 (bz.heap[S]? = some (.cells #[.int .i64 ap, .int .i64 aq, .slice (some aD) c.length aP, .int .i64 ar, .bool au, .bool av] 24 (0, 0))) := ⟨(by rw [hw]; exact (by (with_reducible repeat apply pK); exact blk_off g.out L.out off3_))⟩; replace l : Aside0 (bz.heap[i]? = some (.cells #[.bool false, .bool ((rd_T35 c a).f1.f0), .bool ((rd_T35 c a).f1.f1), .int .i64 ((rd_T35 c a).f1.f2), .bool ((rd_T35 c a).f1.f3), .int .u8 ((rd_T35 c a).f2)] 35 (0, 0))) := ⟨(by rw [hw]; exact (by first | exact put6 l.out | (simp only [← m.out, ← P.out]; exact put6 l.out)))⟩; replace HB : Aside0 (Below w.heap.size w bz) := ⟨by rw [hw]; exact bl_⟩; clear hw; obtain ⟨hc, he, hf, hh, hj, hl, ig, ih, ii, ij, ik, il⟩ := cells6 l.out; obtain ⟨hm, hp, hq, hs, ht, hu, im, io, ip, iq, ir, it⟩ := cells6 b.out; have al : 0 ≤ (a : Int) := od_; have am : a < (j.length : Int) := od_; obtain ⟨aw, aW, y, z, A, M, B, O⟩ := at_T35 ak.out a al am; (try rw [← m.out] at y); (try rw [← P.out] at y); (try rw [← m.out] at z); (try rw [← P.out] at z); (try rw [← m.out] at A); (try rw [← P.out] at A); (try rw [← m.out] at B); (try rw [← P.out] at B); cases aW; replace y := (HB.out.cell (bk_ w _ y)).trans y; replace z := (HB.out.cell (bk_ w _ z)).trans z; replace A := (HB.out.cell (bk_ w _ A)).trans A; replace M := (HB.out.cell (bk_ w _ M)).trans M; replace B := (HB.out.cell (bk_ w _ B)).trans B; replace O := (HB.out.cell (bk_ w _ O)).trans O; replace al := eq_true al; replace am := eq_true am; have ay : 0 ≤ (a : Int) := od_; have az : a < (j.length : Int) := od_; obtain ⟨aV, a1, E, F, G, Q, I, R⟩ := at_T35 ak.out a ay az; (try rw [← m.out] at E); (try rw [← P.out] at E); (try rw [← m.out] at F); (try rw [← P.out] at F); (try rw [← m.out] at G); (try rw [← P.out] at G); (try rw [← m.out] at I); (try rw [← P.out] at I); obtain rfl : aw = aV := (by injection a1); replace E := (HB.out.cell (bk_ w _ E)).trans E; replace F := (HB.out.cell (bk_ w _ F)).trans F; replace G := (HB.out.cell (bk_ w _ G)).trans G; replace Q := (HB.out.cell (bk_ w _ Q)).trans Q; replace I := (HB.out.cell (bk_ w _ I)).trans I; replace R := (HB.out.cell (bk_ w _ R)).trans R; replace ay := eq_true ay; replace az := eq_true az) | (go_at_call 21; (with_reducible refine (shutterref11_Begin.calls k2 T U _ _ j W X Y a aB _ ?side1 ?side2 dc.out).mono ?_); (case side1 => repeat (first | exact (Kd.C_below ak.out HB.out) | (with_reducible apply pC))); (case side2 => exact a3.out); rintro e kM ⟨rfl, hb⟩; replace HO_1582002 := Z (vb HO_1582002.out hb); replace b := Z (kb b.out hb); replace d := Z (kb d.out hb); replace g := Z (kb g.out hb); replace l := Z (kb l.out hb); replace HB := Z (below_step bl_ hb); (try clear hb); (try clear ba); (try clear hk); (try clear hi); obtain ⟨hv, hx, hy, hz, hA, hB, iu, iv, iw, ix, iy, iz⟩ := cells6 l.out; obtain ⟨hC, hD, hE, hF, hH, hI, iA, iB, iC, iD, iE, iF⟩ := cells6 b.out) | (go_at_call 22; (with_reducible refine (shutterref11_Open.calls k2 T U _ _ j W X Y a true _ ?side1 ?side2 dd.out).mono ?_); (case side1 => repeat (first | exact (Kd.C_below ak.out HB.out) | (with_reducible apply pC))); (case side2 => exact a3.out); rintro e kN ⟨rfl, hb⟩; replace HO_1582002 := Z (vb HO_1582002.out hb); replace b := Z (kb b.out hb); replace d := Z (kb d.out hb); replace g := Z (kb g.out hb); replace l := Z (kb l.out hb); replace HB := Z (below_step bl_ hb); (try clear hb); (try clear ba); (try clear hk); (try clear hi); obtain ⟨hJ, hK, iG, iH⟩ := cells2 d.out; obtain ⟨hL, hM, hN, hO, hP, hQ, iI, iJ, iK, iL, iM, iN⟩ := cells6 l.out)))
                  any_goals (first | (exfalso; rename_i hq_; exact Bool.noConfusion ((show (((rd_T35 c a).f0) == ((rd_T35 j a).f0) && ((((rd_T35 c a).f1.f0) == ((rd_T35 j a).f1.f0) && (((rd_T35 c a).f1.f1) == ((rd_T35 j a).f1.f1) && (((rd_T35 c a).f1.f2) == ((rd_T35 j a).f1.f2) && (((rd_T35 c a).f1.f3) == ((rd_T35 j a).f1.f3))))) && (((rd_T35 c a).f2) == ((rd_T35 j a).f2)))) = true by simpa [← m.out, ← P.out] using hq_).symm.trans bA)) | skip)
                  go_roundg k2
                  case measure => have := da.out; have := db.out; omega
                  case rel => exact ⟨(wrap64 (a + 1)), (dn_), H', ⟨by have := da.out; have := db.out; omega⟩, ⟨by (with_reducible repeat apply pV); exact Kd.V_mono HO_1582002.out (fun _ hk => ⟨hk.1, ⟨hk.2.1, hk.2.2.1⟩⟩)⟩, ⟨vK b.out⟩, ⟨vK d.out⟩, ⟨vK g.out⟩, ⟨bl_⟩⟩
                 ·rw [if_neg jb] at H
                  exact absurd H (by simp)
                ·rw [if_neg ef] at H
                 have kB : (aj == 14) = false := beq_eq_false_iff_ne.mpr ef
                 have kC : (aj != 14) = true := bne_iff_ne.mpr ef
                 by_cases dm : aB ≥ 0
                 ·rw [if_pos dm] at H
                  have ko : decide (0 ≤ aB) = true := decide_eq_true dm
                  clear dm
                  by_cases iO : 0 ≤ aB
                  ·rw [if_pos iO] at H
                   have m8 : decide (0 ≤ aB) = true := decide_eq_true iO
                   clear iO
                   by_cases iP : aB < (c.length : Int)
                   ·rw [if_pos iP] at H
                    have m9 : decide (aB < (c.length : Int)) = true := decide_eq_true iP
                    clear iP
                    obtain ⟨jp, eh⟩ : ∃ b_ : Bool, b_ = ((rd_T35 c aB).f1.f3) := ⟨_, rfl⟩
                    replace H : (if (jp = true) then (shutterlaw17_KeysGuard.l0 k2 (wrap64 (a + 1)) T U j W X Y aj ax ap aq c ar au av) else (none)) = some r := by rw [← eh] at H; exact H
                    have aC := Z eh
                    clear eh
                    by_cases iQ : (jp = true)
                    ·subst iQ
                     have H1 : (shutterlaw17_KeysGuard.l0 k2 (wrap64 (a + 1)) T U j W X Y aj ax ap aq c ar au av) = some r := by rw [if_pos rfl] at H; exact H
                     clear H
                     have H := H1
                     clear H1
                     have H' := Z H
                     clear H
                     have nd := aX.out
                     have nn := aY.out
                     have ne := aZ.out
                     have no := a4.out
                     obtain ⟨kO, kP, kQ, kR, kS, kT, ls, lt, lu, lv, lw, lx⟩ := cells6 b.out
                     have nf := a5.out
                     have np := a0.out
                     obtain ⟨kU, kV, kW, kX, kY, kZ, ly, lz, lA, lB, lC, lD⟩ := cells6 g.out
                     have bi : 0 ≤ (a : Int) := od_
                     have bj : a < (c.length : Int) := od_
                     obtain ⟨aD, bK, be, bf, bg, cx, bh, cy⟩ := at_T35 (Kd.V_reads' HO_1582002.out).2.2 a bi bj
                     (try rw [← m.out] at be)
                     (try rw [← P.out] at be)
                     (try rw [← aC.out] at be)
                     (try rw [← m.out] at bf)
                     (try rw [← P.out] at bf)
                     (try rw [← aC.out] at bf)
                     (try rw [← m.out] at bg)
                     (try rw [← P.out] at bg)
                     (try rw [← aC.out] at bg)
                     (try rw [← m.out] at bh)
                     (try rw [← P.out] at bh)
                     (try rw [← aC.out] at bh)
                     cases bK
                     replace bi := eq_true bi
                     replace bj := eq_true bj
                     go_wp2_with (first | ((with_reducible refine gate_dst (N := 9) rfl ?_); (try (refine gate_guard (by rfl) ?_; dsimp only)); refine bx_ 9 35 #[.bool false, .bool false, .bool false, .int .i64 0, .bool false, .int .u8 0] ?_; intro i hg bF hbox hb; replace HO_1582002 := Z (ve HO_1582002.out hg hb); have l := Z (hbox); have a2 := Z (ln_ hg : w.heap.size ≤ i); have bd := Z (ln_ hg : w.heap.size ≤ i); replace HB := Z (below_step bl_ hb); have J := Z (nl b.out hg); have ab := Z (ng b.out hg); replace b := Z (kb b.out hb); have K := Z (nl d.out hg); have ac := Z (ng d.out hg); replace d := Z (kb d.out hb); have L := Z (nl g.out hg); have ad := Z (ng g.out hg); replace g := Z (kb g.out hb); clear hb hbox hg; have jc := ab.out; have ji := J.out; have jd := ac.out; have jj := K.out; have je := ad.out; have jk := L.out; obtain ⟨ei, ej, ek, el, em, en, fr, fs, ft, fu, fv, fw⟩ := cells6 l.out) | ((with_reducible refine gate_store (t := 35) (p := 9) rfl ?_); (try (rw [drewN_self bF]; generalize hq_ : World.drewN bF _ = bF; replace HO_1582002 := Z (Kd.V_at hq_ HO_1582002.out); replace b := Z (blk_at hq_ b.out); replace d := Z (blk_at hq_ d.out); replace g := Z (blk_at hq_ g.out); replace l := Z (blk_at hq_ l.out); replace HB := Z (below_at hq_ HB.out); clear hq_)); refine sx_ 35 9 ((((((bF.setCell ⟨i, 0, none⟩ (.bool false)).setCell ⟨i, 1, none⟩ (.bool ((rd_T35 c a).f1.f0))).setCell ⟨i, 2, none⟩ (.bool ((rd_T35 c a).f1.f1))).setCell ⟨i, 3, none⟩ (.int .i64 ((rd_T35 c a).f1.f2))).setCell ⟨i, 4, none⟩ (.bool ((rd_T35 c a).f1.f3))).setCell ⟨i, 5, none⟩ (.int .u8 ((rd_T35 c a).f2))) ?_; intro bq hw; replace HO_1582002 : Aside0 (Kd.V k35 35 bq w.heap.size (fun k_ => k_ ≠ ah ∧ k_ ≠ ai ∧ k_ ≠ S ∧ k_ ≠ i) (.slice (some aD) c.length aP) c) := ⟨(by rw [hw]; exact (by (with_reducible repeat apply pV); exact V_off HO_1582002.out (fun k_ hk => hk.2) off3_ (fun _ hk => ⟨hk.1.1, ⟨hk.1.2.1, ⟨hk.1.2.2, hk.2⟩⟩⟩)))⟩; replace b : Aside0 (bq.heap[ah]? = some (.cells #[.int .i64 T, .int .i64 U, .slice bb j.length bc, .int .i64 W, .bool X, .bool Y] 24 (0, 0))) := ⟨(by rw [hw]; exact (by (with_reducible repeat apply pK); exact blk_off b.out J.out off3_))⟩; replace d : Aside0 (bq.heap[ai]? = some (.cells #[.int .i64 aj, .int .u8 ax] 58 (0, 0))) := ⟨(by rw [hw]; exact (by (with_reducible repeat apply pK); exact blk_off d.out K.out off3_))⟩; replace g : Aside0 (bq.heap[S]? = some (.cells #[.int .i64 ap, .int .i64 aq, .slice (some aD) c.length aP, .int .i64 ar, .bool au, .bool av] 24 (0, 0))) := ⟨(by rw [hw]; exact (by (with_reducible repeat apply pK); exact blk_off g.out L.out off3_))⟩; replace l : Aside0 (bq.heap[i]? = some (.cells #[.bool false, .bool ((rd_T35 c a).f1.f0), .bool ((rd_T35 c a).f1.f1), .int .i64 ((rd_T35 c a).f1.f2), .bool ((rd_T35 c a).f1.f3), .int .u8 ((rd_T35 c a).f2)] 35 (0, 0))) := ⟨(by rw [hw]; exact (by first | exact put6 l.out | (simp only [← aC.out, ← m.out, ← P.out]; exact put6 l.out)))⟩; replace HB : Aside0 (Below w.heap.size w bq) := ⟨by rw [hw]; exact bl_⟩; clear hw; obtain ⟨eo, ep, eq, er, es, et, fx, fy, fz, fA, fB, fC⟩ := cells6 l.out; obtain ⟨eu, ev, ew, ex, ey, ez, fD, fE, fF, fG, fH, fI⟩ := cells6 b.out; have al : 0 ≤ (a : Int) := od_; have am : a < (j.length : Int) := od_; obtain ⟨aw, aW, y, z, A, M, B, O⟩ := at_T35 ak.out a al am; (try rw [← m.out] at y); (try rw [← P.out] at y); (try rw [← aC.out] at y); (try rw [← m.out] at z); (try rw [← P.out] at z); (try rw [← aC.out] at z); (try rw [← m.out] at A); (try rw [← P.out] at A); (try rw [← aC.out] at A); (try rw [← m.out] at B); (try rw [← P.out] at B); (try rw [← aC.out] at B); cases aW; replace y := (HB.out.cell (bk_ w _ y)).trans y; replace z := (HB.out.cell (bk_ w _ z)).trans z; replace A := (HB.out.cell (bk_ w _ A)).trans A; replace M := (HB.out.cell (bk_ w _ M)).trans M; replace B := (HB.out.cell (bk_ w _ B)).trans B; replace O := (HB.out.cell (bk_ w _ O)).trans O; replace al := eq_true al; replace am := eq_true am; have ay : 0 ≤ (a : Int) := od_; have az : a < (j.length : Int) := od_; obtain ⟨aV, a1, E, F, G, Q, I, R⟩ := at_T35 ak.out a ay az; (try rw [← m.out] at E); (try rw [← P.out] at E); (try rw [← aC.out] at E); (try rw [← m.out] at F); (try rw [← P.out] at F); (try rw [← aC.out] at F); (try rw [← m.out] at G); (try rw [← P.out] at G); (try rw [← aC.out] at G); (try rw [← m.out] at I); (try rw [← P.out] at I); (try rw [← aC.out] at I); obtain rfl : aw = aV := (by injection a1); replace E := (HB.out.cell (bk_ w _ E)).trans E; replace F := (HB.out.cell (bk_ w _ F)).trans F; replace G := (HB.out.cell (bk_ w _ G)).trans G; replace Q := (HB.out.cell (bk_ w _ Q)).trans Q; replace I := (HB.out.cell (bk_ w _ I)).trans I; replace R := (HB.out.cell (bk_ w _ R)).trans R; replace ay := eq_true ay; replace az := eq_true az) | (go_at_call 21; (with_reducible refine (shutterref11_Begin.calls k2 T U _ _ j W X Y a aB _ ?side1 ?side2 dc.out).mono ?_); (case side1 => repeat (first | exact (Kd.C_below ak.out HB.out) | (with_reducible apply pC))); (case side2 => exact a3.out); rintro e kp ⟨rfl, hb⟩; replace HO_1582002 := Z (vb HO_1582002.out hb); replace b := Z (kb b.out hb); replace d := Z (kb d.out hb); replace g := Z (kb g.out hb); replace l := Z (kb l.out hb); replace HB := Z (below_step bl_ hb); (try clear hb); (try clear ba); (try clear hk); (try clear hi); obtain ⟨eA, eB, eC, eD, eE, eF, fJ, fK, fL, fM, fN, fO⟩ := cells6 l.out; obtain ⟨eG, eH, eI, eJ, eK, eL, fP, fQ, fR, fS, fT, fU⟩ := cells6 b.out) | (go_at_call 22; (with_reducible refine (shutterref11_Open.calls k2 T U _ _ j W X Y a true _ ?side1 ?side2 dd.out).mono ?_); (case side1 => repeat (first | exact (Kd.C_below ak.out HB.out) | (with_reducible apply pC))); (case side2 => exact a3.out); rintro e kr ⟨rfl, hb⟩; replace HO_1582002 := Z (vb HO_1582002.out hb); replace b := Z (kb b.out hb); replace d := Z (kb d.out hb); replace g := Z (kb g.out hb); replace l := Z (kb l.out hb); replace HB := Z (below_step bl_ hb); (try clear hb); (try clear ba); (try clear hk); (try clear hi); obtain ⟨eM, eN, fV, fW⟩ := cells2 d.out; obtain ⟨eO, eP, eQ, eR, eS, eT, fX, fY, fZ, ga, gb, gc⟩ := cells6 g.out; have bD : 0 ≤ (aB : Int) := od_; have bE : aB < (c.length : Int) := od_; obtain ⟨cz, de, bk, bl, bm, gK, bn, gL⟩ := at_T35 (Kd.V_reads' HO_1582002.out).2.2 aB bD bE; (try rw [← m.out] at bk); (try rw [← P.out] at bk); (try rw [← aC.out] at bk); (try rw [← m.out] at bl); (try rw [← P.out] at bl); (try rw [← aC.out] at bl); (try rw [← m.out] at bm); (try rw [← P.out] at bm); (try rw [← aC.out] at bm); (try rw [← m.out] at bn); (try rw [← P.out] at bn); (try rw [← aC.out] at bn); obtain rfl : aD = cz := (by injection de); replace bD := eq_true bD; replace bE := eq_true bE))
                     any_goals (first | (exfalso; rename_i hq_; exact Bool.noConfusion ((show (((rd_T35 c a).f0) == ((rd_T35 j a).f0) && ((((rd_T35 c a).f1.f0) == ((rd_T35 j a).f1.f0) && (((rd_T35 c a).f1.f1) == ((rd_T35 j a).f1.f1) && (((rd_T35 c a).f1.f2) == ((rd_T35 j a).f1.f2) && (((rd_T35 c a).f1.f3) == ((rd_T35 j a).f1.f3))))) && (((rd_T35 c a).f2) == ((rd_T35 j a).f2)))) = true by simpa [← m.out, ← P.out, ← aC.out] using hq_).symm.trans bA)) | skip)
                     repeat (go_quiet (fail); try go_wp2_with (first | ((with_reducible refine gate_dst (N := 9) rfl ?_); (try (refine gate_guard (by rfl) ?_; dsimp only)); refine bx_ 9 35 #[.bool false, .bool false, .bool false, .int .i64 0, .bool false, .int .u8 0] ?_; intro i hg bF hbox hb; replace HO_1582002 := Z (ve HO_1582002.out hg hb); have l := Z (hbox); have a2 := Z (ln_ hg : w.heap.size ≤ i); have bd := Z (ln_ hg : w.heap.size ≤ i); replace HB := Z (below_step bl_ hb); have J := Z (nl b.out hg); have ab := Z (ng b.out hg); replace b := Z (kb b.out hb); have K := Z (nl d.out hg); have ac := Z (ng d.out hg); replace d := Z (kb d.out hb); have L := Z (nl g.out hg); have ad := Z (ng g.out hg); replace g := Z (kb g.out hb); clear hb hbox hg; have jc := ab.out; have ji := J.out; have jd := ac.out; have jj := K.out; have je := ad.out; have jk := L.out; obtain ⟨ei, ej, ek, el, em, en, fr, fs, ft, fu, fv, fw⟩ := cells6 l.out) | ((with_reducible refine gate_store (t := 35) (p := 9) rfl ?_); (try (rw [drewN_self bF]; generalize hq_ : World.drewN bF _ = bF; replace HO_1582002 := Z (Kd.V_at hq_ HO_1582002.out); replace b := Z (blk_at hq_ b.out); replace d := Z (blk_at hq_ d.out); replace g := Z (blk_at hq_ g.out); replace l := Z (blk_at hq_ l.out); replace HB := Z (below_at hq_ HB.out); clear hq_)); refine sx_ 35 9 ((((((bF.setCell ⟨i, 0, none⟩ (.bool false)).setCell ⟨i, 1, none⟩ (.bool ((rd_T35 c a).f1.f0))).setCell ⟨i, 2, none⟩ (.bool ((rd_T35 c a).f1.f1))).setCell ⟨i, 3, none⟩ (.int .i64 ((rd_T35 c a).f1.f2))).setCell ⟨i, 4, none⟩ (.bool ((rd_T35 c a).f1.f3))).setCell ⟨i, 5, none⟩ (.int .u8 ((rd_T35 c a).f2))) ?_; intro bq hw; replace HO_1582002 : Aside0 (Kd.V k35 35 bq w.heap.size (fun k_ => k_ ≠ ah ∧ k_ ≠ ai ∧ k_ ≠ S ∧ k_ ≠ i) (.slice (some aD) c.length aP) c) := ⟨(by rw [hw]; exact (by (with_reducible repeat apply pV); exact V_off HO_1582002.out (fun k_ hk => hk.2) off3_ (fun _ hk => ⟨hk.1.1, ⟨hk.1.2.1, ⟨hk.1.2.2, hk.2⟩⟩⟩)))⟩; replace b : Aside0 (bq.heap[ah]? = some (.cells #[.int .i64 T, .int .i64 U, .slice bb j.length bc, .int .i64 W, .bool X, .bool Y] 24 (0, 0))) := ⟨(by rw [hw]; exact (by (with_reducible repeat apply pK); exact blk_off b.out J.out off3_))⟩; replace d : Aside0 (bq.heap[ai]? = some (.cells #[.int .i64 aj, .int .u8 ax] 58 (0, 0))) := ⟨(by rw [hw]; exact (by (with_reducible repeat apply pK); exact blk_off d.out K.out off3_))⟩; replace g : Aside0 (bq.heap[S]? = some (.cells #[.int .i64 ap, .int .i64 aq, .slice (some aD) c.length aP, .int .i64 ar, .bool au, .bool av] 24 (0, 0))) := ⟨(by rw [hw]; exact (by (with_reducible repeat apply pK); exact blk_off g.out L.out off3_))⟩; replace l : Aside0 (bq.heap[i]? = some (.cells #[.bool false, .bool ((rd_T35 c a).f1.f0), .bool ((rd_T35 c a).f1.f1), .int .i64 ((rd_T35 c a).f1.f2), .bool ((rd_T35 c a).f1.f3), .int .u8 ((rd_T35 c a).f2)] 35 (0, 0))) := ⟨(by rw [hw]; exact (by first | exact put6 l.out | (simp only [← aC.out, ← m.out, ← P.out]; exact put6 l.out)))⟩; replace HB : Aside0 (Below w.heap.size w bq) := ⟨by rw [hw]; exact bl_⟩; clear hw; obtain ⟨eo, ep, eq, er, es, et, fx, fy, fz, fA, fB, fC⟩ := cells6 l.out; obtain ⟨eu, ev, ew, ex, ey, ez, fD, fE, fF, fG, fH, fI⟩ := cells6 b.out; have al : 0 ≤ (a : Int) := od_; have am : a < (j.length : Int) := od_; obtain ⟨aw, aW, y, z, A, M, B, O⟩ := at_T35 ak.out a al am; (try rw [← m.out] at y); (try rw [← P.out] at y); (try rw [← aC.out] at y); (try rw [← m.out] at z); (try rw [← P.out] at z); (try rw [← aC.out] at z); (try rw [← m.out] at A); (try rw [← P.out] at A); (try rw [← aC.out] at A); (try rw [← m.out] at B); (try rw [← P.out] at B); (try rw [← aC.out] at B); cases aW; replace y := (HB.out.cell (bk_ w _ y)).trans y; replace z := (HB.out.cell (bk_ w _ z)).trans z; replace A := (HB.out.cell (bk_ w _ A)).trans A; replace M := (HB.out.cell (bk_ w _ M)).trans M; replace B := (HB.out.cell (bk_ w _ B)).trans B; replace O := (HB.out.cell (bk_ w _ O)).trans O; replace al := eq_true al; replace am := eq_true am; have ay : 0 ≤ (a : Int) := od_; have az : a < (j.length : Int) := od_; obtain ⟨aV, a1, E, F, G, Q, I, R⟩ := at_T35 ak.out a ay az; (try rw [← m.out] at E); (try rw [← P.out] at E); (try rw [← aC.out] at E); (try rw [← m.out] at F); (try rw [← P.out] at F); (try rw [← aC.out] at F); (try rw [← m.out] at G); (try rw [← P.out] at G); (try rw [← aC.out] at G); (try rw [← m.out] at I); (try rw [← P.out] at I); (try rw [← aC.out] at I); obtain rfl : aw = aV := (by injection a1); replace E := (HB.out.cell (bk_ w _ E)).trans E; replace F := (HB.out.cell (bk_ w _ F)).trans F; replace G := (HB.out.cell (bk_ w _ G)).trans G; replace Q := (HB.out.cell (bk_ w _ Q)).trans Q; replace I := (HB.out.cell (bk_ w _ I)).trans I; replace R := (HB.out.cell (bk_ w _ R)).trans R; replace ay := eq_true ay; replace az := eq_true az) | (go_at_call 21; (with_reducible refine (shutterref11_Begin.calls k2 T U _ _ j W X Y a aB _ ?side1 ?side2 dc.out).mono ?_); (case side1 => repeat (first | exact (Kd.C_below ak.out HB.out) | (with_reducible apply pC))); (case side2 => exact a3.out); rintro e kp ⟨rfl, hb⟩; replace HO_1582002 := Z (vb HO_1582002.out hb); replace b := Z (kb b.out hb); replace d := Z (kb d.out hb); replace g := Z (kb g.out hb); replace l := Z (kb l.out hb); replace HB := Z (below_step bl_ hb); (try clear hb); (try clear ba); (try clear hk); (try clear hi); obtain ⟨eA, eB, eC, eD, eE, eF, fJ, fK, fL, fM, fN, fO⟩ := cells6 l.out; obtain ⟨eG, eH, eI, eJ, eK, eL, fP, fQ, fR, fS, fT, fU⟩ := cells6 b.out) | (go_at_call 22; (with_reducible refine (shutterref11_Open.calls k2 T U _ _ j W X Y a true _ ?side1 ?side2 dd.out).mono ?_); (case side1 => repeat (first | exact (Kd.C_below ak.out HB.out) | (with_reducible apply pC))); (case side2 => exact a3.out); rintro e kr ⟨rfl, hb⟩; replace HO_1582002 := Z (vb HO_1582002.out hb); replace b := Z (kb b.out hb); replace d := Z (kb d.out hb); replace g := Z (kb g.out hb); replace l := Z (kb l.out hb); replace HB := Z (below_step bl_ hb); (try clear hb); (try clear ba); (try clear hk); (try clear hi); obtain ⟨eM, eN, fV, fW⟩ := cells2 d.out; obtain ⟨eO, eP, eQ, eR, eS, eT, fX, fY, fZ, ga, gb, gc⟩ := cells6 g.out; have bD : 0 ≤ (aB : Int) := od_; have bE : aB < (c.length : Int) := od_; obtain ⟨cz, de, bk, bl, bm, gK, bn, gL⟩ := at_T35 (Kd.V_reads' HO_1582002.out).2.2 aB bD bE; (try rw [← m.out] at bk); (try rw [← P.out] at bk); (try rw [← aC.out] at bk); (try rw [← m.out] at bl); (try rw [← P.out] at bl); (try rw [← aC.out] at bl); (try rw [← m.out] at bm); (try rw [← P.out] at bm); (try rw [← aC.out] at bm); (try rw [← m.out] at bn); (try rw [← P.out] at bn); (try rw [← aC.out] at bn); obtain rfl : aD = cz := (by injection de); replace bD := eq_true bD; replace bE := eq_true bE)))
                     any_goals (first | (exfalso; rename_i hq_; exact Bool.noConfusion ((show (((rd_T35 c a).f0) == ((rd_T35 j a).f0) && ((((rd_T35 c a).f1.f0) == ((rd_T35 j a).f1.f0) && (((rd_T35 c a).f1.f1) == ((rd_T35 j a).f1.f1) && (((rd_T35 c a).f1.f2) == ((rd_T35 j a).f1.f2) && (((rd_T35 c a).f1.f3) == ((rd_T35 j a).f1.f3))))) && (((rd_T35 c a).f2) == ((rd_T35 j a).f2)))) = true by simpa [← m.out, ← P.out, ← aC.out] using hq_).symm.trans bA)) | skip)
                     go_roundg k2
                     case measure => have := da.out; have := db.out; omega
                     case rel => exact ⟨(wrap64 (a + 1)), (dn_), H', ⟨by have := da.out; have := db.out; omega⟩, ⟨by (with_reducible repeat apply pV); exact Kd.V_mono HO_1582002.out (fun _ hk => ⟨hk.1, ⟨hk.2.1, hk.2.2.1⟩⟩)⟩, ⟨vK b.out⟩, ⟨vK d.out⟩, ⟨vK g.out⟩, ⟨bl_⟩⟩
                    ·replace iQ := Bool.eq_false_iff.mpr iQ
                     subst iQ
                     have H1 : (none) = some r := by rw [if_neg (show ¬ (false = true) by decide)] at H; exact H
                     clear H
                     have H := H1
                     clear H1
                     exact absurd H (by simp)
                   ·rw [if_neg iP] at H
                    exact absurd H (by simp)
                  ·rw [if_neg iO] at H
                   exact absurd H (by simp)
                 ·rw [if_neg dm] at H
                  have ko : decide (0 ≤ aB) = false := decide_eq_false dm
                  clear dm
                  have H' := Z H
                  clear H
                  have nh := aX.out
                  have nq := aY.out
                  have ni := aZ.out
                  have nr := a4.out
                  obtain ⟨la, lb, lc, ld, le, lf, lE, lF, lG, lH, lI, lJ⟩ := cells6 b.out
                  have nj := a5.out
                  have ns := a0.out
                  obtain ⟨lg, lh, li, lj, lk, ll, lK, lL, lM, lN, lO, lP⟩ := cells6 g.out
                  have bi : 0 ≤ (a : Int) := od_
                  have bj : a < (c.length : Int) := od_
                  obtain ⟨aD, bK, be, bf, bg, cx, bh, cy⟩ := at_T35 (Kd.V_reads' HO_1582002.out).2.2 a bi bj
                  (try rw [← m.out] at be)
                  (try rw [← P.out] at be)
                  (try rw [← m.out] at bf)
                  (try rw [← P.out] at bf)
                  (try rw [← m.out] at bg)
                  (try rw [← P.out] at bg)
                  (try rw [← m.out] at bh)
                  (try rw [← P.out] at bh)
                  cases bK
                  replace bi := eq_true bi
                  replace bj := eq_true bj
                  go_wp2_with (first | ((with_reducible refine gate_dst (N := 9) rfl ?_); (try (refine gate_guard (by rfl) ?_; dsimp only)); refine bx_ 9 35 #[.bool false, .bool false, .bool false, .int .i64 0, .bool false, .int .u8 0] ?_; intro i hg bG hbox hb; replace HO_1582002 := Z (ve HO_1582002.out hg hb); have l := Z (hbox); have a2 := Z (ln_ hg : w.heap.size ≤ i); have bd := Z (ln_ hg : w.heap.size ≤ i); replace HB := Z (below_step bl_ hb); have J := Z (nl b.out hg); have ab := Z (ng b.out hg); replace b := Z (kb b.out hb); have K := Z (nl d.out hg); have ac := Z (ng d.out hg); replace d := Z (kb d.out hb); have L := Z (nl g.out hg); have ad := Z (ng g.out hg); replace g := Z (kb g.out hb); clear hb hbox hg; have jf := ab.out; have jl := J.out; have jg := ac.out; have jm := K.out; have jh := ad.out; have jn := L.out; obtain ⟨eU, eV, eW, eX, eY, eZ, gd, ge, gf, gg, gh, gi⟩ := cells6 l.out) | ((with_reducible refine gate_store (t := 35) (p := 9) rfl ?_); (try (rw [drewN_self bG]; generalize hq_ : World.drewN bG _ = bG; replace HO_1582002 := Z (Kd.V_at hq_ HO_1582002.out); replace b := Z (blk_at hq_ b.out); replace d := Z (blk_at hq_ d.out); replace g := Z (blk_at hq_ g.out); replace l := Z (blk_at hq_ l.out); replace HB := Z (below_at hq_ HB.out); clear hq_)); refine sx_ 35 9 ((((((bG.setCell ⟨i, 0, none⟩ (.bool false)).setCell ⟨i, 1, none⟩ (.bool ((rd_T35 c a).f1.f0))).setCell ⟨i, 2, none⟩ (.bool ((rd_T35 c a).f1.f1))).setCell ⟨i, 3, none⟩ (.int .i64 ((rd_T35 c a).f1.f2))).setCell ⟨i, 4, none⟩ (.bool ((rd_T35 c a).f1.f3))).setCell ⟨i, 5, none⟩ (.int .u8 ((rd_T35 c a).f2))) ?_; intro br hw; replace HO_1582002 : Aside0 (Kd.V k35 35 br w.heap.size (fun k_ => k_ ≠ ah ∧ k_ ≠ ai ∧ k_ ≠ S ∧ k_ ≠ i) (.slice (some aD) c.length aP) c) := ⟨(by rw [hw]; exact (by (with_reducible repeat apply pV); exact V_off HO_1582002.out (fun k_ hk => hk.2) off3_ (fun _ hk => ⟨hk.1.1, ⟨hk.1.2.1, ⟨hk.1.2.2, hk.2⟩⟩⟩)))⟩; replace b : Aside0 (br.heap[ah]? = some (.cells #[.int .i64 T, .int .i64 U, .slice bb j.length bc, .int .i64 W, .bool X, .bool Y] 24 (0, 0))) := ⟨(by rw [hw]; exact (by (with_reducible repeat apply pK); exact blk_off b.out J.out off3_))⟩; replace d : Aside0 (br.heap[ai]? = some (.cells #[.int .i64 aj, .int .u8 ax] 58 (0, 0))) := ⟨(by rw [hw]; exact (by (with_reducible repeat apply pK); exact blk_off d.out K.out off3_))⟩; replace g : Aside0 (br.heap[S]? = some (.cells #[.int .i64 ap, .int .i64 aq, .slice (some aD) c.length aP, .int .i64 ar, .bool au, .bool av] 24 (0, 0))) := ⟨(by rw [hw]; exact (by (with_reducible repeat apply pK); exact blk_off g.out L.out off3_))⟩; replace l : Aside0 (br.heap[i]? = some (.cells #[.bool false, .bool ((rd_T35 c a).f1.f0), .bool ((rd_T35 c a).f1.f1), .int .i64 ((rd_T35 c a).f1.f2), .bool ((rd_T35 c a).f1.f3), .int .u8 ((rd_T35 c a).f2)] 35 (0, 0))) := ⟨(by rw [hw]; exact (by first | exact put6 l.out | (simp only [← m.out, ← P.out]; exact put6 l.out)))⟩; replace HB : Aside0 (Below w.heap.size w br) := ⟨by rw [hw]; exact bl_⟩; clear hw; obtain ⟨e0, e1, e2, e3, e4, e5, gj, gl, gm, gn, go, gp⟩ := cells6 l.out; obtain ⟨e6, e7, e8, e9, fa, fc, gq, gr, gs, gt, gu, gv⟩ := cells6 b.out; have al : 0 ≤ (a : Int) := od_; have am : a < (j.length : Int) := od_; obtain ⟨aw, aW, y, z, A, M, B, O⟩ := at_T35 ak.out a al am; (try rw [← m.out] at y); (try rw [← P.out] at y); (try rw [← m.out] at z); (try rw [← P.out] at z); (try rw [← m.out] at A); (try rw [← P.out] at A); (try rw [← m.out] at B); (try rw [← P.out] at B); cases aW; replace y := (HB.out.cell (bk_ w _ y)).trans y; replace z := (HB.out.cell (bk_ w _ z)).trans z; replace A := (HB.out.cell (bk_ w _ A)).trans A; replace M := (HB.out.cell (bk_ w _ M)).trans M; replace B := (HB.out.cell (bk_ w _ B)).trans B; replace O := (HB.out.cell (bk_ w _ O)).trans O; replace al := eq_true al; replace am := eq_true am; have ay : 0 ≤ (a : Int) := od_; have az : a < (j.length : Int) := od_; obtain ⟨aV, a1, E, F, G, Q, I, R⟩ := at_T35 ak.out a ay az; (try rw [← m.out] at E); (try rw [← P.out] at E); (try rw [← m.out] at F); (try rw [← P.out] at F); (try rw [← m.out] at G); (try rw [← P.out] at G); (try rw [← m.out] at I); (try rw [← P.out] at I); obtain rfl : aw = aV := (by injection a1); replace E := (HB.out.cell (bk_ w _ E)).trans E; replace F := (HB.out.cell (bk_ w _ F)).trans F; replace G := (HB.out.cell (bk_ w _ G)).trans G; replace Q := (HB.out.cell (bk_ w _ Q)).trans Q; replace I := (HB.out.cell (bk_ w _ I)).trans I; replace R := (HB.out.cell (bk_ w _ R)).trans R; replace ay := eq_true ay; replace az := eq_true az) | (go_at_call 21; (with_reducible refine (shutterref11_Begin.calls k2 T U _ _ j W X Y a aB _ ?side1 ?side2 dc.out).mono ?_); (case side1 => repeat (first | exact (Kd.C_below ak.out HB.out) | (with_reducible apply pC))); (case side2 => exact a3.out); rintro e ks ⟨rfl, hb⟩; replace HO_1582002 := Z (vb HO_1582002.out hb); replace b := Z (kb b.out hb); replace d := Z (kb d.out hb); replace g := Z (kb g.out hb); replace l := Z (kb l.out hb); replace HB := Z (below_step bl_ hb); (try clear hb); (try clear ba); (try clear hk); (try clear hi); obtain ⟨fd, fe, ff, fg, fh, fi, gw, gx, gy, gz, gA, gB⟩ := cells6 l.out; obtain ⟨fj, fk, fl, fm, fn, fo, gC, gD, gE, gF, gG, gH⟩ := cells6 b.out) | (go_at_call 22; (with_reducible refine (shutterref11_Open.calls k2 T U _ _ j W X Y a true _ ?side1 ?side2 dd.out).mono ?_); (case side1 => repeat (first | exact (Kd.C_below ak.out HB.out) | (with_reducible apply pC))); (case side2 => exact a3.out); rintro e kt ⟨rfl, hb⟩; replace HO_1582002 := Z (vb HO_1582002.out hb); replace b := Z (kb b.out hb); replace d := Z (kb d.out hb); replace g := Z (kb g.out hb); replace l := Z (kb l.out hb); replace HB := Z (below_step bl_ hb); (try clear hb); (try clear ba); (try clear hk); (try clear hi); obtain ⟨fp, fq, gI, gJ⟩ := cells2 d.out))
                  any_goals (first | (exfalso; rename_i hq_; exact Bool.noConfusion ((show (((rd_T35 c a).f0) == ((rd_T35 j a).f0) && ((((rd_T35 c a).f1.f0) == ((rd_T35 j a).f1.f0) && (((rd_T35 c a).f1.f1) == ((rd_T35 j a).f1.f1) && (((rd_T35 c a).f1.f2) == ((rd_T35 j a).f1.f2) && (((rd_T35 c a).f1.f3) == ((rd_T35 j a).f1.f3))))) && (((rd_T35 c a).f2) == ((rd_T35 j a).f2)))) = true by simpa [← m.out, ← P.out] using hq_).symm.trans bA)) | skip)
                  repeat (go_quiet (fail); try go_wp2_with (first | ((with_reducible refine gate_dst (N := 9) rfl ?_); (try (refine gate_guard (by rfl) ?_; dsimp only)); refine bx_ 9 35 #[.bool false, .bool false, .bool false, .int .i64 0, .bool false, .int .u8 0] ?_; intro i hg bG hbox hb; replace HO_1582002 := Z (ve HO_1582002.out hg hb); have l := Z (hbox); have a2 := Z (ln_ hg : w.heap.size ≤ i); have bd := Z (ln_ hg : w.heap.size ≤ i); replace HB := Z (below_step bl_ hb); have J := Z (nl b.out hg); have ab := Z (ng b.out hg); replace b := Z (kb b.out hb); have K := Z (nl d.out hg); have ac := Z (ng d.out hg); replace d := Z (kb d.out hb); have L := Z (nl g.out hg); have ad := Z (ng g.out hg); replace g := Z (kb g.out hb); clear hb hbox hg; have jf := ab.out; have jl := J.out; have jg := ac.out; have jm := K.out; have jh := ad.out; have jn := L.out; obtain ⟨eU, eV, eW, eX, eY, eZ, gd, ge, gf, gg, gh, gi⟩ := cells6 l.out) | ((with_reducible refine gate_store (t := 35) (p := 9) rfl ?_); (try (rw [drewN_self bG]; generalize hq_ : World.drewN bG _ = bG; replace HO_1582002 := Z (Kd.V_at hq_ HO_1582002.out); replace b := Z (blk_at hq_ b.out); replace d := Z (blk_at hq_ d.out); replace g := Z (blk_at hq_ g.out); replace l := Z (blk_at hq_ l.out); replace HB := Z (below_at hq_ HB.out); clear hq_)); refine sx_ 35 9 ((((((bG.setCell ⟨i, 0, none⟩ (.bool false)).setCell ⟨i, 1, none⟩ (.bool ((rd_T35 c a).f1.f0))).setCell ⟨i, 2, none⟩ (.bool ((rd_T35 c a).f1.f1))).setCell ⟨i, 3, none⟩ (.int .i64 ((rd_T35 c a).f1.f2))).setCell ⟨i, 4, none⟩ (.bool ((rd_T35 c a).f1.f3))).setCell ⟨i, 5, none⟩ (.int .u8 ((rd_T35 c a).f2))) ?_; intro br hw; replace HO_1582002 : Aside0 (Kd.V k35 35 br w.heap.size (fun k_ => k_ ≠ ah ∧ k_ ≠ ai ∧ k_ ≠ S ∧ k_ ≠ i) (.slice (some aD) c.length aP) c) := ⟨(by rw [hw]; exact (by (with_reducible repeat apply pV); exact V_off HO_1582002.out (fun k_ hk => hk.2) off3_ (fun _ hk => ⟨hk.1.1, ⟨hk.1.2.1, ⟨hk.1.2.2, hk.2⟩⟩⟩)))⟩; replace b : Aside0 (br.heap[ah]? = some (.cells #[.int .i64 T, .int .i64 U, .slice bb j.length bc, .int .i64 W, .bool X, .bool Y] 24 (0, 0))) := ⟨(by rw [hw]; exact (by (with_reducible repeat apply pK); exact blk_off b.out J.out off3_))⟩; replace d : Aside0 (br.heap[ai]? = some (.cells #[.int .i64 aj, .int .u8 ax] 58 (0, 0))) := ⟨(by rw [hw]; exact (by (with_reducible repeat apply pK); exact blk_off d.out K.out off3_))⟩; replace g : Aside0 (br.heap[S]? = some (.cells #[.int .i64 ap, .int .i64 aq, .slice (some aD) c.length aP, .int .i64 ar, .bool au, .bool av] 24 (0, 0))) := ⟨(by rw [hw]; exact (by (with_reducible repeat apply pK); exact blk_off g.out L.out off3_))⟩; replace l : Aside0 (br.heap[i]? = some (.cells #[.bool false, .bool ((rd_T35 c a).f1.f0), .bool ((rd_T35 c a).f1.f1), .int .i64 ((rd_T35 c a).f1.f2), .bool ((rd_T35 c a).f1.f3), .int .u8 ((rd_T35 c a).f2)] 35 (0, 0))) := ⟨(by rw [hw]; exact (by first | exact put6 l.out | (simp only [← m.out, ← P.out]; exact put6 l.out)))⟩; replace HB : Aside0 (Below w.heap.size w br) := ⟨by rw [hw]; exact bl_⟩; clear hw; obtain ⟨e0, e1, e2, e3, e4, e5, gj, gl, gm, gn, go, gp⟩ := cells6 l.out; obtain ⟨e6, e7, e8, e9, fa, fc, gq, gr, gs, gt, gu, gv⟩ := cells6 b.out; have al : 0 ≤ (a : Int) := od_; have am : a < (j.length : Int) := od_; obtain ⟨aw, aW, y, z, A, M, B, O⟩ := at_T35 ak.out a al am; (try rw [← m.out] at y); (try rw [← P.out] at y); (try rw [← m.out] at z); (try rw [← P.out] at z); (try rw [← m.out] at A); (try rw [← P.out] at A); (try rw [← m.out] at B); (try rw [← P.out] at B); cases aW; replace y := (HB.out.cell (bk_ w _ y)).trans y; replace z := (HB.out.cell (bk_ w _ z)).trans z; replace A := (HB.out.cell (bk_ w _ A)).trans A; replace M := (HB.out.cell (bk_ w _ M)).trans M; replace B := (HB.out.cell (bk_ w _ B)).trans B; replace O := (HB.out.cell (bk_ w _ O)).trans O; replace al := eq_true al; replace am := eq_true am; have ay : 0 ≤ (a : Int) := od_; have az : a < (j.length : Int) := od_; obtain ⟨aV, a1, E, F, G, Q, I, R⟩ := at_T35 ak.out a ay az; (try rw [← m.out] at E); (try rw [← P.out] at E); (try rw [← m.out] at F); (try rw [← P.out] at F); (try rw [← m.out] at G); (try rw [← P.out] at G); (try rw [← m.out] at I); (try rw [← P.out] at I); obtain rfl : aw = aV := (by injection a1); replace E := (HB.out.cell (bk_ w _ E)).trans E; replace F := (HB.out.cell (bk_ w _ F)).trans F; replace G := (HB.out.cell (bk_ w _ G)).trans G; replace Q := (HB.out.cell (bk_ w _ Q)).trans Q; replace I := (HB.out.cell (bk_ w _ I)).trans I; replace R := (HB.out.cell (bk_ w _ R)).trans R; replace ay := eq_true ay; replace az := eq_true az) | (go_at_call 21; (with_reducible refine (shutterref11_Begin.calls k2 T U _ _ j W X Y a aB _ ?side1 ?side2 dc.out).mono ?_); (case side1 => repeat (first | exact (Kd.C_below ak.out HB.out) | (with_reducible apply pC))); (case side2 => exact a3.out); rintro e ks ⟨rfl, hb⟩; replace HO_1582002 := Z (vb HO_1582002.out hb); replace b := Z (kb b.out hb); replace d := Z (kb d.out hb); replace g := Z (kb g.out hb); replace l := Z (kb l.out hb); replace HB := Z (below_step bl_ hb); (try clear hb); (try clear ba); (try clear hk); (try clear hi); obtain ⟨fd, fe, ff, fg, fh, fi, gw, gx, gy, gz, gA, gB⟩ := cells6 l.out; obtain ⟨fj, fk, fl, fm, fn, fo, gC, gD, gE, gF, gG, gH⟩ := cells6 b.out) | (go_at_call 22; (with_reducible refine (shutterref11_Open.calls k2 T U _ _ j W X Y a true _ ?side1 ?side2 dd.out).mono ?_); (case side1 => repeat (first | exact (Kd.C_below ak.out HB.out) | (with_reducible apply pC))); (case side2 => exact a3.out); rintro e kt ⟨rfl, hb⟩; replace HO_1582002 := Z (vb HO_1582002.out hb); replace b := Z (kb b.out hb); replace d := Z (kb d.out hb); replace g := Z (kb g.out hb); replace l := Z (kb l.out hb); replace HB := Z (below_step bl_ hb); (try clear hb); (try clear ba); (try clear hk); (try clear hi); obtain ⟨fp, fq, gI, gJ⟩ := cells2 d.out)))
                  any_goals (first | (exfalso; rename_i hq_; exact Bool.noConfusion ((show (((rd_T35 c a).f0) == ((rd_T35 j a).f0) && ((((rd_T35 c a).f1.f0) == ((rd_T35 j a).f1.f0) && (((rd_T35 c a).f1.f1) == ((rd_T35 j a).f1.f1) && (((rd_T35 c a).f1.f2) == ((rd_T35 j a).f1.f2) && (((rd_T35 c a).f1.f3) == ((rd_T35 j a).f1.f3))))) && (((rd_T35 c a).f2) == ((rd_T35 j a).f2)))) = true by simpa [← m.out, ← P.out] using hq_).symm.trans bA)) | skip)
                  go_roundg k2
                  case measure => have := da.out; have := db.out; omega
                  case rel => exact ⟨(wrap64 (a + 1)), (dn_), H', ⟨by have := da.out; have := db.out; omega⟩, ⟨by (with_reducible repeat apply pV); exact Kd.V_mono HO_1582002.out (fun _ hk => ⟨hk.1, ⟨hk.2.1, hk.2.2.1⟩⟩)⟩, ⟨vK b.out⟩, ⟨vK d.out⟩, ⟨vK g.out⟩, ⟨bl_⟩⟩
               ·replace jv := Bool.eq_false_iff.mpr jv
                subst jv
                have H1 : (none) = some r := by rw [if_neg (show ¬ (false = true) by decide)] at H; exact H
                clear H
                have H := H1
                clear H1
                exact absurd H (by simp)
           ·rw [if_neg jr] at H
            exact absurd H (by simp)
          ·rw [if_neg jq] at H
           exact absurd H (by simp)
         ·rw [if_neg gM] at H
          have kx : decide (a < (j.length : Int)) = false := decide_eq_false gM
          clear gM
          obtain rfl := Option.some.inj H
          have nk := aX.out
          have nt := aY.out
          have nm := aZ.out
          have nu := a4.out
          obtain ⟨lm, ln, lo, lp, lq, lr, lQ, lR, lS, lT, lU, lV⟩ := cells6 b.out
          go_wp2
          repeat (go_quiet (fail); try go_wp2)
          go_ret
          exact ⟨er_, bl_⟩
      ·rw [if_neg ea] at H
       exact absurd H (by simp)
     ·replace ja := Bool.eq_false_iff.mpr ja
      subst ja
      have H1 : (none) = some r := by rw [if_neg (show ¬ (false = true) by decide)] at H; exact H
      clear H
      have H := H1
      clear H1
      exact absurd H (by simp)

end Go.Proofs.YtggecanpjkpkiaaDoor.P
