/- pp.py and press2.py (wip/tools) wrote this text. -/
import Derived.Test.YtjpedimndkibnaaGreatDoorPx0
import Derived.Test.YtjpedimndkibnaaGreatDoorPxS
import Derived.Test.YtjpedimndkibnaaGreatDoorPxT
import Derived.Test.YtjpedimndkibnaaGreatDoorPx18
import Derived.Test.YtjpedimndkibnaaGreatDoorPx21
namespace Go.Proofs.YtjpedimndkibnaaGreatDoor.P
open Go.RowKit Go.Proofs.YtjpedimndkibnaaGreatDoorW.PrintWords Go.Proofs.YtjpedimndkibnaaGreatDoorW.PrintLast Go.Proofs.YtjpedimndkibnaaGreatDoorW.PrintMore
attribute [local go_sem] max2_int min2_int max_two min_two max_three min_three max_four min_four
attribute [local go_sem] Instr.field asAgg
set_option linter.unusedVariables false
set_option linter.unusedSimpArgs false
set_option maxHeartbeats 8000000
set_option maxRecDepth 100000

/-! ### shutterref15_To: function 82 -/
def shutterref15_To.l0 : Nat → Int → Int → Int → Int → Int → List (S55) → Int → Bool → Bool → Option (Int)
 | 0, _, _, _, _, _, _, _, _, _ => none
 | k + 1, h, l, i, a, b, c, d, e, g => if i < h then (if h = 0 then (none) else ((shutterref11_Open.f k a b c d e g (Int.tmod (wrap64 (l + i)) h)).bind fun j => (if j = true then (some (Int.tmod (wrap64 (l + i)) h)) else (shutterref15_To.l0 k h l (wrap64 (i + 1)) a b c d e g)))) else (some 0)
def shutterref15_To.f (k : Nat) (d c : Int) (a : List (S55)) (b : Int) (e g : Bool) (a1 : Int) : Option (Int) := if a1 = 2 then (if (a.length : Int) = 0 then (none) else (some (Int.tmod (wrap64 ((wrap64 (b + (a.length : Int))) - 1)) (a.length : Int)))) else (if a1 = 3 then (if (a.length : Int) = 0 then (none) else (some (Int.tmod (wrap64 (b + 1)) (a.length : Int)))) else (if a1 = 4 then (if (a.length : Int) = 0 then (none) else (some (Int.tmod (wrap64 ((wrap64 (b + (a.length : Int))) - c)) (a.length : Int)))) else (if a1 = 5 then (if (a.length : Int) = 0 then (none) else (some (Int.tmod (wrap64 (b + c)) (a.length : Int)))) else (if a1 = 6 then ((shutterref11_Next.f k d c a b e g b).bind fun h => ((shutterref15_zero.f h).bind fun i => (some i))) else (if a1 = 7 then ((shutterref11_Prev.f k d c a b e g b).bind fun j => ((shutterref15_zero.f j).bind fun l => (some l))) else (if a1 = 8 then ((shutterref11_Next.f k d c a b e g (wrap64 ((a.length : Int) - 1))).bind fun m => ((shutterref15_zero.f m).bind fun n => (some n))) else (if c = 0 then (none) else (if d = 0 then (none) else (shutterref15_To.l0 k (a.length : Int) (wrap64 ((Int.tmod (wrap64 ((wrap64 (Int.tdiv b c)) + 1)) d) * c)) 0 d c a b e g)))))))))
theorem shutterref15_To.mono_l : ∀ k, (∀ b c d e f g i j l, LeO (shutterref15_To.l0 k b c d e f g i j l) (shutterref15_To.l0 (k + 1) b c d e f g i j l))
 | 0 => fun _ _ _ _ _ _ _ _ _ r h => by simp [shutterref15_To.l0] at h
 | k + 1 => by
  have a := shutterref15_To.mono_l k
  ·intro b c d e f g i j l
   unfold shutterref15_To.l0
   repeat' first
   | (with_reducible exact a _ _ _ _ _ _ _ _ _)
   | (with_reducible exact shutterref11_Next.mono _ _ _ _ _ _ _ _)
   | (with_reducible exact shutterref11_Open.mono _ _ _ _ _ _ _ _)
   | (with_reducible exact shutterref11_Prev.mono _ _ _ _ _ _ _ _)
   | (with_reducible exact LeO.refl _)
   | (with_reducible exact LeO.none _)
   | (with_reducible refine LeO.ite ?_ ?_)
   | (with_reducible refine LeO.bind ?_ (fun _ => ?_))
   | exact a _ _ _ _ _ _ _ _ _
   | exact shutterref11_Next.mono _ _ _ _ _ _ _ _
   | exact shutterref11_Open.mono _ _ _ _ _ _ _ _
   | exact shutterref11_Prev.mono _ _ _ _ _ _ _ _
   | exact LeO.none _
   | refine LeO.ite ?_ ?_
   | refine LeO.bind ?_ (fun _ => ?_)
theorem shutterref15_To.mono : ∀ a0 a1 b c a4 d e k, LeO (shutterref15_To.f k a0 a1 b c a4 d e) (shutterref15_To.f (k + 1) a0 a1 b c a4 d e) := by
 intro a0 a1 b c a4 d e k
 have a := shutterref15_To.mono_l k
 unfold shutterref15_To.f
 repeat' first
   | (with_reducible exact a _ _ _ _ _ _ _ _ _)
   | (with_reducible exact shutterref11_Next.mono _ _ _ _ _ _ _ _)
   | (with_reducible exact shutterref11_Open.mono _ _ _ _ _ _ _ _)
   | (with_reducible exact shutterref11_Prev.mono _ _ _ _ _ _ _ _)
   | (with_reducible exact LeO.refl _)
   | (with_reducible exact LeO.none _)
   | (with_reducible refine LeO.ite ?_ ?_)
   | (with_reducible refine LeO.bind ?_ (fun _ => ?_))
   | exact a _ _ _ _ _ _ _ _ _
   | exact shutterref11_Next.mono _ _ _ _ _ _ _ _
   | exact shutterref11_Open.mono _ _ _ _ _ _ _ _
   | exact shutterref11_Prev.mono _ _ _ _ _ _ _ _
   | exact LeO.none _
   | refine LeO.ite ?_ ?_
   | refine LeO.bind ?_ (fun _ => ?_)
def shutterref15_To.T17 : Bool × List (List Nat × List Nat) := (true, [([], []), ([], []), ([1], [1]), ([0, 2], [0, 2]), ([3], [3]), ([], []), ([5], [5]), ([4, 6], [4, 6]), ([], []), ([8], [8]), ([7, 9], [7, 9]), ([10, 0, 1, 2, 3, 4, 5, 6, 7, 8, 9, 10], [10])])
def shutterref15_To.B17 : List Nat := [0, 0, 2, 7, 15, 0, 32, 127, 0, 256, 1023, 2047]
theorem shutterref15_To.tab17 : rtab .any (opsOf Tryz.f82 17) = shutterref15_To.T17 := by kernel_rfl
theorem shutterref15_To.bits17 : waitsOk shutterref15_To.T17.2 shutterref15_To.B17 = true := by kernel_rfl
theorem shutterref15_To.calls (k : Nat) (j c : Int) (q : Option Addr) (s : Nat) (b : List (S55)) (g : Int) (o p : Bool) (a1 r : Int) (w : World) (an : Kd.C k55 w q b.length b) (am : b.length ≤ s) (h : shutterref15_To.f k j c b g o p a1 = some r) :
  Calls Tryz.prog 82 #[.agg #[.int .i64 j, .int .i64 c, .slice q b.length s, .int .i64 g, .bool o, .bool p], .int .i64 a1] w fun e w' => e = .returned (.int .i64 r) ∧ Below w.heap.size w w' := by
 have cN := Tryz.underlying24
 have D := Z an
 have B := Z am
 clear an am
 have HB := Z (Below.refl w.heap.size w)
 unfold shutterref15_To.f at h
 have H := h
 clear h
 by_cases c3 : a1 = 2
 ·rw [if_pos c3] at H
  obtain ⟨bW, bX⟩ := eT_ c3
  clear c3
  obtain ⟨c4, H⟩ := gf_ H
  obtain ⟨cx, cy⟩ := eF_ c4
  have cz : ¬ (b = []) := fun h_ => c4 (by rw [h_]; rfl)
  obtain rfl := Option.some.inj H
  go_enter Tryz.func82, Tryz.ntmps82
  go_wp2_with (first | ((with_reducible refine gD_ 2 rfl ?_); refine bx_ 2 24 #[.int .i64 j, .int .i64 c, .slice q b.length s, .int .i64 g, .bool o, .bool p] ?_; intro d hg w5 hbox hb; have a := Z hbox; have A := ln' w hg; replace HB := bs_ hb; clear hb hbox hg; have b0 := cells6 a.out))
  go_ret
  exact ⟨er_, bl_⟩
 rw [if_neg c3] at H
 obtain ⟨bW, bX⟩ := eF_ c3
 by_cases c7 : a1 = 3
 ·rw [if_pos c7] at H
  obtain ⟨bY, bZ⟩ := eT_ c7
  clear c7
  obtain ⟨c8, H⟩ := gf_ H
  obtain ⟨cA, cB⟩ := eF_ c8
  have cC : ¬ (b = []) := fun h_ => c8 (by rw [h_]; rfl)
  obtain rfl := Option.some.inj H
  go_enter Tryz.func82, Tryz.ntmps82
  go_wp2_with (first | ((with_reducible refine gD_ 2 rfl ?_); refine bx_ 2 24 #[.int .i64 j, .int .i64 c, .slice q b.length s, .int .i64 g, .bool o, .bool p] ?_; intro d hg w9 hbox hb; have a := Z hbox; have A := ln' w hg; replace HB := bs_ hb; clear hb hbox hg; have ao := cells6 a.out))
  go_ret
  exact ⟨er_, bl_⟩
 rw [if_neg c7] at H
 obtain ⟨bY, bZ⟩ := eF_ c7
 by_cases M : a1 = 4
 ·rw [if_pos M] at H
  obtain ⟨aa, ab⟩ := eT_ M
  clear M
  obtain ⟨T, H⟩ := gf_ H
  obtain ⟨cd, ce⟩ := eF_ T
  have cf : ¬ (b = []) := fun h_ => T (by rw [h_]; rfl)
  obtain rfl := Option.some.inj H
  go_enter Tryz.func82, Tryz.ntmps82
  go_wp2_with (first | ((with_reducible refine gD_ 2 rfl ?_); refine bx_ 2 24 #[.int .i64 j, .int .i64 c, .slice q b.length s, .int .i64 g, .bool o, .bool p] ?_; intro d hg cQ hbox hb; have a := Z hbox; have A := ln' w hg; replace HB := bs_ hb; clear hb hbox hg; have aw := cells6 a.out))
  go_ret
  exact ⟨er_, bl_⟩
 rw [if_neg M] at H
 obtain ⟨aa, ab⟩ := eF_ M
 by_cases O : a1 = 5
 ·rw [if_pos O] at H
  obtain ⟨ac, ad⟩ := eT_ O
  clear O
  obtain ⟨U, H⟩ := gf_ H
  obtain ⟨cg, ch⟩ := eF_ U
  have ci : ¬ (b = []) := fun h_ => U (by rw [h_]; rfl)
  obtain rfl := Option.some.inj H
  go_enter Tryz.func82, Tryz.ntmps82
  go_wp2_with (first | ((with_reducible refine gD_ 2 rfl ?_); refine bx_ 2 24 #[.int .i64 j, .int .i64 c, .slice q b.length s, .int .i64 g, .bool o, .bool p] ?_; intro d hg cR hbox hb; have a := Z hbox; have A := ln' w hg; replace HB := bs_ hb; clear hb hbox hg; have aC := cells6 a.out))
  go_ret
  exact ⟨er_, bl_⟩
 rw [if_neg O] at H
 obtain ⟨ac, ad⟩ := eF_ O
 by_cases P : a1 = 6
 ·rw [if_pos P] at H
  obtain ⟨ae, af⟩ := eT_ P
  clear P
  replace H := bn_ H
  obtain ⟨E, cD, H⟩ := H
  replace H := bn_ H
  obtain ⟨F, cE, H⟩ := H
  obtain rfl := Option.some.inj H
  go_enter Tryz.func82, Tryz.ntmps82
  go_wp2_with (first | ((with_reducible refine gD_ 2 rfl ?_); refine bx_ 2 24 #[.int .i64 j, .int .i64 c, .slice q b.length s, .int .i64 g, .bool o, .bool p] ?_; intro d hg cS hbox hb; have a := Z hbox; have A := ln' w hg; replace HB := bs_ hb; clear hb hbox hg; have aI := cells6 a.out) | ((with_reducible refine gF_ 35 rfl ?_); refine gd_ (some 50) Tryz.func35 (shutterref11_Next.calls k j c _ _ b g o p g E _ (cB_ D HB) B.out cD.out) ?_; rintro e cT ⟨rfl, hb⟩; refine ⟨_, rfl, ?_⟩; replace a := kb' a hb; replace HB := bs_ hb; (try clear hb)) | ((with_reducible refine gF_ 118 rfl ?_); refine gd_ (some 51) Tryz.func118 (shutterref15_zero.calls E F _ cE.out) ?_; rintro e w' ⟨rfl, ⟨nd, rfl⟩⟩; refine ⟨_, rfl, ?_⟩))
  go_ret
  exact ⟨er_, bl_⟩
 rw [if_neg P] at H
 obtain ⟨ae, af⟩ := eF_ P
 by_cases Q : a1 = 7
 ·rw [if_pos Q] at H
  obtain ⟨ag, ah⟩ := eT_ Q
  clear Q
  replace H := bn_ H
  obtain ⟨G, cF, H⟩ := H
  replace H := bn_ H
  obtain ⟨I, cG, H⟩ := H
  obtain rfl := Option.some.inj H
  go_enter Tryz.func82, Tryz.ntmps82
  go_wp2_with (first | ((with_reducible refine gD_ 2 rfl ?_); refine bx_ 2 24 #[.int .i64 j, .int .i64 c, .slice q b.length s, .int .i64 g, .bool o, .bool p] ?_; intro d hg cU hbox hb; have a := Z hbox; have A := ln' w hg; replace HB := bs_ hb; clear hb hbox hg; have aO := cells6 a.out) | ((with_reducible refine gF_ 119 rfl ?_); refine gd_ (some 56) Tryz.func119 (shutterref11_Prev.calls k j c _ _ b g o p g G _ (cB_ D HB) B.out cF.out) ?_; rintro e cV ⟨rfl, hb⟩; refine ⟨_, rfl, ?_⟩; replace a := kb' a hb; replace HB := bs_ hb; (try clear hb)) | ((with_reducible refine gF_ 118 rfl ?_); refine gd_ (some 57) Tryz.func118 (shutterref15_zero.calls G I _ cG.out) ?_; rintro e w' ⟨rfl, ⟨nd, rfl⟩⟩; refine ⟨_, rfl, ?_⟩))
  go_ret
  exact ⟨er_, bl_⟩
 rw [if_neg Q] at H
 obtain ⟨ag, ah⟩ := eF_ Q
 by_cases R : a1 = 8
 ·rw [if_pos R] at H
  obtain ⟨ai, aj⟩ := eT_ R
  clear R
  replace H := bn_ H
  obtain ⟨J, cH, H⟩ := H
  replace H := bn_ H
  obtain ⟨L, cI, H⟩ := H
  obtain rfl := Option.some.inj H
  go_enter Tryz.func82, Tryz.ntmps82
  go_wp2_with (first | ((with_reducible refine gD_ 2 rfl ?_); refine bx_ 2 24 #[.int .i64 j, .int .i64 c, .slice q b.length s, .int .i64 g, .bool o, .bool p] ?_; intro d hg cW hbox hb; have a := Z hbox; have A := ln' w hg; replace HB := bs_ hb; clear hb hbox hg; have aU := cells6 a.out) | ((with_reducible refine gF_ 35 rfl ?_); refine gd_ (some 63) Tryz.func35 (shutterref11_Next.calls k j c _ _ b g o p (wrap64 ((b.length : Int) - 1)) J _ (cB_ D HB) B.out cH.out) ?_; rintro e cX ⟨rfl, hb⟩; refine ⟨_, rfl, ?_⟩; replace a := kb' a hb; replace HB := bs_ hb; (try clear hb)) | ((with_reducible refine gF_ 118 rfl ?_); refine gd_ (some 64) Tryz.func118 (shutterref15_zero.calls J L _ cI.out) ?_; rintro e w' ⟨rfl, ⟨nd, rfl⟩⟩; refine ⟨_, rfl, ?_⟩))
  go_ret
  exact ⟨er_, bl_⟩
 rw [if_neg R] at H
 obtain ⟨ai, aj⟩ := eF_ R
 obtain ⟨W, H⟩ := gf_ H
 obtain ⟨cj, ck⟩ := eF_ W
 obtain ⟨X, H⟩ := gf_ H
 obtain ⟨cl, cm⟩ := eF_ X
 have H' := Z H
 clear H
 go_enter Tryz.func82, Tryz.ntmps82
 try go_wp2_with (first | ((with_reducible refine gD_ 2 rfl ?_); refine bx_ 2 24 #[.int .i64 j, .int .i64 c, .slice q b.length s, .int .i64 g, .bool o, .bool p] ?_; intro d hg cJ hbox hb; have a := Z hbox; have A := ln' w hg; replace HB := bs_ hb; clear hb hbox hg; have a0 := cells6 a.out))
 replace a := Z (blk_drew a.out)
 replace HB := Z (below_drew1 HB.out)
 refine start_ (n := 12) (S := fun w' => w'.cell? ⟨d, 0, none⟩ = some (.int .i64 j) ∧ w'.cell? ⟨d, 1, none⟩ = some (.int .i64 c) ∧ w'.cell? ⟨d, 2, none⟩ = some (.slice q b.length s) ∧ w'.cell? ⟨d, 3, none⟩ = some (.int .i64 g) ∧ w'.cell? ⟨d, 4, none⟩ = some (.bool o) ∧ w'.cell? ⟨d, 5, none⟩ = some (.bool p)) (ds := []) (bv 12 0) (by kernel_rfl) rfl rfl ⟨(blk_cell a.out 0).trans rfl, (blk_cell a.out 1).trans rfl, (blk_cell a.out 2).trans rfl, (blk_cell a.out 3).trans rfl, (blk_cell a.out 4).trans rfl, (blk_cell a.out 5).trans rfl⟩ (fun hHeld => ?_); refine with_tabW shutterref15_To.tab17 shutterref15_To.bits17 (fun HT_ HW_ => ?_)
 generalize cJ.drew = cY at a HB hHeld ⊢
 refine pT_ HT_ 0 12 1 (some 65) ?_
 refine pT_ HT_ 1 12 3 (some 66) ?_
 refine pT_ HT_ 5 12 35 (some 70) ?_
 refine pT_ HT_ 8 12 291 (some 73) ?_
 refine tT_ HT_ HW_ hHeld 2 12 295 (some 67) ?_
 refine pT_ HT_ 3 12 303 (some 68) ?_
 refine pT_ HT_ 4 12 319 (some 69) ?_
 refine tT_ HT_ HW_ hHeld 6 12 383 (some 71) ?_
 refine pT_ HT_ 7 12 511 (some 72) ?_
 refine tT_ HT_ HW_ hHeld 9 12 1023 (some 74) ?_
 refine pT_ HT_ 10 12 2047 (some 75) ?_
 refine pT_ HT_ 11 12 4095 (some 7) ?_
 refine done_ (done_of HT_.out (by kernel_rfl)) ?_
 try go_wp2
 go_loopg [8] k (fun kq v8 w' => ∃ (y : Int), v8 = .int .i64 y ∧ Aside0 (shutterref15_To.l0 kq (b.length : Int) (wrap64 ((Int.tmod (wrap64 ((wrap64 (Int.tdiv g c)) + 1)) j) * c)) y j c b g o p = some r) ∧ Aside0 (kq ≤ k) ∧ Aside0 (w'.heap[d]? = some (.cells #[.int .i64 j, .int .i64 c, (.slice q b.length s), .int .i64 g, .bool o, .bool p] 24 (0, 0))) ∧ Aside0 (Below w.heap.size w w'))
 case atStart => exact ⟨(0), (dn_), H', ⟨Nat.le_refl _⟩, ⟨vK a.out⟩, ⟨bl_⟩⟩
 case round =>
  clear H'
  try clear c3
  try clear bW
  try clear bX
  try clear c7
  try clear bY
  try clear bZ
  try clear M
  try clear aa
  try clear ab
  try clear O
  try clear ac
  try clear ad
  try clear P
  try clear ae
  try clear af
  try clear Q
  try clear ag
  try clear ah
  try clear R
  try clear ai
  try clear aj
  try clear W
  try clear cj
  try clear ck
  try clear X
  try clear cl
  try clear cm
  try clear a0
  obtain ⟨y, rfl, HA, cw, a, HB⟩ := hrel
  cases gk with
  | zero => exact absurd HA.out (by simp [shutterref15_To.l0])
  | succ k1 =>
   have H := HA.out
   clear HA
   simp only [shutterref15_To.l0] at H
   by_cases V : y < (b.length : Int)
   rotate_left
   ·rw [if_neg V] at H
    have cn := decide_eq_false V
    clear V
    obtain rfl := Option.some.inj H
    go_wp2
    go_ret
    exact ⟨er_, bl_⟩
   rw [if_pos V] at H
   have cn := decide_eq_true V
   clear V
   obtain ⟨Y, H⟩ := gf_ H
   obtain ⟨cK, cL⟩ := eF_ Y
   have cM : ¬ (b = []) := fun h_ => Y (by rw [h_]; rfl)
   replace H := bn_ H
   obtain ⟨cc, cv, H⟩ := H
   by_cases ak : cc = true
   ·subst ak
    rw [if_pos rfl] at H
    obtain rfl := Option.some.inj H
    try go_wp2
    replace a := Z (blk_drew a.out)
    replace HB := Z (below_drew1 HB.out)
    refine start_ (n := 7) (S := fun w' => w'.cell? ⟨d, 0, none⟩ = some (.int .i64 j) ∧ w'.cell? ⟨d, 1, none⟩ = some (.int .i64 c) ∧ w'.cell? ⟨d, 2, none⟩ = some (.slice q b.length s) ∧ w'.cell? ⟨d, 3, none⟩ = some (.int .i64 g) ∧ w'.cell? ⟨d, 4, none⟩ = some (.bool o) ∧ w'.cell? ⟨d, 5, none⟩ = some (.bool p)) (ds := []) (bv 7 0) (by kernel_rfl) rfl rfl ⟨(blk_cell a.out 0).trans rfl, (blk_cell a.out 1).trans rfl, (blk_cell a.out 2).trans rfl, (blk_cell a.out 3).trans rfl, (blk_cell a.out 4).trans rfl, (blk_cell a.out 5).trans rfl⟩ (fun hHeld => ?_)
    generalize wr.drew = cZ at a HB hHeld ⊢
    refine pA_ 1 7 2 (some 82) ?_
    refine pA_ 2 7 6 (some 83) ?_
    refine pA_ 3 7 14 (some 84) ?_
    refine pA_ 4 7 30 (some 85) ?_
    refine pA_ 5 7 62 (some 86) ?_
    refine tA_ hHeld 0 7 63 (some 81) ?_
    refine one_ (i := 6) (N := some 87) (bv 7 127) rfl rfl (by kernel_rfl) (by decide) (fun K hK => ?_)
    refine goes_ Tryz.func34 (by kernel_rfl) rfl #[.agg #[.int .i64 j, .int .i64 c, .slice q b.length s, .int .i64 g, .bool o, .bool p], .int .i64 (Int.tmod (wrap64 ((wrap64 ((Int.tmod (wrap64 ((wrap64 (Int.tdiv g c)) + 1)) j) * c)) + y)) (b.length : Int))] (by rfl) rfl rfl ag_ ?_
    with_reducible refine (shutterref11_Open.calls k1 j c _ _ b g o p (Int.tmod (wrap64 ((wrap64 ((Int.tmod (wrap64 ((wrap64 (Int.tdiv g c)) + 1)) j) * c)) + y)) (b.length : Int)) true _ ?side1 ?side2 cv.out).mono ?_
    (case side1 => repeat (first | exact (Kd.C_below D.out HB.out) | (with_reducible apply pC)))
    (case side2 => exact B.out)
    rintro e c0 ⟨rfl, hb⟩
    refine ⟨_, rfl, ?_⟩
    replace a := kb' a hb
    replace HB := bs_ hb
    (try clear hb)
    (try clear al)
    (try clear hk)
    (try clear hi)
    refine hK.out _ _ ⟨(blk_cell a.out 0).trans rfl, (blk_cell a.out 1).trans rfl, (blk_cell a.out 2).trans rfl, (blk_cell a.out 3).trans rfl, (blk_cell a.out 4).trans rfl, (blk_cell a.out 5).trans rfl⟩ (fun hHeld => ?_)
    clear hK K
    refine nA_ (some 87) ?_
    refine done_ (by kernel_rfl) ?_
    try go_wp2
    go_ret
    exact ⟨er_, bl_⟩
   replace ak := Bool.eq_false_iff.mpr ak
   subst ak
   rw [iF_] at H
   have H' := Z H
   clear H
   try go_wp2
   replace a := Z (blk_drew a.out)
   replace HB := Z (below_drew1 HB.out)
   refine start_ (n := 7) (S := fun w' => w'.cell? ⟨d, 0, none⟩ = some (.int .i64 j) ∧ w'.cell? ⟨d, 1, none⟩ = some (.int .i64 c) ∧ w'.cell? ⟨d, 2, none⟩ = some (.slice q b.length s) ∧ w'.cell? ⟨d, 3, none⟩ = some (.int .i64 g) ∧ w'.cell? ⟨d, 4, none⟩ = some (.bool o) ∧ w'.cell? ⟨d, 5, none⟩ = some (.bool p)) (ds := []) (bv 7 0) (by kernel_rfl) rfl rfl ⟨(blk_cell a.out 0).trans rfl, (blk_cell a.out 1).trans rfl, (blk_cell a.out 2).trans rfl, (blk_cell a.out 3).trans rfl, (blk_cell a.out 4).trans rfl, (blk_cell a.out 5).trans rfl⟩ (fun hHeld => ?_)
   generalize wr.drew = c5 at a HB hHeld ⊢
   refine pA_ 1 7 2 (some 82) ?_
   refine pA_ 2 7 6 (some 83) ?_
   refine pA_ 3 7 14 (some 84) ?_
   refine pA_ 4 7 30 (some 85) ?_
   refine pA_ 5 7 62 (some 86) ?_
   refine tA_ hHeld 0 7 63 (some 81) ?_
   refine one_ (i := 6) (N := some 87) (bv 7 127) rfl rfl (by kernel_rfl) (by decide) (fun K hK => ?_)
   refine goes_ Tryz.func34 (by kernel_rfl) rfl #[.agg #[.int .i64 j, .int .i64 c, .slice q b.length s, .int .i64 g, .bool o, .bool p], .int .i64 (Int.tmod (wrap64 ((wrap64 ((Int.tmod (wrap64 ((wrap64 (Int.tdiv g c)) + 1)) j) * c)) + y)) (b.length : Int))] (by rfl) rfl rfl ag_ ?_
   with_reducible refine (shutterref11_Open.calls k1 j c _ _ b g o p (Int.tmod (wrap64 ((wrap64 ((Int.tmod (wrap64 ((wrap64 (Int.tdiv g c)) + 1)) j) * c)) + y)) (b.length : Int)) false _ ?side1 ?side2 cv.out).mono ?_
   (case side1 => repeat (first | exact (Kd.C_below D.out HB.out) | (with_reducible apply pC)))
   (case side2 => exact B.out)
   rintro e c6 ⟨rfl, hb⟩
   refine ⟨_, rfl, ?_⟩
   replace a := kb' a hb
   replace HB := bs_ hb
   (try clear hb)
   (try clear al)
   (try clear hk)
   (try clear hi)
   refine hK.out _ _ ⟨(blk_cell a.out 0).trans rfl, (blk_cell a.out 1).trans rfl, (blk_cell a.out 2).trans rfl, (blk_cell a.out 3).trans rfl, (blk_cell a.out 4).trans rfl, (blk_cell a.out 5).trans rfl⟩ (fun hHeld => ?_)
   clear hK K
   refine nA_ (some 87) ?_
   refine done_ (by kernel_rfl) ?_
   try go_wp2
   go_roundg k1
   case measure => have := cw.out; omega
   case rel => exact ⟨(wrap64 (y + 1)), (dn_), H', ⟨by have := cw.out; omega⟩, ⟨vK a.out⟩, ⟨bl_⟩⟩

end Go.Proofs.YtjpedimndkibnaaGreatDoor.P
