/- pp.py and press2.py (wip/tools) wrote this text. -/
import Derived.Test.YtjpedimndkibnaaGreatDoorPx0
import Derived.Test.YtjpedimndkibnaaGreatDoorPxS
import Derived.Test.YtjpedimndkibnaaGreatDoorPxT
import Derived.Test.YtjpedimndkibnaaGreatDoorPx3
import Derived.Test.YtjpedimndkibnaaGreatDoorPx7
namespace Go.Proofs.YtjpedimndkibnaaGreatDoor.P
open Go.RowKit Go.Proofs.YtjpedimndkibnaaGreatDoorW.PrintWords Go.Proofs.YtjpedimndkibnaaGreatDoorW.PrintLast Go.Proofs.YtjpedimndkibnaaGreatDoorW.PrintMore
attribute [local go_sem] max2_int min2_int max_two min_two max_three min_three max_four min_four
attribute [local go_sem] Instr.field asAgg
set_option linter.unusedVariables false
set_option linter.unusedSimpArgs false
set_option maxHeartbeats 8000000
set_option maxRecDepth 100000

/-! ### attr_Char: function 94 -/
def attr_Char.f (a0 : Int) : Option (Bool) := if a0 = 0 then (some true) else (if a0 = 28 then (some true) else (if a0 = 30 then (some true) else (if a0 ≥ 64 then (some (a0 != 255)) else (some false))))
theorem attr_Char.calls (a0 : Int) (r : Bool) (w : World) (h : attr_Char.f a0 = some r) :
  Calls Tryz.prog 94 #[.int .u8 a0] w fun e w' => e = .returned (.bool r) ∧ Drawn0 w w' := by
 unfold attr_Char.f at h
 have H := h
 clear h
 by_cases c2 : a0 = 0
 ·rw [if_pos c2] at H
  obtain ⟨a, b⟩ := eT_ c2
  clear c2
  obtain rfl := Option.some.inj H
  go_enter Tryz.func94, Tryz.ntmps94
  go_wp2
  go_ret
  exact ⟨dn_, dr_⟩
 rw [if_neg c2] at H
 obtain ⟨a, b⟩ := eF_ c2
 by_cases c3 : a0 = 28
 ·rw [if_pos c3] at H
  obtain ⟨c, d⟩ := eT_ c3
  clear c3
  obtain rfl := Option.some.inj H
  go_enter Tryz.func94, Tryz.ntmps94
  go_wp2
  go_ret
  exact ⟨dn_, dr_⟩
 rw [if_neg c3] at H
 obtain ⟨c, d⟩ := eF_ c3
 by_cases c4 : a0 = 30
 ·rw [if_pos c4] at H
  obtain ⟨g, i⟩ := eT_ c4
  clear c4
  obtain rfl := Option.some.inj H
  go_enter Tryz.func94, Tryz.ntmps94
  go_wp2
  go_ret
  exact ⟨dn_, dr_⟩
 rw [if_neg c4] at H
 obtain ⟨g, i⟩ := eF_ c4
 by_cases c5 : a0 ≥ 64
 ·rw [if_pos c5] at H
  have j : decide (64 ≤ a0) = true := decide_eq_true c5
  clear c5
  obtain rfl := Option.some.inj H
  go_enter Tryz.func94, Tryz.ntmps94
  go_wp2
  go_ret
  exact ⟨dn_, dr_⟩
 rw [if_neg c5] at H
 have j : decide (64 ≤ a0) = false := decide_eq_false c5
 clear c5
 obtain rfl := Option.some.inj H
 go_enter Tryz.func94, Tryz.ntmps94
 go_wp2
 go_ret
 exact ⟨dn_, dr_⟩

/-! ### edit_Digit: function 134 -/
def edit_Digit.f (a0 : Int) : Option (Bool) := if a0 ≥ 240 then (if a0 ≤ 249 then (some true) else (if a0 = 96 then (some true) else (some (a0 == 75)))) else (if a0 = 96 then (some true) else (some (a0 == 75)))
theorem edit_Digit.calls (a0 : Int) (r : Bool) (w : World) (h : edit_Digit.f a0 = some r) :
  Calls Tryz.prog 134 #[.int .u8 a0] w fun e w' => e = .returned (.bool r) ∧ Drawn0 w w' := by
 unfold edit_Digit.f at h
 have H := h
 clear h
 by_cases c2 : a0 ≥ 240
 ·rw [if_pos c2] at H
  have a : decide (240 ≤ a0) = true := decide_eq_true c2
  clear c2
  by_cases c3 : a0 ≤ 249
  ·rw [if_pos c3] at H
   have b := decide_eq_true c3
   clear c3
   obtain rfl := Option.some.inj H
   go_enter Tryz.func134, Tryz.ntmps134
   go_wp2
   go_ret
   exact ⟨dn_, dr_⟩
  rw [if_neg c3] at H
  have b := decide_eq_false c3
  clear c3
  by_cases c4 : a0 = 96
  ·rw [if_pos c4] at H
   obtain ⟨c, d⟩ := eT_ c4
   clear c4
   obtain rfl := Option.some.inj H
   go_enter Tryz.func134, Tryz.ntmps134
   go_wp2
   go_ret
   exact ⟨dn_, dr_⟩
  rw [if_neg c4] at H
  obtain ⟨c, d⟩ := eF_ c4
  obtain rfl := Option.some.inj H
  go_enter Tryz.func134, Tryz.ntmps134
  go_wp2
  go_ret
  exact ⟨dn_, dr_⟩
 rw [if_neg c2] at H
 have a : decide (240 ≤ a0) = false := decide_eq_false c2
 clear c2
 by_cases c5 : a0 = 96
 ·rw [if_pos c5] at H
  obtain ⟨g, i⟩ := eT_ c5
  clear c5
  obtain rfl := Option.some.inj H
  go_enter Tryz.func134, Tryz.ntmps134
  go_wp2
  go_ret
  exact ⟨dn_, dr_⟩
 rw [if_neg c5] at H
 obtain ⟨g, i⟩ := eF_ c5
 obtain rfl := Option.some.inj H
 go_enter Tryz.func134, Tryz.ntmps134
 go_wp2
 go_ret
 exact ⟨dn_, dr_⟩

/-! ### edit_fits: function 114 -/
def edit_fits.j0 : Nat → Int → Bool → Int → Int → List (S55) → Int → Bool → Bool → Option (Option Er × (List (S206)))
 | 0, _, _, _, _, _, _, _, _ => none
 | k + 1, j, x12, b, c, d, a, e, g => if x12 = true then (some (none, ([] : List (S206)))) else ((field_Of.f b c d a e g a).bind fun h => (if h.2.1 = true then ((edit_Digit.f j).bind fun i => (if i = true then (some (none, ([] : List (S206)))) else (some (some (Er.num 9), ([] : List (S206)))))) else (some (none, ([] : List (S206))))))
def edit_fits.f (k : Nat) (b c : Int) (g : List (S55)) (a : Int) (d e : Bool) (a1 : Int) : Option (Option Er × (List (S206))) := (field_Open.f b c g a d e a).bind fun h => (if h = true then (if a1 = 28 then (edit_fits.j0 k a1 true b c g a d e) else (edit_fits.j0 k a1 (a1 == 30) b c g a d e)) else (some (some (Er.num 8), ([] : List (S206)))))
theorem edit_fits.mono_l : ∀ k, (∀ b c d e f g i j, LeO (edit_fits.j0 k b c d e f g i j) (edit_fits.j0 (k + 1) b c d e f g i j))
 | 0 => fun _ _ _ _ _ _ _ _ r h => by simp [edit_fits.j0] at h
 | k + 1 => by
  have a := edit_fits.mono_l k
  ·intro b c d e f g i j
   unfold edit_fits.j0
   repeat' first
   | (with_reducible exact a _ _ _ _ _ _ _ _)
   | (with_reducible exact LeO.refl _)
   | (with_reducible exact LeO.none _)
   | (with_reducible refine LeO.ite ?_ ?_)
   | (with_reducible refine LeO.bind ?_ (fun _ => ?_))
   | exact a _ _ _ _ _ _ _ _
   | exact LeO.none _
   | refine LeO.ite ?_ ?_
   | refine LeO.bind ?_ (fun _ => ?_)
theorem edit_fits.mono : ∀ a0 a1 b c a4 d e k, LeO (edit_fits.f k a0 a1 b c a4 d e) (edit_fits.f (k + 1) a0 a1 b c a4 d e) := by
 intro a0 a1 b c a4 d e k
 have a := edit_fits.mono_l k
 unfold edit_fits.f
 repeat' first
   | (with_reducible exact a _ _ _ _ _ _ _ _)
   | (with_reducible exact LeO.refl _)
   | (with_reducible exact LeO.none _)
   | (with_reducible refine LeO.ite ?_ ?_)
   | (with_reducible refine LeO.bind ?_ (fun _ => ?_))
   | exact a _ _ _ _ _ _ _ _
   | exact LeO.none _
   | refine LeO.ite ?_ ?_
   | refine LeO.bind ?_ (fun _ => ?_)
theorem edit_fits.calls (k : Nat) (d g : Int) (n : Option Addr) (o : Nat) (c : List (S55)) (a : Int) (i j : Bool) (a1 : Int) (r : Option Er) (s : List (S206)) (w : World) (L : Kd.C k55 w n c.length c) (K : c.length ≤ o) (h : edit_fits.f k d g c a i j a1 = some (r, s)) :
  Calls Tryz.prog 114 #[.agg #[.int .i64 d, .int .i64 g, .slice n c.length o, .int .i64 a, .bool i, .bool j], .int .u8 a1] w fun e w' => ∃ am : Value, e = .returned (errW am r) ∧ Kd.V k206 206 w' w.heap.size (fun k_ => (w.heap.size ≤ k_)) am s ∧ Below w.heap.size w w' := by
 have be := Tryz.underlying24
 have bg := Tryz.underlying53
 have bf := Tryz.underlying34
 have bh := Tryz.underlying69
 have v := Z L
 have u := Z K
 clear L K
 have HB := Z (Below.refl w.heap.size w)
 unfold edit_fits.f at h
 have H := h
 clear h
 replace H := bn_ H
 obtain ⟨z, A3, H⟩ := H
 by_cases c4 : z = true
 ·subst c4
  rw [if_pos rfl] at H
  have Q := Z H
  clear H
  go_enter Tryz.func114, Tryz.ntmps114
  go_upto_region 3 with (first | ((with_reducible refine gD_ 2 rfl ?_); refine bx_ 2 24 #[.int .i64 d, .int .i64 g, .slice n c.length o, .int .i64 a, .bool i, .bool j] ?_; intro q hg w6 hbox hb; have b := Z hbox; have ai := ln' w hg; replace HB := bs_ hb; clear hb hbox hg; have S := cells6 b.out) | ((with_reducible refine gF_ 53 rfl ?_); refine gd_ (some 9) Tryz.func53 (field_Open.calls d g _ _ c a i j a true _ (cB_ v HB) u.out A3.out) ?_; rintro e w8 ⟨rfl, hb⟩; refine ⟨_, rfl, ?_⟩; replace b := kb' b hb; replace HB := bs_ hb; (try clear hb)))
  (try simp only [Act.put, sA, sB, sC])
  go_cut [12] (fun bd wc => ∃ (kq : Nat) (y : Bool), bd = .bool y ∧ Aside0 (edit_fits.j0 kq a1 y d g c a i j = some (r, s)) ∧ Aside0 (kq ≤ k) ∧ Aside0 (wc.heap[q]? = some (.cells #[.int .i64 d, .int .i64 g, (.slice n c.length o), .int .i64 a, .bool i, .bool j] 24 (0, 0))) ∧ Aside0 (Below w.heap.size w wc))
  case first =>
   have H := Q.out
   clear Q
   by_cases c9 : a1 = 28
   ·rw [if_pos c9] at H
    obtain ⟨x, R⟩ := eT_ c9
    clear c9
    (first | rw [x] | (simp only [i64_w, i32_w]; rw [x]) | skip)
    have H' := Z H
    clear H
    go_wp2
    go_meet
    case rel => exact ⟨_, (true), (dn_), H', ⟨by first | omega | exact Nat.le_refl _⟩, ⟨vK b.out⟩, ⟨bl_⟩⟩
   ·rw [if_neg c9] at H
    obtain ⟨x, R⟩ := eF_ c9
    (first | rw [x] | (simp only [i64_w, i32_w]; rw [x]) | skip)
    have H' := Z H
    clear H
    go_wp2
    go_meet
    case rel => exact ⟨_, ((a1 == 30)), (dn_), H', ⟨by first | omega | exact Nat.le_refl _⟩, ⟨vK b.out⟩, ⟨bl_⟩⟩
  case rest =>
   clear Q
   try clear c4
   try clear S
   obtain ⟨kq, y, rfl, HA, bi, b, HB⟩ := hcut
   cases kq with
   | zero => exact absurd HA.out (by simp [edit_fits.j0])
   | succ bj =>
    have H := HA.out
    clear HA
    simp only [edit_fits.j0] at H
    by_cases c10 : y = true
    ·subst c10
     rw [if_pos rfl] at H
     obtain ⟨rfl, rfl⟩ := ij2_ H
     go_wp2
     go_ret
     exact ⟨_, er_, Kd.R_V (by first | exact Kd.R_nil _ _ _ 0 _ | exact Kd.N_nil _ _ _ _ _ | exact Kd.V_nil _ _ _ _ _ | exact Kd.Q_nil _ _ _ _ _ | exact Kd.S_nil _ _ _ _ _), bl_⟩
    ·replace c10 := Bool.eq_false_iff.mpr c10
     subst c10
     rw [iF_] at H
     replace H := bn_ H
     obtain ⟨⟨D, ag, E, F⟩, M, H⟩ := H
     try dsimp only at H
     by_cases G : ag = true
     ·subst G
      rw [if_pos rfl] at H
      replace H := bn_ H
      obtain ⟨p, ak, H⟩ := H
      by_cases I : p = true
      ·subst I
       rw [if_pos rfl] at H
       obtain ⟨rfl, rfl⟩ := ij2_ H
       have an := cells6 b.out
       go_wp2_with (first | ((with_reducible refine gF_ 100 rfl ?_); refine gd_ (some 23) Tryz.func100 (field_Of.calls d g _ _ c a i j a D true E F _ (cB_ v HB) u.out M.out) ?_; rintro e bk ⟨rfl, hb⟩; refine ⟨_, rfl, ?_⟩; replace b := kb' b hb; replace HB := bs_ hb; (try clear hb)) | (go_at_call 134; (with_reducible refine (edit_Digit.calls a1 true _ ak.out).mono ?_); rintro e w' ⟨rfl, ⟨nd, rfl⟩⟩))
       go_ret
       exact ⟨_, er_, Kd.R_V (by first | exact Kd.R_nil _ _ _ 0 _ | exact Kd.N_nil _ _ _ _ _ | exact Kd.V_nil _ _ _ _ _ | exact Kd.Q_nil _ _ _ _ _ | exact Kd.S_nil _ _ _ _ _), bl_⟩
      ·replace I := Bool.eq_false_iff.mpr I
       subst I
       rw [iF_] at H
       obtain ⟨rfl, rfl⟩ := ij2_ H
       have av := cells6 b.out
       go_wp2_with (first | ((with_reducible refine gF_ 100 rfl ?_); refine gd_ (some 23) Tryz.func100 (field_Of.calls d g _ _ c a i j a D true E F _ (cB_ v HB) u.out M.out) ?_; rintro e bl ⟨rfl, hb⟩; refine ⟨_, rfl, ?_⟩; replace b := kb' b hb; replace HB := bs_ hb; (try clear hb)) | (go_at_call 134; (with_reducible refine (edit_Digit.calls a1 false _ ak.out).mono ?_); rintro e w' ⟨rfl, ⟨nd, rfl⟩⟩))
       go_ret
       exact ⟨_, er_, Kd.R_V (by first | exact Kd.R_nil _ _ _ 0 _ | exact Kd.N_nil _ _ _ _ _ | exact Kd.V_nil _ _ _ _ _ | exact Kd.Q_nil _ _ _ _ _ | exact Kd.S_nil _ _ _ _ _), bl_⟩
     ·replace G := Bool.eq_false_iff.mpr G
      subst G
      rw [iF_] at H
      obtain ⟨rfl, rfl⟩ := ij2_ H
      have aB := cells6 b.out
      go_wp2_with (first | ((with_reducible refine gF_ 100 rfl ?_); refine gd_ (some 23) Tryz.func100 (field_Of.calls d g _ _ c a i j a D false E F _ (cB_ v HB) u.out M.out) ?_; rintro e bm ⟨rfl, hb⟩; refine ⟨_, rfl, ?_⟩; replace b := kb' b hb; replace HB := bs_ hb; (try clear hb)))
      go_ret
      exact ⟨_, er_, Kd.R_V (by first | exact Kd.R_nil _ _ _ 0 _ | exact Kd.N_nil _ _ _ _ _ | exact Kd.V_nil _ _ _ _ _ | exact Kd.Q_nil _ _ _ _ _ | exact Kd.S_nil _ _ _ _ _), bl_⟩
 ·replace c4 := Bool.eq_false_iff.mpr c4
  subst c4
  rw [iF_] at H
  obtain ⟨rfl, rfl⟩ := ij2_ H
  go_enter Tryz.func114, Tryz.ntmps114
  go_wp2_with (first | ((with_reducible refine gD_ 2 rfl ?_); refine bx_ 2 24 #[.int .i64 d, .int .i64 g, .slice n c.length o, .int .i64 a, .bool i, .bool j] ?_; intro q hg bn hbox hb; have b := Z hbox; have ai := ln' w hg; replace HB := bs_ hb; clear hb hbox hg; have aH := cells6 b.out) | ((with_reducible refine gF_ 53 rfl ?_); refine gd_ (some 9) Tryz.func53 (field_Open.calls d g _ _ c a i j a false _ (cB_ v HB) u.out A3.out) ?_; rintro e bo ⟨rfl, hb⟩; refine ⟨_, rfl, ?_⟩; replace b := kb' b hb; replace HB := bs_ hb; (try clear hb)))
  go_ret
  exact ⟨_, er_, Kd.R_V (by first | exact Kd.R_nil _ _ _ 0 _ | exact Kd.N_nil _ _ _ _ _ | exact Kd.V_nil _ _ _ _ _ | exact Kd.Q_nil _ _ _ _ _ | exact Kd.S_nil _ _ _ _ _), bl_⟩

-- NOT PRINTED: function 135 (slices_IndexFunc_int_int)

/-! ### edit_pushed: function 115 -/
def edit_pushed.l0 : Nat → List Int → Int → Int → Int → List (S55) → Int → Bool → Bool → Option (Bool × (List (S55)))
 | 0, _, _, _, _, _, _, _, _ => none
 | k + 1, c, b, d, e, a, f, g, h => if b > 0 then (if 0 ≤ b then (if b < (c.length : Int) then (if 0 ≤ (wrap64 (b - 1)) then (if (wrap64 (b - 1)) < (c.length : Int) then (if 0 ≤ (rd c (wrap64 (b - 1))) then (if (rd c (wrap64 (b - 1))) < (a.length : Int) then (if 0 ≤ (rd c b) then (if (rd c b) < (a.length : Int) then (edit_pushed.l0 k c (wrap64 (b - 1)) d e (a.set ((rd c b) : Int).toNat (⟨(rd_T55 a (rd c (wrap64 (b - 1)))).f0, (⟨(rd_T55 a (rd c (wrap64 (b - 1)))).f1.f0, (rd_T55 a (rd c (wrap64 (b - 1)))).f1.f1, (rd_T55 a (rd c (wrap64 (b - 1)))).f1.f2, (rd_T55 a (rd c (wrap64 (b - 1)))).f1.f3⟩ : S53), (rd_T55 a (rd c (wrap64 (b - 1)))).f2⟩ : S55)) f g h) else (none)) else (none)) else (none)) else (none)) else (none)) else (none)) else (none)) else (none)) else (some (true, a))
def edit_pushed.f (k : Nat) (b c : Int) (a : List (S55)) (d : Int) (e g : Bool) (l1 : List Int) : Option (Bool × (List (S55))) := (pushed_index.f l1 b c a d e g).bind fun h => (if h < 0 then (some (false, a)) else (edit_pushed.l0 k l1 h b c a d e g))
theorem edit_pushed.mono_l : ∀ k, (∀ b c d e f g i j, LeO (edit_pushed.l0 k b c d e f g i j) (edit_pushed.l0 (k + 1) b c d e f g i j))
 | 0 => fun _ _ _ _ _ _ _ _ r h => by simp [edit_pushed.l0] at h
 | k + 1 => by
  have a := edit_pushed.mono_l k
  ·intro b c d e f g i j
   unfold edit_pushed.l0
   repeat' first
   | (with_reducible exact a _ _ _ _ _ _ _ _)
   | (with_reducible exact LeO.refl _)
   | (with_reducible exact LeO.none _)
   | (with_reducible refine LeO.ite ?_ ?_)
   | (with_reducible refine LeO.bind ?_ (fun _ => ?_))
   | exact a _ _ _ _ _ _ _ _
   | exact LeO.none _
   | refine LeO.ite ?_ ?_
   | refine LeO.bind ?_ (fun _ => ?_)
theorem edit_pushed.mono : ∀ a0 a1 b c a4 d e k, LeO (edit_pushed.f k a0 a1 b c a4 d e) (edit_pushed.f (k + 1) a0 a1 b c a4 d e) := by
 intro a0 a1 b c a4 d e k
 have a := edit_pushed.mono_l k
 unfold edit_pushed.f
 repeat' first
   | (with_reducible exact a _ _ _ _ _ _ _ _)
   | (with_reducible exact LeO.refl _)
   | (with_reducible exact LeO.none _)
   | (with_reducible refine LeO.ite ?_ ?_)
   | (with_reducible refine LeO.bind ?_ (fun _ => ?_))
   | exact a _ _ _ _ _ _ _ _
   | exact LeO.none _
   | refine LeO.ite ?_ ?_
   | refine LeO.bind ?_ (fun _ => ?_)
def edit_pushed.T7 : Bool × List (List Nat × List Nat) := (true, [([], []), ([0], [0]), ([], []), ([], []), ([2, 3], [2, 3]), ([4], [4]), ([], []), ([6], [6]), ([], []), ([], []), ([9], [9]), ([8, 10], [8, 10]), ([11], [11]), ([7, 12], [7, 12]), ([13], [13]), ([1, 5, 0, 1, 2, 3, 4, 5, 6, 7, 8, 9, 10, 11, 12, 13, 14], [1, 5]), ([15, 14, 0, 1, 2, 3, 4, 5, 6, 7, 8, 9, 10, 11, 12, 13, 14], [14, 15])])
def edit_pushed.B7 : List Nat := [0, 1, 0, 0, 12, 28, 0, 64, 0, 0, 512, 1792, 3840, 8128, 16320, 32767, 65535]
theorem edit_pushed.tab7 : rtab .any (opsOf Tryz.f115 7) = edit_pushed.T7 := by kernel_rfl
theorem edit_pushed.bits7 : waitsOk edit_pushed.T7.2 edit_pushed.B7 = true := by kernel_rfl
theorem edit_pushed.calls (k : Nat) (s u : Int) (q : Nat → Prop) (I : Value) (r : List (S55)) (x : Int) (y z : Bool) (A1 : Option Addr) (c1 : Nat) (l1 : List Int) (r1 : Bool) (r2 : List (S55)) (w0 w : World) (hB : Below w0.heap.size w0 w) (a8 : Kd.R k55 55 w w0.heap.size q I r) (bp : ∀ W_, Kept w W_ (fun k_ => q k_) → Kd.C (Kd.int .i64) W_ A1 l1.length l1) (bo : l1.length ≤ c1) (h : edit_pushed.f k s u r x y z l1 = some (r1, r2)) :
  Calls Tryz.prog 115 #[.agg #[.int .i64 s, .int .i64 u, I, .int .i64 x, .bool y, .bool z], .slice A1 l1.length c1] w fun e w' => e = .returned (.bool r1) ∧ Kd.R k55 55 w' w0.heap.size (fun k_ => (q k_ ∨ w.heap.size ≤ k_)) I r2 ∧ Below w0.heap.size w0 w' ∧ Kept w w' (fun k_ => q k_) := by
 have bR := Tryz.underlying24
 have bS := Tryz.underlying55
 have p := Z (show Kd.R k55 55 w w0.heap.size (fun k_ => (q k_ ∨ w.heap.size ≤ k_)) I r from Kd.R_mono a8 (fun k_ hk => (.inl hk)))
 have Y := Z bp
 have bl := Z bo
 clear bp bo
 have HK := Z (Kept.refl w (fun k_ => q k_))
 have bU := Z hB.size
 have HB := Z hB
 clear hB
 unfold edit_pushed.f at h
 have H := h
 clear h
 replace H := bn_ H
 obtain ⟨A, A3, H⟩ := H
 by_cases c4 : A < 0
 ·rw [if_pos c4] at H
  have aJ := decide_eq_true c4
  clear c4
  obtain ⟨rfl, rfl⟩ := ij2_ H
  obtain ⟨bk, bn, bB⟩ := Kd.R_slice p.out
  subst bB
  go_enter Tryz.func115, Tryz.ntmps115
  go_wp2_with (first | ((with_reducible refine gD_ 2 rfl ?_); refine bx_ 2 24 #[.int .i64 s, .int .i64 u, .slice bk r.length bn, .int .i64 x, .bool y, .bool z] ?_; intro m hg w6 hbox hb; replace p := rb' p hb; have d := Z hbox; have B := Z ((by rw [hg]; exact (by first | exact HK.out.1 | exact (show Kept w _ (fun k_ => q k_) from by repeat (first | (with_reducible first | exact HK.out | apply Kept.alloc | apply Kept.drewN | apply Kept.drew) | exact HK.out)).1) : w.heap.size ≤ m)); replace HK := Z (Kept.below (S := (fun k_ => q k_)) (by repeat (first | (with_reducible first | exact HK.out | apply Kept.alloc | apply Kept.drewN | apply Kept.drew) | exact HK.out)) hb); have aq := Z ((le_new hg (below_size bl_) : w0.heap.size ≤ m)); replace HB := bs_ hb; clear hb hbox hg) | ((with_reducible refine gate_callee (f := 135) rfl ?_); refine goesL_ (some 9) rfl rfl Tryz.func135 (by kernel_rfl) rfl #[.slice A1 l1.length c1, .func (.func 136) #[] #[.pointer (some ⟨m, 0, none⟩)]] rfl ag_ ?_; (with_reducible refine (pushed_index.calls _ _ l1 s u bk bn r x y z m A _ ?side1 ?side2 ?side3 ?side4 ?side5 A3.out).mono ?_); (case side1 => exact Kd.C_kept_now Y.out (by repeat (first | (with_reducible first | exact HK.out | apply Kept.alloc | apply Kept.drewN | apply Kept.drew | refine Kept.setCell ?_ (.inr B.out) _) | exact HK.out))); (case side2 => exact bl.out); (case side3 => repeat (first | exact (Kd.R_reads' p.out).2.2 | (with_reducible apply pC))); (case side4 => exact (Kd.R_reads' p.out).2.1); (case side5 => exact (vK d.out)); rintro e w' ⟨rfl, ⟨nd, rfl⟩⟩; refine ⟨_, rfl, ?_⟩))
  go_ret
  exact ⟨er_, by (with_reducible repeat apply pR); exact p.out, bl_, by repeat (first | (with_reducible first | exact HK.out | apply Kept.alloc | apply Kept.drewN | apply Kept.drew | refine Kept.setCell ?_ (.inr B.out) _) | exact HK.out)⟩
 rw [if_neg c4] at H
 have aJ := decide_eq_false c4
 clear c4
 have H' := Z H
 clear H
 obtain ⟨ap, ah, bC⟩ := Kd.R_slice p.out
 subst bC
 go_enter Tryz.func115, Tryz.ntmps115
 go_wp2_with (first | ((with_reducible refine gD_ 2 rfl ?_); refine bx_ 2 24 #[.int .i64 s, .int .i64 u, .slice ap r.length ah, .int .i64 x, .bool y, .bool z] ?_; intro m hg w8 hbox hb; replace p := rb' p hb; have d := Z hbox; have B := Z ((by rw [hg]; exact (by first | exact HK.out.1 | exact (show Kept w _ (fun k_ => q k_) from by repeat (first | (with_reducible first | exact HK.out | apply Kept.alloc | apply Kept.drewN | apply Kept.drew) | exact HK.out)).1) : w.heap.size ≤ m)); replace HK := Z (Kept.below (S := (fun k_ => q k_)) (by repeat (first | (with_reducible first | exact HK.out | apply Kept.alloc | apply Kept.drewN | apply Kept.drew) | exact HK.out)) hb); have aq := Z ((le_new hg (below_size bl_) : w0.heap.size ≤ m)); replace HB := bs_ hb; clear hb hbox hg) | ((with_reducible refine gate_callee (f := 135) rfl ?_); refine goesL_ (some 9) rfl rfl Tryz.func135 (by kernel_rfl) rfl #[.slice A1 l1.length c1, .func (.func 136) #[] #[.pointer (some ⟨m, 0, none⟩)]] rfl ag_ ?_; (with_reducible refine (pushed_index.calls _ _ l1 s u ap ah r x y z m A _ ?side1 ?side2 ?side3 ?side4 ?side5 A3.out).mono ?_); (case side1 => exact Kd.C_kept_now Y.out (by repeat (first | (with_reducible first | exact HK.out | apply Kept.alloc | apply Kept.drewN | apply Kept.drew | refine Kept.setCell ?_ (.inr B.out) _) | exact HK.out))); (case side2 => exact bl.out); (case side3 => repeat (first | exact (Kd.R_reads' p.out).2.2 | (with_reducible apply pC))); (case side4 => exact (Kd.R_reads' p.out).2.1); (case side5 => exact (vK d.out)); rintro e w' ⟨rfl, ⟨nd, rfl⟩⟩; refine ⟨_, rfl, ?_⟩))
 go_loopg [6] k (fun kq v6 w' => ∃ (c : Int) (a : List (S55)), v6 = .int .i64 c ∧ Aside0 (edit_pushed.l0 kq l1 c s u a x y z = some (r1, r2)) ∧ Aside0 (kq ≤ k) ∧ Aside0 (Kd.R k55 55 w' w0.heap.size (fun k_ => (q k_ ∨ w.heap.size ≤ k_)) (.slice ap r.length ah) a) ∧ Aside0 (w'.heap[m]? = some (.cells #[.int .i64 s, .int .i64 u, (.slice ap r.length ah), .int .i64 x, .bool y, .bool z] 24 (0, 0))) ∧ Aside0 (Kept w w' (fun k_ => q k_)) ∧ Aside0 (Below w0.heap.size w0 w'))
 case atStart => exact ⟨(A), (r), (dn_), H', ⟨Nat.le_refl _⟩, ⟨by (with_reducible repeat apply pR); exact p.out⟩, ⟨vK d.out⟩, ⟨by repeat (first | (with_reducible first | exact HK.out | apply Kept.alloc | apply Kept.drewN | apply Kept.drew | refine Kept.setCell ?_ (.inr B.out) _) | exact HK.out)⟩, ⟨bl_⟩⟩
 case round =>
  clear H'
  try clear c4
  try clear aJ
  obtain ⟨c, a, rfl, HA, bm, GA, d, HK, HB⟩ := hrel
  have o := (Kd.R_reads' GA.out).1
  rw [o] at GA
  (try simp only [o])
  (try simp only [o] at d)
  cases gk with
  | zero => exact absurd HA.out (by simp [edit_pushed.l0])
  | succ k1 =>
   have H := HA.out
   clear HA
   simp only [edit_pushed.l0] at H
   by_cases c9 : c > 0
   rotate_left
   ·rw [if_neg c9] at H
    have br : decide (0 < c) = false := decide_eq_false c9
    clear c9
    obtain ⟨rfl, rfl⟩ := ij2_ H
    go_wp2
    go_ret
    exact ⟨er_, (by first | exact (by (with_reducible repeat apply pR); exact GA.out) | (simp only [o]; exact (by (with_reducible repeat apply pR); exact GA.out))), bl_, by repeat (first | (with_reducible first | exact HK.out | apply Kept.alloc | apply Kept.drewN | apply Kept.drew | refine Kept.setCell ?_ (.inr B.out) _) | exact HK.out)⟩
   rw [if_pos c9] at H
   have br : decide (0 < c) = true := decide_eq_true c9
   clear c9
   obtain ⟨c10, H⟩ := gt_ H
   have bF := decide_eq_true c10
   clear c10
   obtain ⟨ar, H⟩ := gt_ H
   have bG := decide_eq_true ar
   clear ar
   obtain ⟨b, F⟩ : ∃ j_ : Int, (wrap64 (c - 1)) = j_ := ⟨_, rfl⟩
   replace H : (if 0 ≤ (b) then (if (b) < (l1.length : Int) then (if 0 ≤ (rd l1 (b)) then (if (rd l1 (b)) < (a.length : Int) then (if 0 ≤ (rd l1 c) then (if (rd l1 c) < (a.length : Int) then (edit_pushed.l0 k1 l1 b s u (a.set ((rd l1 c) : Int).toNat (⟨(rd_T55 a (rd l1 (b))).f0, (⟨(rd_T55 a (rd l1 (b))).f1.f0, (rd_T55 a (rd l1 (b))).f1.f1, (rd_T55 a (rd l1 (b))).f1.f2, (rd_T55 a (rd l1 (b))).f1.f3⟩ : S53), (rd_T55 a (rd l1 (b))).f2⟩ : S55)) x y z) else (none)) else (none)) else (none)) else (none)) else (none)) else (none)) = some (r1, r2) := by first | (rw [F] at H; exact H) | (simp only [F] at H ⊢; exact H)
   have bD : (IntKind.i64.wrap (c - 1)) = b := (i64_w _).trans F
   obtain ⟨au, H⟩ := gt_ H
   have bH := decide_eq_true au
   clear au
   obtain ⟨av, H⟩ := gt_ H
   have bI := decide_eq_true av
   clear av
   obtain ⟨aw, H⟩ := gt_ H
   have bJ := decide_eq_true aw
   clear aw
   obtain ⟨ax, H⟩ := gt_ H
   have bK := decide_eq_true ax
   clear ax
   obtain ⟨ay, H⟩ := gt_ H
   have bL := decide_eq_true ay
   clear ay
   obtain ⟨az, H⟩ := gt_ H
   have bM := decide_eq_true az
   clear az
   obtain ⟨a2, G⟩ : ∃ y_ : List (S55), y_ = (a.set ((rd l1 c) : Int).toNat (⟨(rd_T55 a (rd l1 (b))).f0, (⟨(rd_T55 a (rd l1 (b))).f1.f0, (rd_T55 a (rd l1 (b))).f1.f1, (rd_T55 a (rd l1 (b))).f1.f2, (rd_T55 a (rd l1 (b))).f1.f3⟩ : S53), (rd_T55 a (rd l1 (b))).f2⟩ : S55)) := ⟨_, rfl⟩
   replace H : (edit_pushed.l0 k1 l1 b s u a2 x y z) = some (r1, r2) := by first | (rw [G]; with_reducible exact H) | (have aG := (Option.bind_some _ _).symm.trans H; rw [G]; with_reducible exact aG) | (have aG := (Option.bind_some _ _).symm.trans H; with_reducible exact aG) | with_reducible exact H | (rw [G]; exact H) | exact H
   have a4 := Z G
   clear G
   have H' := Z H
   clear H
   try go_wp2
   replace GA := Z (Kd.R_drew GA.out)
   replace d := Z (blk_drew d.out)
   replace HK := Z (Kept.drew HK.out)
   replace HB := Z (below_drew1 HB.out)
   have ad : 0 ≤ (c : Int) := od_
   have af : c < (l1.length : Int) := od_
   obtain ⟨ac, bs, aa⟩ := Kd.at_int (Kd.C_kept_now Y.out HK.out) c ad af
   have bx := aa
   cases bs
   replace ad := eq_true ad
   replace af := eq_true af
   have ae : 0 ≤ ((b) : Int) := od_
   have ag : (b) < (l1.length : Int) := od_
   obtain ⟨a5, bt, ab⟩ := Kd.at_int (Kd.C_kept_now Y.out HK.out) (b) ae ag
   have bz := ab
   obtain rfl : ac = a5 := (by injection bt)
   replace ae := eq_true ae
   replace ag := eq_true ag
   have al : 0 ≤ ((rd l1 (b)) : Int) := od_
   have am : (rd l1 (b)) < (a.length : Int) := od_
   obtain ⟨bE, bu, L, M, O, P, Q, T⟩ := at_T55 (Kd.R_reads' GA.out).2.2 (rd l1 (b)) al am
   cases bu
   replace al := eq_true al
   replace am := eq_true am
   have a0 : 0 ≤ ((rd l1 c) : Int) := od_
   have a1 : ((rd l1 c) : Int) < ((a.length : Int) : Int) := od_
   obtain ⟨l, bQ, aK, aL, bw, bP, aH⟩ := Kd.R_form GA.out (by omega)
   (first | cases aK | (injection aK with ea_ en_ ec_; (first | subst ea_ | (injection ea_ with ea_; subst ea_)); subst ec_; clear en_))
   have J := Z aL
   have bq := Z aH
   clear aL bw aH
   have g := Z (show (q l ∨ w.heap.size ≤ l) from (GA.out.1 _ rfl))
   (first | simp only [add_plain] at L | skip)
   (first | simp only [add_plain] at M | skip)
   (first | simp only [add_plain] at O | skip)
   (first | simp only [add_plain] at P | skip)
   (first | simp only [add_plain] at Q | skip)
   (first | simp only [add_plain] at T | skip)
   obtain ⟨bN, a6, aM, D, E⟩ := Kd.R_elem GA.out z55 ((rd l1 c) : Int) a0 a1
   obtain rfl := k55_openM aM
   have aU : World.cell? _ ⟨l, ((rd l1 c) : Int).toNat * 6, none⟩ = some (.bool ((rd_T55 a (rd l1 c)).f0)) := D 0 _ rfl
   have aV : World.cell? _ ⟨l, ((rd l1 c) : Int).toNat * 6 + 1, none⟩ = some (.bool ((rd_T55 a (rd l1 c)).f1.f0)) := D 1 _ rfl
   have aW : World.cell? _ ⟨l, ((rd l1 c) : Int).toNat * 6 + 2, none⟩ = some (.bool ((rd_T55 a (rd l1 c)).f1.f1)) := D 2 _ rfl
   have aX : World.cell? _ ⟨l, ((rd l1 c) : Int).toNat * 6 + 3, none⟩ = some (.int .i64 ((rd_T55 a (rd l1 c)).f1.f2)) := D 3 _ rfl
   have aY : World.cell? _ ⟨l, ((rd l1 c) : Int).toNat * 6 + 4, none⟩ = some (.bool ((rd_T55 a (rd l1 c)).f1.f3)) := D 4 _ rfl
   have aZ : World.cell? _ ⟨l, ((rd l1 c) : Int).toNat * 6 + 5, none⟩ = some (.int .u8 ((rd_T55 a (rd l1 c)).f2)) := D 5 _ rfl
   have aO : World.frozen? _ ⟨l, ((rd l1 c) : Int).toNat * 6, none⟩ = false := E 0
   have aP : World.frozen? _ ⟨l, ((rd l1 c) : Int).toNat * 6 + 1, none⟩ = false := E 1
   have aQ : World.frozen? _ ⟨l, ((rd l1 c) : Int).toNat * 6 + 2, none⟩ = false := E 2
   have aR : World.frozen? _ ⟨l, ((rd l1 c) : Int).toNat * 6 + 3, none⟩ = false := E 3
   have aS : World.frozen? _ ⟨l, ((rd l1 c) : Int).toNat * 6 + 4, none⟩ = false := E 4
   have aT : World.frozen? _ ⟨l, ((rd l1 c) : Int).toNat * 6 + 5, none⟩ = false := E 5
   clear a6 D E aM
   replace a0 := eq_true a0
   replace a1 := eq_true a1
   obtain ⟨bO, aB, aN, aA, a7⟩ := Kd.R_elem GA.out z55 ((rd l1 c) : Int) (od_) (by have h_ : ((rd l1 c) : Int) < ((a.length : Int) : Int) := od_; first | exact h_ | (have e_ := (Kd.R_reads' GA.out).1; omega) | simpa using h_)
   obtain rfl := k55_openM aN
   have ak := (Kd.R_seg GA.out ((rd l1 c) : Int) (od_) (by have h_ : ((rd l1 c) : Int) < ((a.length : Int) : Int) := od_; first | exact h_ | (have e_ := (Kd.R_reads' GA.out).1; omega) | simpa using h_) (seg := [.bool ((rd_T55 a (rd l1 (b))).f0), .bool ((rd_T55 a (rd l1 (b))).f1.f0), .bool ((rd_T55 a (rd l1 (b))).f1.f1), .int .i64 ((rd_T55 a (rd l1 (b))).f1.f2), .bool ((rd_T55 a (rd l1 (b))).f1.f3), .int .u8 ((rd_T55 a (rd l1 (b))).f2)]) (j := 0) aB aA (show 6 ≤ 6 from by decide) (x' := (⟨(rd_T55 a (rd l1 (b))).f0, (⟨(rd_T55 a (rd l1 (b))).f1.f0, (rd_T55 a (rd l1 (b))).f1.f1, (rd_T55 a (rd l1 (b))).f1.f2, (rd_T55 a (rd l1 (b))).f1.f3⟩ : S53), (rd_T55 a (rd l1 (b))).f2⟩ : S55)) (k55_mkM _ _ _ (⟨(rd_T55 a (rd l1 (b))).f0, (⟨(rd_T55 a (rd l1 (b))).f1.f0, (rd_T55 a (rd l1 (b))).f1.f1, (rd_T55 a (rd l1 (b))).f1.f2, (rd_T55 a (rd l1 (b))).f1.f3⟩ : S53), (rd_T55 a (rd l1 (b))).f2⟩ : S55) ) (fun _ hk => hk)).1
   rw [← a4.out] at ak
   have aI := Z ak
   clear aB aA a7 aN ak
   refine start_ (n := 17) (S := fun w' => w'.cell? ⟨m, 0, none⟩ = some (.int .i64 s) ∧ w'.cell? ⟨m, 1, none⟩ = some (.int .i64 u) ∧ w'.cell? ⟨m, 2, none⟩ = some (.slice (some ⟨l, 0, none⟩) a.length ah) ∧ w'.cell? ⟨m, 3, none⟩ = some (.int .i64 x) ∧ w'.cell? ⟨m, 4, none⟩ = some (.bool y) ∧ w'.cell? ⟨m, 5, none⟩ = some (.bool z) ∧ w'.cell? (ac.add (c).toNat) = some (.int .i64 (rd l1 c)) ∧ w'.cell? (ac.add ((b)).toNat) = some (.int .i64 (rd l1 (b))) ∧ w'.cell? ⟨l, (((rd l1 (b))).toNat * 6), none⟩ = some (.bool ((rd_T55 a (rd l1 (b))).f0)) ∧ w'.cell? ⟨l, (((rd l1 (b))).toNat * 6) + 1, none⟩ = some (.bool ((rd_T55 a (rd l1 (b))).f1.f0)) ∧ w'.cell? ⟨l, (((rd l1 (b))).toNat * 6) + 2, none⟩ = some (.bool ((rd_T55 a (rd l1 (b))).f1.f1)) ∧ w'.cell? ⟨l, (((rd l1 (b))).toNat * 6) + 3, none⟩ = some (.int .i64 ((rd_T55 a (rd l1 (b))).f1.f2)) ∧ w'.cell? ⟨l, (((rd l1 (b))).toNat * 6) + 4, none⟩ = some (.bool ((rd_T55 a (rd l1 (b))).f1.f3)) ∧ w'.cell? ⟨l, (((rd l1 (b))).toNat * 6) + 5, none⟩ = some (.int .u8 ((rd_T55 a (rd l1 (b))).f2))) (ds := [16]) (bv 17 0) (by kernel_rfl) rfl rfl ⟨(blk_cell d.out 0).trans rfl, (blk_cell d.out 1).trans rfl, (blk_cell d.out 2).trans rfl, (blk_cell d.out 3).trans rfl, (blk_cell d.out 4).trans rfl, (blk_cell d.out 5).trans rfl, (Kd.foot_int (Y.out _ (by repeat (first | exact HK.out | apply Kept.alloc | apply Kept.drewN | apply Kept.drew | refine Kept.setCell ?_ g.out _ | refine Kept.setCell ?_ g.out _ | refine Kept.setCell ?_ g.out _ | refine Kept.setCell ?_ g.out _ | refine Kept.setCell ?_ g.out _ | refine Kept.setCell ?_ g.out _))) c (of_eq_true ad) (of_eq_true af)), (Kd.foot_int (Y.out _ (by repeat (first | exact HK.out | apply Kept.alloc | apply Kept.drewN | apply Kept.drew | refine Kept.setCell ?_ g.out _ | refine Kept.setCell ?_ g.out _ | refine Kept.setCell ?_ g.out _ | refine Kept.setCell ?_ g.out _ | refine Kept.setCell ?_ g.out _ | refine Kept.setCell ?_ g.out _))) (b) (of_eq_true ae) (of_eq_true ag)), L, M, O, P, Q, T⟩ (fun hHeld => ?_); refine with_tabW edit_pushed.tab7 edit_pushed.bits7 (fun HT_ HW_ => ?_)
   generalize wr.drew = bV at GA d HK HB bq aI aO aP aQ aR aS aT aU aV aW aX aY aZ aa ab L M O P Q T hHeld ⊢
   refine pT_ HT_ 0 17 1 (some 17) ?_
   refine pT_ HT_ 2 17 5 (some 19) ?_
   refine pT_ HT_ 3 17 13 (some 20) ?_
   refine pT_ HT_ 4 17 29 (some 21) ?_
   refine pT_ HT_ 6 17 93 (some 23) ?_
   refine pT_ HT_ 8 17 349 (some 25) ?_
   refine pT_ HT_ 9 17 861 (some 26) ?_
   refine pT_ HT_ 10 17 1885 (some 27) ?_
   refine pT_ HT_ 11 17 3933 (some 28) ?_
   refine tT_ HT_ HW_ hHeld 1 17 3935 (some 18) ?_
   refine tT_ HT_ HW_ hHeld 5 17 3967 (some 22) ?_
   refine tT_ HT_ HW_ hHeld 7 17 4095 (some 24) ?_
   refine tT_ HT_ HW_ hHeld 12 17 8191 (some 29) ?_
   refine pT_ HT_ 13 17 16383 (some 30) ?_
   refine tT_ HT_ HW_ hHeld 14 17 32767 (some 31) ?_
   refine pT_ HT_ 15 17 65535 (some 32) ?_
   refine last_ (i := 16) (N := none) (bv 17 131071) rfl rfl (one_of HT_.out (by kernel_rfl)) (by decide) (fun K hK => ?_)
   refine skip_ (w1 := ?_) (by rfl) rfl ?_ ?_
   rotate_left
   ·go_simp
    rfl
   refine hK.out _ _ ?_
   clear hK K
   refine done_ (done_of HT_.out (by kernel_rfl)) ?_
   try go_wp2
   (try simp only [← o])
   go_roundg k1
   case measure => have := bm.out; omega
   case rel => exact ⟨(b), (a2), (by first | rfl | (simp; done) | (simp only [← F, i64_w]; rfl) | (simp only [← F] <;> (first | rfl | simp)) | (simp [*]; done)), H', ⟨by have := bm.out; omega⟩, ⟨by (try simp only [o]); (with_reducible repeat apply pR); exact aI.out⟩, ⟨by (try simp only [o]); (with_reducible repeat apply pK); refine blk_far ?_ (by have h_ := Kd.R_ne GA.out d.out (by decide); intro e_; exact h_ (by rw [e_]; rfl)) _; (with_reducible repeat apply pK); refine blk_far ?_ (by have h_ := Kd.R_ne GA.out d.out (by decide); intro e_; exact h_ (by rw [e_]; rfl)) _; (with_reducible repeat apply pK); refine blk_far ?_ (by have h_ := Kd.R_ne GA.out d.out (by decide); intro e_; exact h_ (by rw [e_]; rfl)) _; (with_reducible repeat apply pK); refine blk_far ?_ (by have h_ := Kd.R_ne GA.out d.out (by decide); intro e_; exact h_ (by rw [e_]; rfl)) _; (with_reducible repeat apply pK); refine blk_far ?_ (by have h_ := Kd.R_ne GA.out d.out (by decide); intro e_; exact h_ (by rw [e_]; rfl)) _; (with_reducible repeat apply pK); refine blk_far ?_ (by have h_ := Kd.R_ne GA.out d.out (by decide); intro e_; exact h_ (by rw [e_]; rfl)) _; (with_reducible repeat apply pK); exact d.out⟩, ⟨by repeat (first | (with_reducible first | exact HK.out | apply Kept.alloc | apply Kept.drewN | apply Kept.drew | refine Kept.setCell ?_ g.out _ | refine Kept.setCell ?_ g.out _ | refine Kept.setCell ?_ g.out _ | refine Kept.setCell ?_ g.out _ | refine Kept.setCell ?_ g.out _ | refine Kept.setCell ?_ g.out _ | refine Kept.setCell ?_ (.inr B.out) _) | exact HK.out)⟩, ⟨by repeat (first | (with_reducible first | exact HB.out | apply below_alloc | apply pw_below_drewN | apply below_drew1 | refine below_set ?_ J.out | refine below_set ?_ J.out | refine below_set ?_ J.out | refine below_set ?_ J.out | refine below_set ?_ J.out | refine below_set ?_ J.out | refine below_set ?_ aq.out) | exact HB.out)⟩⟩

end Go.Proofs.YtjpedimndkibnaaGreatDoor.P
