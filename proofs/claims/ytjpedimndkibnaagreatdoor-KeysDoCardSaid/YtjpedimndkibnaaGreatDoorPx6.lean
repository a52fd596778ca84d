/- pp.py and press2.py (wip/tools) wrote this text. -/
import Derived.Test.YtjpedimndkibnaaGreatDoorPx0
import Derived.Test.YtjpedimndkibnaaGreatDoorPxS
import Derived.Test.YtjpedimndkibnaaGreatDoorPxT
import Derived.Test.YtjpedimndkibnaaGreatDoorPx3
namespace Go.Proofs.YtjpedimndkibnaaGreatDoor.P
open Go.RowKit Go.Proofs.YtjpedimndkibnaaGreatDoorW.PrintWords Go.Proofs.YtjpedimndkibnaaGreatDoorW.PrintLast Go.Proofs.YtjpedimndkibnaaGreatDoorW.PrintMore
attribute [local go_sem] max2_int min2_int max_two min_two max_three min_three max_four min_four
attribute [local go_sem] Instr.field asAgg
set_option linter.unusedVariables false
set_option linter.unusedSimpArgs false
set_option maxHeartbeats 8000000
set_option maxRecDepth 100000

/-! ### slices_Clone_shutter_api_Cell_shutter_api_Cell: function 50 -/
section
/-- slices.Clone of cells: a nil row stays one, any other is made anew. -/
def slices_Clone_shutter_api_Cell_shutter_api_Cell.f (l : List S55) : Option (List S55) := if l.length ≤ 16383 then some l else none
theorem slices_Clone_shutter_api_Cell_shutter_api_Cell.calls (g : Option Addr) (c0 : Nat) (l0 r : List (S55)) (w : World) (hr0 : Kd.C k55 w g l0.length l0) (o : l0.length ≤ c0) (h : slices_Clone_shutter_api_Cell_shutter_api_Cell.f l0 = some r) :
  Calls Tryz.prog 50 #[.slice g l0.length c0] w fun e w' => ∃ d : Value, e = .returned (d) ∧ Kd.R k55 55 w' w.heap.size (fun _ => True) d r ∧ Below w.heap.size w w' := by
 unfold slices_Clone_shutter_api_Cell_shutter_api_Cell.f at h
 by_cases hn : l0.length ≤ 16383
 rotate_left
 ·rw [if_neg hn] at h
  cases h
 rw [if_pos hn] at h
 obtain rfl := Option.some.inj h
 have HR := Z hr0
 clear h hr0
 rcases g with _ | ad
 ·have hl : l0 = [] := by
   rcases Nat.eq_zero_or_pos l0.length with i | i
   ·exact List.eq_nil_of_length_eq_zero i
   ·obtain ⟨ad, h, _⟩ := HR.out.2.2 i
    cases h
  subst hl
  have hE := fun (w : World) => Lib.run_eql_slice_nil (P := Tryz.prog) w 22 55 none 0 c0 0 0 Tryz.underlying22
  rw [List.length_nil]
  go_enter Tryz.func50, Tryz.ntmps50
  go_wp2
  go_ret
  exact ⟨_, rfl, Kd.R_nil _ _ _ _ _, Below.refl _ _⟩
 have HB := Z (Below.refl w.heap.size w)
 have hE := fun (w : World) => Lib.run_eql_slice_nil (P := Tryz.prog) w 22 55 (some ad) l0.length c0 0 0 Tryz.underlying22
 go_enter Tryz.func50, Tryz.ntmps50
 go_wp2_with (first
  | ((with_reducible refine gD_ 5 rfl ?_); refine Kd.R_lit k55 w.heap.size 55 ?hg (N := 5) ?hd (xs := ([] : List (S55))) (inner := []) (ok := fun _ => True) (okp := fun _ => True) ?hr ?hp (fun _ hk => hk) trivial (Below.refl _ _) (Nat.le_refl _) (by simp) ?_; (case hd => rfl); (case hg => rfl); (case hr => first | (go_simp; done) | (go_simp; rfl)); (case hp => exact (Reps.none _ _)); intro n w1 ho hb hg_ hnew_; clear hg_ hnew_; have HO := Z ho; have hB := Z hb; clear ho hb HB; have HB := hB; clear hB)
  | ((with_reducible refine gate_builtin (b := .append) (xs := #[.tmp 5, .tmp 6]) rfl ?_); at_builtin; refine Kd.R_append_rows k55 (w0 := w) w.heap.size rfl (.tmp 5) (.tmp 6) 22 55 (.agg #[(.bool false), (.bool false), (.bool false), (.int .i64 0), (.bool false), (.int .u8 0)]) 40 rfl Tryz.underlying22 info55 rfl (by decide) (by omega) n ([] : List S55) l0 _ _ _ (fun _ => True) (fun _ => False) rfl rfl ?aO ?aR (fun _ _ h => h) (fun _ h => h.elim) ?aF ?aB ?aS ?aL ?_; (case aR => repeat (first | exact (Kd.C_below HR.out HB.out) | (with_reducible apply pC))); (case aB => exact bl_); (case aF => exact (fun _ _ => trivial)); (case aO => exact (by (with_reducible repeat apply pR); exact HO.out)); (case aS => exact (below_size bl_)); (case aL => simp only [List.length_nil]; omega); intro p w2 c a m j; clear m j; have l := Z c; have k := Z a; clear c a))
 go_ret
 exact ⟨_, rfl, by have := l.out; rwa [List.nil_append] at this, k.out⟩
end

/-! ### grid_Copy: function 21 -/
def grid_Copy.f (a b : Int) (g : List (S55)) (c : Int) (d e : Bool) : Option (Int × Int × (List (S55)) × Int × Bool × Bool) := (slices_Clone_shutter_api_Cell_shutter_api_Cell.f g).bind fun h => (some (a, b, h, c, d, e))
theorem grid_Copy.calls (b d : Int) (x : Option Addr) (y : Nat) (j : List (S55)) (i : Int) (k m : Bool) (I J : Int) (K : List (S55)) (L : Int) (M O : Bool) (w : World) (E : Kd.C k55 w x j.length j) (D : j.length ≤ y) (h : grid_Copy.f b d j i k m = some (I, J, K, L, M, O)) :
  Calls Tryz.prog 21 #[.agg #[.int .i64 b, .int .i64 d, .slice x j.length y, .int .i64 i, .bool k, .bool m]] w fun e w' => ∃ V : Value, e = .returned (.agg #[.int .i64 I, .int .i64 J, V, .int .i64 L, .bool M, .bool O]) ∧ Kd.R k55 55 w' w.heap.size (fun _ => True) V K ∧ Below w.heap.size w w' := by
 have aR := Tryz.underlying24
 have G := Z E
 have F := Z D
 clear E D
 have HB := Z (Below.refl w.heap.size w)
 unfold grid_Copy.f at h
 have H := h
 clear h
 replace H := bn_ H
 obtain ⟨g, A2, H⟩ := H
 obtain ⟨rfl, rfl, rfl, rfl, rfl, rfl⟩ := ij6_ H
 go_enter Tryz.func21, Tryz.ntmps21
 go_wp2_with (first | ((with_reducible refine gD_ 1 rfl ?_); refine bx_ 1 24 #[.int .i64 b, .int .i64 d, .slice x j.length y, .int .i64 i, .bool k, .bool m] ?_; intro z hg w3 hbox hb; have a := Z hbox; have aM := ln' w hg; replace HB := bs_ hb; clear hb hbox hg) | ((with_reducible refine gD_ 2 rfl ?_); refine bx_ 2 24 zS_ ?_; intro c hg w4 hbox hb; have l := Z hbox; have aN := ln' w hg; replace HB := bs_ hb; have A := nl' a hg; replace a := kb' a hb; clear hb hbox hg; have aP := ns_ A; have ak := cells6 a.out) | ((with_reducible refine gF_ 50 rfl ?_); refine gd_ (some 5) Tryz.func50 (slices_Clone_shutter_api_Cell_shutter_api_Cell.calls _ _ j g _ (cB_ G HB) F.out A2.out) ?_; rintro e w7 ⟨aS, rfl, Q, hb⟩; refine ⟨_, rfl, ?_⟩; have B := Z (Kd.R_lower Q (below_size bl_)); replace a := kb' a hb; replace l := kb' l hb; replace HB := bs_ hb; (try clear hb); (try clear Q); obtain ⟨u, v, aj⟩ := Kd.R_slice B.out; subst aj; have aq := cells6 a.out; have W := cells6 l.out))
 refine bodyPost_ret (results_cell_row rfl _ _ c 24 #[.int .i64 b, .int .i64 d, .slice u g.length v, .int .i64 i, .bool k, .bool m] (0, 0) _ rfl (put6 (by (with_reducible repeat apply pK); refine blk_far ?_ A.out.symm _; (with_reducible repeat apply pK); exact l.out)) Tryz.underlying24 rfl (by kernel_rfl)) rfl ?_
 exact ⟨_, er_, by (with_reducible repeat apply pR); exact Kd.R_mono (f6R c (Kd.R_far (p := ⟨z, 2, none⟩) (Kd.R_types (Kd.R_types B.out a.out (by decide)) l.out (by decide)) im_ (.slice u g.length v)) im_) im_, bl_⟩

/-! ### attr_Bare: function 108 -/
def attr_Bare.j0 : Nat → Int → Bool → Option (Bool)
 | 0, _, _ => none
 | k + 1, a, b => if b = true then (some true) else (if a = 109 then (some true) else (some false))
def attr_Bare.f (k : Nat) (a0 : Int) : Option (Bool) := if a0 = 108 then (attr_Bare.j0 k a0 (a0 == 108)) else (if a0 = 110 then (attr_Bare.j0 k a0 (a0 == 110)) else (attr_Bare.j0 k a0 (a0 == 107)))
theorem attr_Bare.mono_l : ∀ k, (∀ b c, LeO (attr_Bare.j0 k b c) (attr_Bare.j0 (k + 1) b c))
 | 0 => fun _ _ r h => by simp [attr_Bare.j0] at h
 | k + 1 => by
  have a := attr_Bare.mono_l k
  ·intro b c
   unfold attr_Bare.j0
   repeat' first
   | (with_reducible exact a _ _)
   | (with_reducible exact LeO.refl _)
   | (with_reducible exact LeO.none _)
   | (with_reducible refine LeO.ite ?_ ?_)
   | (with_reducible refine LeO.bind ?_ (fun _ => ?_))
   | exact a _ _
   | exact LeO.none _
   | refine LeO.ite ?_ ?_
   | refine LeO.bind ?_ (fun _ => ?_)
theorem attr_Bare.mono : ∀ a0 k, LeO (attr_Bare.f k a0) (attr_Bare.f (k + 1) a0) := by
 intro a0 k
 have a := attr_Bare.mono_l k
 unfold attr_Bare.f
 repeat' first
   | (with_reducible exact a _ _)
   | (with_reducible exact LeO.refl _)
   | (with_reducible exact LeO.none _)
   | (with_reducible refine LeO.ite ?_ ?_)
   | (with_reducible refine LeO.bind ?_ (fun _ => ?_))
   | exact a _ _
   | exact LeO.none _
   | refine LeO.ite ?_ ?_
   | refine LeO.bind ?_ (fun _ => ?_)
theorem attr_Bare.calls (k : Nat) (a0 : Int) (r : Bool) (w : World) (h : attr_Bare.f k a0 = some r) :
  Calls Tryz.prog 108 #[.int .u8 a0] w fun e w' => e = .returned (.bool r) ∧ Drawn0 w w' := by
 unfold attr_Bare.f at h
 have H := h
 clear h
 have c := Z H
 clear H
 go_enter Tryz.func108, Tryz.ntmps108
 go_upto_if 4 with (fail)
 go_cut [4] (fun m wc => ∃ (kq : Nat) (b : Bool), m = .bool b ∧ Aside0 (attr_Bare.j0 kq a0 b = some r) ∧ Aside0 (kq ≤ k) ∧ Drawn0 w wc)
 case first =>
  have H := c.out
  clear c
  by_cases c3 : a0 = 108
  ·rw [if_pos c3] at H
   obtain ⟨a, d⟩ := eT_ c3
   clear c3
   (first | rw [a] | (simp only [i64_w, i32_w]; rw [a]) | skip)
   have H' := Z H
   clear H
   go_wp2
   go_meet
   case rel => exact ⟨_, ((a0 == 108)), (dn_), H', ⟨by first | omega | exact Nat.le_refl _⟩, dr_⟩
  rw [if_neg c3] at H
  obtain ⟨a, d⟩ := eF_ c3
  (first | rw [a] | (simp only [i64_w, i32_w]; rw [a]) | skip)
  by_cases c4 : a0 = 110
  ·rw [if_pos c4] at H
   obtain ⟨g, i⟩ := eT_ c4
   clear c4
   have H' := Z H
   clear H
   go_wp2
   go_meet
   case rel => exact ⟨_, ((a0 == 110)), (dn_), H', ⟨by first | omega | exact Nat.le_refl _⟩, dr_⟩
  rw [if_neg c4] at H
  obtain ⟨g, i⟩ := eF_ c4
  have H' := Z H
  clear H
  go_wp2
  go_meet
  case rel => exact ⟨_, ((a0 == 107)), (dn_), H', ⟨by first | omega | exact Nat.le_refl _⟩, dr_⟩
 clear c
 obtain ⟨kq, b, rfl, HA, n, ⟨p, rfl⟩⟩ := hcut
 cases kq with
 | zero => exact absurd HA.out (by simp [attr_Bare.j0])
 | succ o =>
  have H := HA.out
  clear HA
  simp only [attr_Bare.j0] at H
  by_cases c5 : b = true
  ·subst c5
   rw [if_pos rfl] at H
   obtain rfl := Option.some.inj H
   go_wp2
   go_ret
   exact ⟨dn_, dr_⟩
  replace c5 := Bool.eq_false_iff.mpr c5
  subst c5
  rw [iF_] at H
  by_cases c6 : a0 = 109
  ·rw [if_pos c6] at H
   obtain ⟨j, l⟩ := eT_ c6
   clear c6
   obtain rfl := Option.some.inj H
   go_wp2
   go_ret
   exact ⟨dn_, dr_⟩
  rw [if_neg c6] at H
  obtain ⟨j, l⟩ := eF_ c6
  obtain rfl := Option.some.inj H
  go_wp2
  go_ret
  exact ⟨dn_, dr_⟩

/-! ### attr_Aid: function 68 -/
def attr_Aid.f (k : Nat) (a0 : Int) : Option (Bool) := (attr_Bare.f k a0).bind fun a => (if a = true then (some true) else (if a0 = 125 then (some true) else (if a0 ≥ 241 then (if a0 ≤ 249 then (some true) else (if a0 ≥ 122 then (some (decide (a0 ≤ 124))) else (some false))) else (if a0 ≥ 122 then (some (decide (a0 ≤ 124))) else (some false)))))
theorem attr_Aid.mono : ∀ a0 k, LeO (attr_Aid.f k a0) (attr_Aid.f (k + 1) a0) := by
 intro a0 k
 unfold attr_Aid.f
 repeat' first
   | (with_reducible exact attr_Bare.mono _ _)
   | (with_reducible exact LeO.refl _)
   | (with_reducible exact LeO.none _)
   | (with_reducible refine LeO.ite ?_ ?_)
   | (with_reducible refine LeO.bind ?_ (fun _ => ?_))
   | exact attr_Bare.mono _ _
   | exact LeO.none _
   | refine LeO.ite ?_ ?_
   | refine LeO.bind ?_ (fun _ => ?_)
theorem attr_Aid.calls (k : Nat) (a0 : Int) (r : Bool) (w : World) (h : attr_Aid.f k a0 = some r) :
  Calls Tryz.prog 68 #[.int .u8 a0] w fun e w' => e = .returned (.bool r) ∧ Drawn0 w w' := by
 unfold attr_Aid.f at h
 have H := h
 clear h
 replace H := bn_ H
 obtain ⟨a, b, H⟩ := H
 by_cases c3 : a = true
 ·subst c3
  rw [if_pos rfl] at H
  obtain rfl := Option.some.inj H
  go_enter Tryz.func68, Tryz.ntmps68
  go_wp2_with (first | ((with_reducible refine gF_ 108 rfl ?_); refine gd_ (some 4) Tryz.func108 (attr_Bare.calls k a0 true _ b.out) ?_; rintro e w' ⟨rfl, ⟨nd, rfl⟩⟩; refine ⟨_, rfl, ?_⟩))
  go_ret
  exact ⟨dn_, dr_⟩
 replace c3 := Bool.eq_false_iff.mpr c3
 subst c3
 rw [iF_] at H
 by_cases c4 : a0 = 125
 ·rw [if_pos c4] at H
  obtain ⟨d, g⟩ := eT_ c4
  clear c4
  obtain rfl := Option.some.inj H
  go_enter Tryz.func68, Tryz.ntmps68
  go_wp2_with (first | ((with_reducible refine gF_ 108 rfl ?_); refine gd_ (some 4) Tryz.func108 (attr_Bare.calls k a0 false _ b.out) ?_; rintro e w' ⟨rfl, ⟨nd, rfl⟩⟩; refine ⟨_, rfl, ?_⟩))
  go_ret
  exact ⟨dn_, dr_⟩
 rw [if_neg c4] at H
 obtain ⟨d, g⟩ := eF_ c4
 by_cases c5 : a0 ≥ 241
 ·rw [if_pos c5] at H
  have i : decide (241 ≤ a0) = true := decide_eq_true c5
  clear c5
  by_cases c6 : a0 ≤ 249
  ·rw [if_pos c6] at H
   have j := decide_eq_true c6
   clear c6
   obtain rfl := Option.some.inj H
   go_enter Tryz.func68, Tryz.ntmps68
   go_wp2_with (first | ((with_reducible refine gF_ 108 rfl ?_); refine gd_ (some 4) Tryz.func108 (attr_Bare.calls k a0 false _ b.out) ?_; rintro e w' ⟨rfl, ⟨nd, rfl⟩⟩; refine ⟨_, rfl, ?_⟩))
   go_ret
   exact ⟨dn_, dr_⟩
  rw [if_neg c6] at H
  have j := decide_eq_false c6
  clear c6
  by_cases c7 : a0 ≥ 122
  ·rw [if_pos c7] at H
   have l : decide (122 ≤ a0) = true := decide_eq_true c7
   clear c7
   obtain rfl := Option.some.inj H
   go_enter Tryz.func68, Tryz.ntmps68
   go_wp2_with (first | ((with_reducible refine gF_ 108 rfl ?_); refine gd_ (some 4) Tryz.func108 (attr_Bare.calls k a0 false _ b.out) ?_; rintro e w' ⟨rfl, ⟨nd, rfl⟩⟩; refine ⟨_, rfl, ?_⟩))
   go_ret
   exact ⟨dn_, dr_⟩
  rw [if_neg c7] at H
  have l : decide (122 ≤ a0) = false := decide_eq_false c7
  clear c7
  obtain rfl := Option.some.inj H
  go_enter Tryz.func68, Tryz.ntmps68
  go_wp2_with (first | ((with_reducible refine gF_ 108 rfl ?_); refine gd_ (some 4) Tryz.func108 (attr_Bare.calls k a0 false _ b.out) ?_; rintro e w' ⟨rfl, ⟨nd, rfl⟩⟩; refine ⟨_, rfl, ?_⟩))
  go_ret
  exact ⟨dn_, dr_⟩
 rw [if_neg c5] at H
 have i : decide (241 ≤ a0) = false := decide_eq_false c5
 clear c5
 by_cases c8 : a0 ≥ 122
 ·rw [if_pos c8] at H
  have m : decide (122 ≤ a0) = true := decide_eq_true c8
  clear c8
  obtain rfl := Option.some.inj H
  go_enter Tryz.func68, Tryz.ntmps68
  go_wp2_with (first | ((with_reducible refine gF_ 108 rfl ?_); refine gd_ (some 4) Tryz.func108 (attr_Bare.calls k a0 false _ b.out) ?_; rintro e w' ⟨rfl, ⟨nd, rfl⟩⟩; refine ⟨_, rfl, ?_⟩))
  go_ret
  exact ⟨dn_, dr_⟩
 rw [if_neg c8] at H
 have m : decide (122 ≤ a0) = false := decide_eq_false c8
 clear c8
 obtain rfl := Option.some.inj H
 go_enter Tryz.func68, Tryz.ntmps68
 go_wp2_with (first | ((with_reducible refine gF_ 108 rfl ?_); refine gd_ (some 4) Tryz.func108 (attr_Bare.calls k a0 false _ b.out) ?_; rintro e w' ⟨rfl, ⟨nd, rfl⟩⟩; refine ⟨_, rfl, ?_⟩))
 go_ret
 exact ⟨dn_, dr_⟩

/-! ### keys_asks: function 37 -/
section
/-! ### the builtin clear over a row of cells -/
/-- keys.asks: a key that asks locks; the one that clears empties all cells. -/
def keys_asks.f (k : Nat) (b c : Int) (a : List (S55)) (d : Int) (e g : Bool) (a1 : Int) : Option (Int × Int × (List (S55)) × Int × Bool × Bool × Bool × Option Er × List S206) :=
 (attr_Aid.f k a1).bind fun t => if t = true then (if e = true then some (b, c, a, d, e, g, false, some (Er.num 7), []) else (if a.length ≤ 16383 then (if a1 = 109 then (if 0 < a.length then some (b, c, List.replicate a.length z55, 0, true, false, true, none, []) else none) else some (b, c, a, d, true, false, true, none, [])) else none)) else some (b, c, a, d, e, g, false, some (Er.num 3), [])
theorem keys_asks.mono (a0 a1 : Int) (a : List (S55)) (b : Int) (a4 c : Bool) (d : Int) (k : Nat) : LeO (keys_asks.f k a0 a1 a b a4 c d) (keys_asks.f (k + 1) a0 a1 a b a4 c d) := by
 unfold keys_asks.f; exact LeO.bind (attr_Aid.mono _ _) (fun _ => LeO.refl _)
theorem keys_asks.callsB (k : Nat) (l m : Int) (P : Nat → Prop) (I : Option Addr) (J : Nat) (c : List (S55)) (o : Int) (M q : Bool) (a1 r1 r2 : Int) (r3 : List (S55)) (r4 : Int) (r5 r6 r7 : Bool) (r8 : Option Er) (r9 : List S206) (w : World) (S : Kd.V k55 55 w w.heap.size (fun k_ => P k_) (.slice I c.length J) c) (h : keys_asks.f k l m c o M q a1 = some (r1, r2, r3, r4, r5, r6, r7, r8, r9)) :
  Calls Tryz.prog 37 #[.agg #[.int .i64 l, .int .i64 m, .slice I c.length J, .int .i64 o, .bool M, .bool q], .int .u8 a1] w fun e w' => ∃ W Y : Value, e = .returned (.tuple #[.agg #[.int .i64 r1, .int .i64 r2, W, .int .i64 r4, .bool r5, .bool r6], .bool r7, errW Y r8]) ∧ Aside0 (Kd.V k55 55 w' w.heap.size (fun k_ => (P k_ ∨ w.heap.size ≤ k_)) W r3 ∧ (r8 = none → Kd.R k55 55 w' w.heap.size (fun k_ => w.heap.size ≤ k_) W r3)) ∧ Aside0 (∀ ok, Kd.V k206 206 w' w.heap.size ok Y r9) ∧ Below w.heap.size w w' := by
 unfold keys_asks.f at h
 obtain ⟨t, hA, h⟩ := Option.bind_eq_some_iff.mp h
 have HA := Z hA
 have HS := Z (show Kd.V k55 55 w w.heap.size P (.slice I c.length J) c from S)
 have HB := Z (Below.refl w.heap.size w)
 have hu := Tryz.underlying24
 have ak := Tryz.underlying55
 have al := Tryz.underlying34
 clear hA S
 cases t with
 | false =>
  simp only [Bool.false_eq_true, if_false, Option.some.injEq, Prod.mk.injEq] at h
  obtain ⟨rfl, rfl, rfl, rfl, rfl, rfl, rfl, rfl, rfl⟩ := h
  go_enter Tryz.func37, Tryz.ntmps37
  go_wp2_with (first | ((with_reducible refine gD_ 2 rfl ?_); refine bx_ 2 24 #[.int .i64 l, .int .i64 m, .slice I c.length J, .int .i64 o, .bool M, .bool q] ?_; intro s hg w1 hbox hb; have r := ve' HS hg hb; have g := bs_ hb; have i := Z hbox; have j := Z (le_new hg (below_size bl_) : w.heap.size ≤ s); clear HB HS; have HS := r; have HB := g; have a := i; have T := j; clear r g i j hb hbox hg) | ((with_reducible refine gD_ 4 rfl ?_); refine bx_ 4 24 zS_ ?_; intro K hg w2 hbox hb; have r := ve' HS hg hb; have g := kb' a hb; have i := bs_ hb; have j := Z hbox; have n := Z (le_new hg (below_size bl_) : w.heap.size ≤ K); have L := nl' a hg; clear HS a HB; have HS := r; have a := g; have HB := i; have d := j; have U := n; have NB := L; clear r g i j n L hb hbox hg; have hnb := NB.out; have hnc := NB.out.symm; have z0 := cells6 a.out; have C := cells6 d.out) | ((with_reducible refine gF_ 68 rfl ?_); refine gd_ (some 9) Tryz.func68 (attr_Aid.calls k a1 false _ HA.out) ?_; rintro e w3 ⟨rfl, hd⟩; refine ⟨_, rfl, ?_⟩; have hb := hd.below; clear hd; replace HS := vb' HS hb; replace a := kb' a hb; replace d := kb' d hb; replace HB := bs_ hb; clear hb z0 C; have z0 := cells6 a.out; have C := cells6 d.out))
  refine rc3_ (put6 d.out) Tryz.underlying24 ?_
  exact ⟨_, .slice none 0 0, rfl, (by first | exact ⟨V_off HS.out im_ off2_ (fun _ hk => .inl hk.1.1), fun h_ => by cases h_⟩ | exact ⟨⟨V_off HS.out im_ off2_ (fun _ hk => .inl hk.1.1), fun h_ => by cases h_⟩⟩ | exact ⟨V_off HS.out im_ off2_ (fun _ hk => .inl hk.1.1)⟩), ⟨fun _ => Kd.V_nil _ _ _ _ _⟩, bl_⟩
 | true =>
  rw [if_pos rfl] at h
  cases M with
  | true =>
   simp only [if_true, Option.some.injEq, Prod.mk.injEq] at h
   obtain ⟨rfl, rfl, rfl, rfl, rfl, rfl, rfl, rfl, rfl⟩ := h
   go_enter Tryz.func37, Tryz.ntmps37
   go_wp2_with (first | ((with_reducible refine gD_ 2 rfl ?_); refine bx_ 2 24 #[.int .i64 l, .int .i64 m, .slice I c.length J, .int .i64 o, .bool true, .bool q] ?_; intro s hg w1 hbox hb; have r := ve' HS hg hb; have g := bs_ hb; have i := Z hbox; have j := Z (le_new hg (below_size bl_) : w.heap.size ≤ s); clear HB HS; have HS := r; have HB := g; have a := i; have T := j; clear r g i j hb hbox hg) | ((with_reducible refine gD_ 4 rfl ?_); refine bx_ 4 24 zS_ ?_; intro K hg w2 hbox hb; have r := ve' HS hg hb; have g := kb' a hb; have i := bs_ hb; have j := Z hbox; have n := Z (le_new hg (below_size bl_) : w.heap.size ≤ K); have L := nl' a hg; clear HS a HB; have HS := r; have a := g; have HB := i; have d := j; have U := n; have NB := L; clear r g i j n L hb hbox hg; have hnb := NB.out; have hnc := NB.out.symm; have z0 := cells6 a.out; have C := cells6 d.out) | ((with_reducible refine gF_ 68 rfl ?_); refine gd_ (some 9) Tryz.func68 (attr_Aid.calls k a1 true _ HA.out) ?_; rintro e w3 ⟨rfl, hd⟩; refine ⟨_, rfl, ?_⟩; have hb := hd.below; clear hd; replace HS := vb' HS hb; replace a := kb' a hb; replace d := kb' d hb; replace HB := bs_ hb; clear hb z0 C; have z0 := cells6 a.out; have C := cells6 d.out))
   refine rc3_ (put6 d.out) Tryz.underlying24 ?_
   exact ⟨_, .slice none 0 0, rfl, (by first | exact ⟨V_off HS.out im_ off2_ (fun _ hk => .inl hk.1.1), fun h_ => by cases h_⟩ | exact ⟨⟨V_off HS.out im_ off2_ (fun _ hk => .inl hk.1.1), fun h_ => by cases h_⟩⟩ | exact ⟨V_off HS.out im_ off2_ (fun _ hk => .inl hk.1.1)⟩), ⟨fun _ => Kd.V_nil _ _ _ _ _⟩, bl_⟩
  | false =>
   rw [if_neg (by decide)] at h
   by_cases hn : c.length ≤ 16383
   rotate_left
   ·rw [if_neg hn] at h; cases h
   rw [if_pos hn] at h
   have HC := Z (show grid_Copy.f l m c o false q = some (l, m, c, o, false, q) by unfold grid_Copy.f slices_Clone_shutter_api_Cell_shutter_api_Cell.f; rw [if_pos hn]; rfl)
   clear hn
   by_cases O : a1 = 109
   ·rw [if_pos O] at h
    by_cases hp : 0 < c.length
    ·rw [if_pos hp] at h
     simp only [Option.some.injEq, Prod.mk.injEq] at h
     obtain ⟨rfl, rfl, rfl, rfl, rfl, rfl, rfl, rfl, rfl⟩ := h
     have HP := Z hp
     subst O
     clear hp
     go_enter Tryz.func37, Tryz.ntmps37
     go_wp2_with (first | ((with_reducible refine gD_ 2 rfl ?_); refine bx_ 2 24 #[.int .i64 l, .int .i64 m, .slice I c.length J, .int .i64 o, .bool false, .bool q] ?_; intro s hg w1 hbox hb; have r := ve' HS hg hb; have g := bs_ hb; have i := Z hbox; have j := Z (le_new hg (below_size bl_) : w.heap.size ≤ s); clear HB HS; have HS := r; have HB := g; have a := i; have T := j; clear r g i j hb hbox hg) | ((with_reducible refine gD_ 4 rfl ?_); refine bx_ 4 24 zS_ ?_; intro K hg w2 hbox hb; have r := ve' HS hg hb; have g := kb' a hb; have i := bs_ hb; have j := Z hbox; have n := Z (le_new hg (below_size bl_) : w.heap.size ≤ K); have L := nl' a hg; clear HS a HB; have HS := r; have a := g; have HB := i; have d := j; have U := n; have NB := L; clear r g i j n L hb hbox hg; have hnb := NB.out; have hnc := NB.out.symm; have z0 := cells6 a.out; have C := cells6 d.out) | ((with_reducible refine gF_ 68 rfl ?_); refine gd_ (some 9) Tryz.func68 (attr_Aid.calls k 109 true _ HA.out) ?_; rintro e w3 ⟨rfl, hd⟩; refine ⟨_, rfl, ?_⟩; have hb := hd.below; clear hd; replace HS := vb' HS hb; replace a := kb' a hb; replace d := kb' d hb; replace HB := bs_ hb; clear hb z0 C; have z0 := cells6 a.out; have C := cells6 d.out) | ((with_reducible refine gF_ 21 rfl ?_); refine gd_ (some 19) Tryz.func21 (grid_Copy.calls l m _ _ c o false q l m c o false q _ ((Kd.V_reads' HS.out).2.2) (vL_ HS) HC.out) ?_; rintro e w4 ⟨v1, rfl, Q, hb⟩; refine ⟨_, rfl, ?_⟩; have HO := Z (Kd.R_lower Q (below_size bl_)); replace a := kb' a hb; replace d := kb' d hb; replace HB := bs_ hb; clear HS Q hb z0 C; have z0 := cells6 a.out; obtain ⟨Ao, co, eo⟩ := Kd.R_slice HO.out; subst eo) | ((with_reducible refine gate_store (t := 24) (p := 2) rfl ?_); refine sx_ 24 2 ((((((w4.setCell ⟨s, 0, none⟩ (.int .i64 l)).setCell ⟨s, 1, none⟩ (.int .i64 m)).setCell ⟨s, 2, none⟩ (.slice Ao c.length co)).setCell ⟨s, 3, none⟩ (.int .i64 o)).setCell ⟨s, 4, none⟩ (.bool false)).setCell ⟨s, 5, none⟩ (.bool q)) ?_; intro w5 hw; replace HO : Aside0 (Kd.R k55 55 w5 w.heap.size (fun _ => True) (.slice Ao c.length co) c) := ⟨by rw [hw]; exact R_off HO.out a.out (by decide) off2_⟩; replace a : Aside0 (w5.heap[s]? = some (.cells #[.int .i64 l, .int .i64 m, .slice Ao c.length co, .int .i64 o, .bool false, .bool q] 24 (0, 0))) := ⟨by rw [hw]; exact put6 a.out⟩; replace d : Aside0 (w5.heap[K]? = some (.cells zS_ 24 (0, 0))) := ⟨by rw [hw]; exact blk_off d.out NB.out.symm off2_⟩; replace HB : Aside0 (Below w.heap.size w w5) := ⟨by rw [hw]; exact bl_⟩; clear hw z0; have z0 := cells6 a.out; have C := cells6 d.out) | ((with_reducible refine gate_store (t := 4) (p := 20) rfl ?_); refine sx_ 4 20 (w5.setCell ⟨s, 4, none⟩ (.bool true)) ?_; intro w6 hw; replace HO : Aside0 (Kd.R k55 55 w6 w.heap.size (fun _ => True) (.slice Ao c.length co) c) := ⟨by rw [hw]; exact R_off HO.out a.out (by decide) off2_⟩; replace a : Aside0 (w6.heap[s]? = some (.cells #[.int .i64 l, .int .i64 m, .slice Ao c.length co, .int .i64 o, .bool true, .bool q] 24 (0, 0))) := ⟨by rw [hw]; exact blk_put (cs := #[.int .i64 l, .int .i64 m, .slice Ao c.length co, .int .i64 o, .bool false, .bool q]) a.out 4 _ rfl⟩; replace d : Aside0 (w6.heap[K]? = some (.cells zS_ 24 (0, 0))) := ⟨by rw [hw]; exact blk_off d.out NB.out.symm off2_⟩; replace HB : Aside0 (Below w.heap.size w w6) := ⟨by rw [hw]; exact bl_⟩; clear hw z0 C; have z0 := cells6 a.out; have C := cells6 d.out) | ((with_reducible refine gate_store (t := 4) (p := 21) rfl ?_); refine sx_ 4 21 (w6.setCell ⟨s, 5, none⟩ (.bool false)) ?_; intro w7 hw; replace HO : Aside0 (Kd.R k55 55 w7 w.heap.size (fun _ => True) (.slice Ao c.length co) c) := ⟨by rw [hw]; exact R_off HO.out a.out (by decide) off2_⟩; replace a : Aside0 (w7.heap[s]? = some (.cells #[.int .i64 l, .int .i64 m, .slice Ao c.length co, .int .i64 o, .bool true, .bool false] 24 (0, 0))) := ⟨by rw [hw]; exact blk_put (cs := #[.int .i64 l, .int .i64 m, .slice Ao c.length co, .int .i64 o, .bool true, .bool q]) a.out 5 _ rfl⟩; replace d : Aside0 (w7.heap[K]? = some (.cells zS_ 24 (0, 0))) := ⟨by rw [hw]; exact blk_off d.out NB.out.symm off2_⟩; replace HB : Aside0 (Below w.heap.size w w7) := ⟨by rw [hw]; exact bl_⟩; clear hw z0 C; have z0 := cells6 a.out; have C := cells6 d.out; obtain ⟨go, co', eo', gb, gl, cl, HG⟩ := Kd.R_form HO.out HP.out; (first | cases eo' | (injection eo' with ea_ en_ ec_; (first | subst ea_ | (injection ea_ with ea_; subst ea_)); subst ec_; clear en_)); have HCl := Z (clear_R HO.out c.length (Nat.le_refl _)); have HCb := Z (HB.out.grown HCl.out.2 HB.out.size (fun k_ e_ => by injection e_ with e_; rw [← e_]; exact gb)); have HZ := clear_run HO.out; clear gb gl HG) | ((with_reducible refine gate_builtin (b := .clear) (xs := #[.tmp 25]) rfl ?_); refine Kd.event_run (v := .tuple #[]) (w1 := w7.setCells go 0 (zl c.length)) rfl ?hr ?_; (case hr => (have hz_ := HZ; go_simp; first | done | rfl)); have g := Z (show Kd.R k55 55 (w7.setCells go 0 (zl c.length)) w.heap.size (fun _ => True) (.slice (some ⟨go, 0, none⟩) c.length co) (List.replicate c.length z55) by (have h_ := Kd.R_mono (ok' := fun _ => True) HCl.out.1 (fun _ _ => trivial); rw [List.drop_eq_nil_of_le (Nat.le_refl _), List.append_nil] at h_; exact h_)); have i := Z (blk_grown a.out HCl.out.2 (Kd.R_ne HO.out a.out (by decide))); have j := Z (blk_grown d.out HCl.out.2 (Kd.R_ne HO.out d.out (by decide))); have n := Z (HCb.out : Below w.heap.size w (w7.setCells go 0 (zl c.length))); generalize w7.setCells go 0 (zl c.length) = w8 at g i j n ⊢; clear HO a d HB z0 C; have HO := g; have a := i; have d := j; have HB := n; clear g i j n; have z0 := cells6 a.out; have C := cells6 d.out) | ((with_reducible refine gate_store (t := 3) (p := 26) rfl ?_); refine sx_ 3 26 (w8.setCell ⟨s, 3, none⟩ (.int .i64 0)) ?_; intro X hw; replace HO : Aside0 (Kd.R k55 55 X w.heap.size (fun _ => True) (.slice (some ⟨go, 0, none⟩) c.length co) (List.replicate c.length z55)) := ⟨by rw [hw]; exact R_off HO.out a.out (by decide) off2_⟩; replace a : Aside0 (X.heap[s]? = some (.cells #[.int .i64 l, .int .i64 m, .slice (some ⟨go, 0, none⟩) c.length co, .int .i64 0, .bool true, .bool false] 24 (0, 0))) := ⟨by rw [hw]; exact blk_put (cs := #[.int .i64 l, .int .i64 m, .slice (some ⟨go, 0, none⟩) c.length co, .int .i64 o, .bool true, .bool false]) a.out 3 _ rfl⟩; replace d : Aside0 (X.heap[K]? = some (.cells zS_ 24 (0, 0))) := ⟨by rw [hw]; exact blk_off d.out NB.out.symm off2_⟩; replace HB : Aside0 (Below w.heap.size w X) := ⟨by rw [hw]; exact bl_⟩; clear hw z0 C; have z0 := cells6 a.out; have C := cells6 d.out))
     refine rc3_ (put6 d.out) Tryz.underlying24 ?_
     (have HO := HO; exact ⟨_, .slice none 0 0, rfl, ⟨⟨Kd.V_mono (Kd.R_V (Kd.R_reok (ok := fun k_ => w.heap.size ≤ k_) rfl (R_off HO.out d.out (by decide) off2_) (fun k_ e_ => Kd.R_base (R_off HO.out d.out (by decide) off2_) k_ e_))) (fun _ hk => .inr hk), by first | exact fun _ => Kd.R_reok (ok := fun k_ => w.heap.size ≤ k_) rfl (R_off HO.out d.out (by decide) off2_) (fun k_ e_ => Kd.R_base (R_off HO.out d.out (by decide) off2_) k_ e_) | exact Kd.R_reok (ok := fun k_ => w.heap.size ≤ k_) rfl (R_off HO.out d.out (by decide) off2_) (fun k_ e_ => Kd.R_base (R_off HO.out d.out (by decide) off2_) k_ e_)⟩⟩, ⟨fun _ => Kd.V_nil _ _ _ _ _⟩, bl_⟩)
    rw [if_neg hp] at h; cases h
   rw [if_neg O] at h
   simp only [Option.some.injEq, Prod.mk.injEq] at h
   obtain ⟨rfl, rfl, rfl, rfl, rfl, rfl, rfl, rfl, rfl⟩ := h
   have aj : (a1 == 109) = false := beq_eq_false_iff_ne.mpr O
   clear O
   go_enter Tryz.func37, Tryz.ntmps37
   go_wp2_with (first | ((with_reducible refine gD_ 2 rfl ?_); refine bx_ 2 24 #[.int .i64 l, .int .i64 m, .slice I c.length J, .int .i64 o, .bool false, .bool q] ?_; intro s hg w1 hbox hb; have r := ve' HS hg hb; have g := bs_ hb; have i := Z hbox; have j := Z (le_new hg (below_size bl_) : w.heap.size ≤ s); clear HB HS; have HS := r; have HB := g; have a := i; have T := j; clear r g i j hb hbox hg) | ((with_reducible refine gD_ 4 rfl ?_); refine bx_ 4 24 zS_ ?_; intro K hg w2 hbox hb; have r := ve' HS hg hb; have g := kb' a hb; have i := bs_ hb; have j := Z hbox; have n := Z (le_new hg (below_size bl_) : w.heap.size ≤ K); have L := nl' a hg; clear HS a HB; have HS := r; have a := g; have HB := i; have d := j; have U := n; have NB := L; clear r g i j n L hb hbox hg; have hnb := NB.out; have hnc := NB.out.symm; have z0 := cells6 a.out; have C := cells6 d.out) | ((with_reducible refine gF_ 68 rfl ?_); refine gd_ (some 9) Tryz.func68 (attr_Aid.calls k a1 true _ HA.out) ?_; rintro e w3 ⟨rfl, hd⟩; refine ⟨_, rfl, ?_⟩; have hb := hd.below; clear hd; replace HS := vb' HS hb; replace a := kb' a hb; replace d := kb' d hb; replace HB := bs_ hb; clear hb z0 C; have z0 := cells6 a.out; have C := cells6 d.out) | ((with_reducible refine gF_ 21 rfl ?_); refine gd_ (some 19) Tryz.func21 (grid_Copy.calls l m _ _ c o false q l m c o false q _ ((Kd.V_reads' HS.out).2.2) (vL_ HS) HC.out) ?_; rintro e w4 ⟨v1, rfl, Q, hb⟩; refine ⟨_, rfl, ?_⟩; have HO := Z (Kd.R_lower Q (below_size bl_)); replace a := kb' a hb; replace d := kb' d hb; replace HB := bs_ hb; clear HS Q hb z0 C; have z0 := cells6 a.out; obtain ⟨Ao, co, eo⟩ := Kd.R_slice HO.out; subst eo) | ((with_reducible refine gate_store (t := 24) (p := 2) rfl ?_); refine sx_ 24 2 ((((((w4.setCell ⟨s, 0, none⟩ (.int .i64 l)).setCell ⟨s, 1, none⟩ (.int .i64 m)).setCell ⟨s, 2, none⟩ (.slice Ao c.length co)).setCell ⟨s, 3, none⟩ (.int .i64 o)).setCell ⟨s, 4, none⟩ (.bool false)).setCell ⟨s, 5, none⟩ (.bool q)) ?_; intro w5 hw; replace HO : Aside0 (Kd.R k55 55 w5 w.heap.size (fun _ => True) (.slice Ao c.length co) c) := ⟨by rw [hw]; exact R_off HO.out a.out (by decide) off2_⟩; replace a : Aside0 (w5.heap[s]? = some (.cells #[.int .i64 l, .int .i64 m, .slice Ao c.length co, .int .i64 o, .bool false, .bool q] 24 (0, 0))) := ⟨by rw [hw]; exact put6 a.out⟩; replace d : Aside0 (w5.heap[K]? = some (.cells zS_ 24 (0, 0))) := ⟨by rw [hw]; exact blk_off d.out NB.out.symm off2_⟩; replace HB : Aside0 (Below w.heap.size w w5) := ⟨by rw [hw]; exact bl_⟩; clear hw z0; have z0 := cells6 a.out; have C := cells6 d.out) | ((with_reducible refine gate_store (t := 4) (p := 20) rfl ?_); refine sx_ 4 20 (w5.setCell ⟨s, 4, none⟩ (.bool true)) ?_; intro w6 hw; replace HO : Aside0 (Kd.R k55 55 w6 w.heap.size (fun _ => True) (.slice Ao c.length co) c) := ⟨by rw [hw]; exact R_off HO.out a.out (by decide) off2_⟩; replace a : Aside0 (w6.heap[s]? = some (.cells #[.int .i64 l, .int .i64 m, .slice Ao c.length co, .int .i64 o, .bool true, .bool q] 24 (0, 0))) := ⟨by rw [hw]; exact blk_put (cs := #[.int .i64 l, .int .i64 m, .slice Ao c.length co, .int .i64 o, .bool false, .bool q]) a.out 4 _ rfl⟩; replace d : Aside0 (w6.heap[K]? = some (.cells zS_ 24 (0, 0))) := ⟨by rw [hw]; exact blk_off d.out NB.out.symm off2_⟩; replace HB : Aside0 (Below w.heap.size w w6) := ⟨by rw [hw]; exact bl_⟩; clear hw z0 C; have z0 := cells6 a.out; have C := cells6 d.out) | ((with_reducible refine gate_store (t := 4) (p := 21) rfl ?_); refine sx_ 4 21 (w6.setCell ⟨s, 5, none⟩ (.bool false)) ?_; intro w7 hw; replace HO : Aside0 (Kd.R k55 55 w7 w.heap.size (fun _ => True) (.slice Ao c.length co) c) := ⟨by rw [hw]; exact R_off HO.out a.out (by decide) off2_⟩; replace a : Aside0 (w7.heap[s]? = some (.cells #[.int .i64 l, .int .i64 m, .slice Ao c.length co, .int .i64 o, .bool true, .bool false] 24 (0, 0))) := ⟨by rw [hw]; exact blk_put (cs := #[.int .i64 l, .int .i64 m, .slice Ao c.length co, .int .i64 o, .bool true, .bool q]) a.out 5 _ rfl⟩; replace d : Aside0 (w7.heap[K]? = some (.cells zS_ 24 (0, 0))) := ⟨by rw [hw]; exact blk_off d.out NB.out.symm off2_⟩; replace HB : Aside0 (Below w.heap.size w w7) := ⟨by rw [hw]; exact bl_⟩; clear hw z0 C; have z0 := cells6 a.out; have C := cells6 d.out))
   refine rc3_ (put6 d.out) Tryz.underlying24 ?_
   exact ⟨_, .slice none 0 0, rfl, ⟨⟨Kd.V_mono (Kd.R_V (Kd.R_reok (ok := fun k_ => w.heap.size ≤ k_) rfl (R_off HO.out d.out (by decide) off2_) (fun k_ e_ => Kd.R_base (R_off HO.out d.out (by decide) off2_) k_ e_))) (fun _ hk => .inr hk), by first | exact fun _ => Kd.R_reok (ok := fun k_ => w.heap.size ≤ k_) rfl (R_off HO.out d.out (by decide) off2_) (fun k_ e_ => Kd.R_base (R_off HO.out d.out (by decide) off2_) k_ e_) | exact Kd.R_reok (ok := fun k_ => w.heap.size ≤ k_) rfl (R_off HO.out d.out (by decide) off2_) (fun k_ e_ => Kd.R_base (R_off HO.out d.out (by decide) off2_) k_ e_)⟩⟩, ⟨fun _ => Kd.V_nil _ _ _ _ _⟩, bl_⟩
theorem keys_asks.calls (k : Nat) (d g : Int) (a : Nat → Prop) (c : Option Addr) (m : Nat) (b : List (S55)) (i : Int) (j l : Bool) (a1 q r : Int) (s : List (S55)) (t : Int) (u v x : Bool) (r8 : Option Er) (r9 : List S206) (w : World) (n : Kd.V k55 55 w w.heap.size (fun k_ => a k_) (.slice c b.length m) b) (h : keys_asks.f k d g b i j l a1 = some (q, r, s, t, u, v, x, r8, r9)) :
  Calls Tryz.prog 37 #[.agg #[.int .i64 d, .int .i64 g, .slice c b.length m, .int .i64 i, .bool j, .bool l], .int .u8 a1] w fun e w' => ∃ o p : Value, e = .returned (.tuple #[.agg #[.int .i64 q, .int .i64 r, o, .int .i64 t, .bool u, .bool v], .bool x, errW p r8]) ∧ Kd.V k55 55 w' w.heap.size (fun k_ => (a k_ ∨ w.heap.size ≤ k_)) o s ∧ Kd.V k206 206 w' w.heap.size (fun k_ => (a k_ ∨ w.heap.size ≤ k_)) p r9 ∧ Below w.heap.size w w' := by
 refine (keys_asks.callsB k d g a c m b i j l a1 q r s t u v x r8 r9 w n h).mono ?_
 rintro e w' ⟨A, B, he, y, z, hb⟩
 exact ⟨A, B, he, y.out.1, z.out _, hb⟩
theorem keys_asks.callsN (k : Nat) (d g : Int) (b : Nat → Prop) (c : Option Addr) (m : Nat) (a : List (S55)) (i : Int) (j l : Bool) (a1 q r : Int) (s : List (S55)) (t : Int) (u v x : Bool) (r9 : List S206) (w : World) (o : Kd.V k55 55 w w.heap.size (fun k_ => b k_) (.slice c a.length m) a) (h : keys_asks.f k d g a i j l a1 = some (q, r, s, t, u, v, x, (none : Option Er), r9)) :
  Calls Tryz.prog 37 #[.agg #[.int .i64 d, .int .i64 g, .slice c a.length m, .int .i64 i, .bool j, .bool l], .int .u8 a1] w fun e w' => ∃ n p : Value, e = .returned (.tuple #[.agg #[.int .i64 q, .int .i64 r, n, .int .i64 t, .bool u, .bool v], .bool x, errW p (none : Option Er)]) ∧ Kd.R k55 55 w' w.heap.size (fun k_ => (w.heap.size ≤ k_)) n s ∧ Kd.V k206 206 w' w.heap.size (fun k_ => (b k_ ∨ w.heap.size ≤ k_) ∧ some k_ ≠ (n : Value).ownBlock) p r9 ∧ Below w.heap.size w w' := by
 refine (keys_asks.callsB k d g b c m a i j l a1 q r s t u v x none r9 w o h).mono ?_
 rintro e w' ⟨A, B, he, y, z, hb⟩
 exact ⟨A, B, he, y.out.2 rfl, z.out _, hb⟩
end

/-! ### move_Moves: function 69 -/
def move_Moves.f (a0 : Int) : Option (Bool) := if a0 ≥ 2 then (some (decide (a0 ≤ 9))) else (some false)
theorem move_Moves.calls (a0 : Int) (r : Bool) (w : World) (h : move_Moves.f a0 = some r) :
  Calls Tryz.prog 69 #[.int .i64 a0] w fun e w' => e = .returned (.bool r) ∧ Drawn0 w w' := by
 unfold move_Moves.f at h
 have H := h
 clear h
 by_cases c2 : a0 ≥ 2
 ·rw [if_pos c2] at H
  have a : decide (2 ≤ a0) = true := decide_eq_true c2
  clear c2
  obtain rfl := Option.some.inj H
  go_enter Tryz.func69, Tryz.ntmps69
  go_wp2
  go_ret
  exact ⟨dn_, dr_⟩
 rw [if_neg c2] at H
 have a : decide (2 ≤ a0) = false := decide_eq_false c2
 clear c2
 obtain rfl := Option.some.inj H
 go_enter Tryz.func69, Tryz.ntmps69
 go_wp2
 go_ret
 exact ⟨dn_, dr_⟩

/-! ### grid_On: function 125 -/
def grid_On.f (b c : Int) (a : List (S55)) (d : Int) (e g : Bool) (a1 h : Int) : Option (Int) := if (a.length : Int) = 0 then (none) else (some (Int.tmod (wrap64 ((wrap64 (a1 + (Int.tmod h (a.length : Int)))) + (a.length : Int))) (a.length : Int)))
theorem grid_On.calls (c d : Int) (b : Option Addr) (k : Nat) (a : List (S55)) (g : Int) (i j : Bool) (a1 v r : Int) (w : World) (n : Kd.C k55 w b a.length a) (m : a.length ≤ k) (h : grid_On.f c d a g i j a1 v = some r) :
  Calls Tryz.prog 125 #[.agg #[.int .i64 c, .int .i64 d, .slice b a.length k, .int .i64 g, .bool i, .bool j], .int .i64 a1, .int .i64 v] w fun e w' => e = .returned (.int .i64 r) ∧ Below w.heap.size w w' := by
 have T := Tryz.underlying24
 have P := Z n
 have O := Z m
 clear n m
 have HB := Z (Below.refl w.heap.size w)
 unfold grid_On.f at h
 have H := h
 clear h
 obtain ⟨c4, H⟩ := gf_ H
 obtain ⟨Q, R⟩ := eF_ c4
 have S : ¬ (a = []) := fun h_ => c4 (by rw [h_]; rfl)
 obtain rfl := Option.some.inj H
 go_enter Tryz.func125, Tryz.ntmps125
 go_wp2_with (first | ((with_reducible refine gD_ 3 rfl ?_); refine bx_ 3 24 #[.int .i64 c, .int .i64 d, .slice b a.length k, .int .i64 g, .bool i, .bool j] ?_; intro l hg w5 hbox hb; have o := Z hbox; have M := ln' w hg; replace HB := bs_ hb; clear hb hbox hg; have x := cells6 o.out))
 go_ret
 exact ⟨er_, bl_⟩

/-! ### field_Begin: function 126 -/
section
open Go.Shelf
attribute [local go_sem] Oper.semAt_some

def isF (l : List S55) (i : Int) : Bool := (rd_T55 l i).f0
def findW (p : Int → Bool) (g : Nat → Int) : Nat → Nat → Int
 | 0, _ => -1
 | c + 1, s => if p (g s) = true then g s else findW p g c (s + 1)
theorem findW_eq (p : Int → Bool) (g : Nat → Int) : ∀ c s j, s ≤ j → j < s + c → p (g j) = true → (∀ i, s ≤ i → i < j → p (g i) = false) → findW p g c s = g j
 | 0, s, j, d, f, _, _ => by omega
 | c + 1, s, j, d, f, hp, hn => by
  unfold findW
  by_cases e : s = j
  ·subst e; rw [if_pos hp]
  ·rw [if_neg (by rw [hn s (Nat.le_refl _) (by omega)]; decide)]
   exact findW_eq p g c (s + 1) j (by omega) (by omega) hp (fun i a b => hn i (by omega) b)
theorem findW_none (p : Int → Bool) (g : Nat → Int) : ∀ c s, (∀ i, s ≤ i → i < s + c → p (g i) = false) → findW p g c s = -1
 | 0, s, _ => rfl
 | c + 1, s, hn => by
  unfold findW
  rw [if_neg (by rw [hn s (Nat.le_refl _) (by omega)]; decide)]
  exact findW_none p g c (s + 1) (fun i a b => hn i (by omega) (by omega))
theorem findW_cases (p : Int → Bool) (g : Nat → Int) : ∀ c s, (findW p g c s = -1 ∧ ∀ i, s ≤ i → i < s + c → p (g i) = false) ∨ ∃ j, s ≤ j ∧ j < s + c ∧ p (g j) = true ∧ (∀ i, s ≤ i → i < j → p (g i) = false) ∧ findW p g c s = g j
 | 0, s => .inl ⟨rfl, fun i a b => by omega⟩
 | c + 1, s => by
  unfold findW
  by_cases e : p (g s) = true
  ·exact .inr ⟨s, Nat.le_refl _, by omega, e, fun i a b => by omega, by rw [if_pos e]⟩
  ·rw [if_neg e]
   rcases findW_cases p g c (s + 1) with ⟨d, f⟩ | ⟨j, d, f, h, k, l⟩
   ·exact .inl ⟨d, fun i a b => by
     by_cases ei : i = s
     ·subst ei; simpa using e
     ·exact f i (by omega) (by omega)⟩
   ·exact .inr ⟨j, by omega, by omega, h, fun i a b => by
     by_cases ei : i = s
     ·subst ei; simpa using e
     ·exact k i (by omega) b, l⟩

/-- where the field begins that a cell lies in -/
def beginI (l : List S55) (a : Int) : Int := findW (isF l) (fun j => (a - j) % (l.length : Int)) l.length 0

theorem begin_range (l : List S55) (a : Int) (hp : 0 < l.length) : beginI l a = -1 ∨ (0 ≤ beginI l a ∧ beginI l a < l.length ∧ isF l (beginI l a) = true) := by
 rcases findW_cases (isF l) (fun j => (a - j) % (l.length : Int)) l.length 0 with ⟨h, _⟩ | ⟨j, _, _, b, _, h⟩
 ·exact .inl h
 ·right
  unfold beginI
  rw [h]
  exact ⟨Int.emod_nonneg _ (by omega), Int.emod_lt_of_pos _ (by omega), b⟩

theorem begin_here (l : List S55) (a : Int) (c : 0 ≤ a) (d : a < l.length) (h : isF l a = true) : beginI l a = a := by
 have e : (a - ((0 : Nat) : Int)) % (l.length : Int) = a := by simp; exact Int.emod_eq_of_lt c d
 have := findW_eq (isF l) (fun j => (a - j) % (l.length : Int)) l.length 0 0 (by omega) (by omega) (by show isF l ((a - ((0 : Nat) : Int)) % (l.length : Int)) = true; rw [e]; exact h) (fun i a b => by omega)
 rw [beginI, this]; exact e
theorem way_back (n : Nat) (a : Int) (j : Nat) : wayI n a (-1) j = (a - ((j + 1 : Nat) : Int)) % (n : Int) := by
 unfold wayI sgnI; simp; congr 1; omega
theorem begin_way (l : List S55) (a : Int) (c : 0 ≤ a) (d : a < l.length) (h : isF l a = false) (k : Nat) (hk : k < l.length) (hp : isF l (wayI l.length a (-1) k) = true) (hn : ∀ i, i < k → isF l (wayI l.length a (-1) i) = false) : beginI l a = wayI l.length a (-1) k := by
 have hkn : k + 1 < l.length := by
  rcases Nat.lt_or_ge (k + 1) l.length with h' | h'
  ·exact h'
  ·have ek : k + 1 = l.length := by omega
   have : wayI l.length a (-1) k = a := by
    rw [way_back, ek, Int.sub_emod_right]; exact Int.emod_eq_of_lt c d
   rw [this, h] at hp; exact absurd hp (by decide)
 have := findW_eq (isF l) (fun j => (a - j) % (l.length : Int)) l.length 0 (k + 1) (by omega) (by omega) (by show isF l ((a - ((k + 1 : Nat) : Int)) % (l.length : Int)) = true; rw [← way_back]; exact hp) (fun i _ b => by
  show isF l ((a - (i : Int)) % (l.length : Int)) = false
  rcases i with _ | i
  ·simp; rw [Int.emod_eq_of_lt c d]; exact h
  ·rw [← way_back]; exact hn i (by omega))
 rw [beginI, this]; exact (way_back _ _ _).symm
theorem begin_none (l : List S55) (a : Int) (c : 0 ≤ a) (d : a < l.length) (h : isF l a = false) (hn : ∀ i, i < l.length → isF l (wayI l.length a (-1) i) = false) : beginI l a = -1 := by
 refine findW_none _ _ _ _ (fun i _ b => ?_)
 show isF l ((a - (i : Int)) % (l.length : Int)) = false
 rcases i with _ | i
 ·simp; rw [Int.emod_eq_of_lt c d]; exact h
 ·rw [← way_back]; exact hn i (by omega)

theorem cell_f0 {w : World} {A : Option Addr} {l : List S55} (hr : Kd.C k55 w A l.length l) (i : Int) (a : 0 ≤ i) (b : i < l.length) : ∃ ad, A = some ad ∧ w.cell? (ad.add (i.toNat * 6)) = some (.bool (isF l i)) ∧ (ad.add (i.toNat * 6)).block < w.heap.size := by
 obtain ⟨ad, e, h, _⟩ := at_T55 hr i a b
 exact ⟨ad, e, h, bk_ w _ h⟩

theorem Begin_here (r c : Int) (A : Option Addr) (cp : Nat) (l : List S55) (cu : Int) (lo ins : Bool) (a : Int) (w : World) (hr : Kd.C k55 w A l.length l) (hc : l.length ≤ cp) (b : 0 ≤ a) (d : a < l.length) (hf : isF l a = true) :
  Calls Tryz.prog 126 #[.agg #[.int .i64 r, .int .i64 c, .slice A l.length cp, .int .i64 cu, .bool lo, .bool ins], .int .i64 a] w fun e w' => e = .returned (.int .i64 (beginI l a)) ∧ Below w.heap.size w w' := by
 have hb := begin_here l a b d hf
 rw [hb]
 obtain ⟨ad, rfl, hcell, hlt⟩ := cell_f0 hr a b d
 rw [hf] at hcell
 clear hf hb
 have f := Tryz.underlying24
 have g := Tryz.underlying55
 go_enter Tryz.func126, Tryz.ntmps126
 go_wp2
 refine bodyPost_ret (v := .int .i64 a) (by simp [results, Tryz.results126, go_sem]) rfl ⟨rfl, ?_⟩
 exact ((Below.refl _ w).alloc (Nat.le_refl _) _).alloc (by simp) _

theorem uptoI_last {α : Type} (f : Nat → α) (k : Nat) (ini : List α) (x : α) (h : uptoI f k = ini ++ [x]) : ∃ j, k = j + 1 ∧ ini = uptoI f j ∧ x = f j := by
 rcases k with _ | j
 ·simp [uptoI] at h
 ·rw [uptoI_succ] at h
  obtain ⟨a, b⟩ := List.append_inj' h rfl
  exact ⟨j, rfl, a.symm, by simpa using b.symm⟩
theorem mem_uptoI {α : Type} (f : Nat → α) (k j : Nat) (h : j < k) : f j ∈ uptoI f k := by
 simp only [uptoI, List.mem_map, List.mem_range]; exact ⟨j, h, rfl⟩

theorem Begin_loop (r c : Int) (A : Option Addr) (cp : Nat) (l : List S55) (cu : Int) (lo ins : Bool) (a : Int) (w : World) (hr : Kd.C k55 w A l.length l) (hc : l.length ≤ cp) (hn : l.length ≤ 16383) (d : 0 ≤ a) (f : a < l.length) (hf : isF l a = false) :
  CallsIn Fence.wide 5 Tryz.prog 126 #[.agg #[.int .i64 r, .int .i64 c, .slice A l.length cp, .int .i64 cu, .bool lo, .bool ins], .int .i64 a] w fun e w' => e = .returned (.int .i64 (beginI l a)) ∧ Below w.heap.size w w' := by
 have hpos : 0 < l.length := by omega
 obtain ⟨ad, rfl, hcell, hlt⟩ := cell_f0 hr a d f
 have Hfa := Z hf
 rw [hf] at hcell
 clear hf
 have q := Tryz.underlying24
 have t := Tryz.underlying55
 refine callsIn_of_wp_marks Tryz.func126 rfl trivial ?_ rfl
 simp only [Tryz.ntmps126, List.size_toArray, List.length_cons, List.length_nil, Nat.reduceAdd, Nat.reduceSub, Array.replicate_succ, Array.replicate_zero, List.push_toArray, List.append_toArray, List.nil_append, List.cons_append]
 gi_wp2_with (refine ⟨trivial, ?_⟩; gi_at_call 102; refine (callsIn_wide.2 (Round_exact r c _ _ cp cu lo ins a (-1) _)).mono ?_; rintro e w' ⟨rfl, rfl⟩)
 have o : Below w.heap.size w (((((w.alloc (.cells #[.int .i64 r, .int .i64 c, .slice (some ad) l.length cp, .int .i64 cu, .bool lo, .bool ins] 24)).alloc (.cells #[.int .i64 0] 3)).alloc (.cells #[.int .i64 r, .int .i64 c, .slice (some ad) l.length cp, .int .i64 cu, .bool lo, .bool ins] 24)).alloc (.cells #[.int .i64 a] 3)).alloc (.cells #[.int .i64 (-1)] 3)) :=
  (((((Below.refl _ w).alloc (Nat.le_refl _) _).alloc (by simp) _).alloc (by simp; omega) _).alloc (by simp; omega) _).alloc (by simp; omega) _
 have k1 := blk_new w (.cells #[.int .i64 r, .int .i64 c, .slice (some ad) l.length cp, .int .i64 cu, .bool lo, .bool ins] 24)
 have k2 := blk_new (w.alloc (.cells #[.int .i64 r, .int .i64 c, .slice (some ad) l.length cp, .int .i64 cu, .bool lo, .bool ins] 24)) (.cells #[.int .i64 0] 3)
 have k3 := blk_new ((w.alloc (.cells #[.int .i64 r, .int .i64 c, .slice (some ad) l.length cp, .int .i64 cu, .bool lo, .bool ins] 24)).alloc (.cells #[.int .i64 0] 3)) (.cells #[.int .i64 r, .int .i64 c, .slice (some ad) l.length cp, .int .i64 cu, .bool lo, .bool ins] 24)
 have k4 := blk_new (((w.alloc (.cells #[.int .i64 r, .int .i64 c, .slice (some ad) l.length cp, .int .i64 cu, .bool lo, .bool ins] 24)).alloc (.cells #[.int .i64 0] 3)).alloc (.cells #[.int .i64 r, .int .i64 c, .slice (some ad) l.length cp, .int .i64 cu, .bool lo, .bool ins] 24)) (.cells #[.int .i64 a] 3)
 have k5 := blk_new ((((w.alloc (.cells #[.int .i64 r, .int .i64 c, .slice (some ad) l.length cp, .int .i64 cu, .bool lo, .bool ins] 24)).alloc (.cells #[.int .i64 0] 3)).alloc (.cells #[.int .i64 r, .int .i64 c, .slice (some ad) l.length cp, .int .i64 cu, .bool lo, .bool ins] 24)).alloc (.cells #[.int .i64 a] 3)) (.cells #[.int .i64 (-1)] 3)
 simp only [World.size_alloc] at k2 k3 k4 k5
 refine wpIn_rangeFunc_ownG rfl (by omega) (gf := 128) (lb := #[.pointer (some ⟨w.heap.size + 1 + 1, 0, none⟩), .pointer (some ⟨w.heap.size + 1 + 1 + 1, 0, none⟩), .pointer (some ⟨w.heap.size + 1 + 1 + 1 + 1, 0, none⟩)]) rfl trivial (enters_of Tryz.func128 (by kernel_rfl) rfl)
  (round_stops 4 (by omega) (w.heap.size + 1 + 1) (w.heap.size + 1 + 1 + 1) (w.heap.size + 1 + 1 + 1 + 1) r c (some ad) l.length cp cu lo ins a (-1) hpos hn d f _ (blk_alloc (blk_alloc k3 _) _) (blk_alloc k4 _) k5) Keep3.trans (Keep3.put (by simp) (by simp) (by simp)) (Below.refl _ _) (fun _ => rfl)
  (fun pre W => ((∀ x ∈ pre, isF l x.1 = false) ∧ W.heap[w.heap.size]? = some (.cells #[.int .i64 r, .int .i64 c, .slice (some ad) l.length cp, .int .i64 cu, .bool lo, .bool ins] 24 (0, 0)) ∧ Boxed W (w.heap.size + 1) 3 (.int .i64 0)) ∧ Below w.heap.size w W)
  (fun c pre W => (c = .ret ∧ ∃ ini last, pre = ini ++ [last] ∧ (∀ x ∈ ini, isF l x.1 = false) ∧ isF l last.1 = true ∧ Boxed W (w.heap.size + 1) 3 (.int .i64 last.1)) ∧ Below w.heap.size w W)
  (OwnFrom.and (Own.from (fun s A B row hs hg hr => ⟨hs.1, (grownBy_keeps_cells hg hr hs.2.1 rfl).trans hs.2.1, (grownBy_keeps_cells hg hr hs.2.2 rfl).trans hs.2.2⟩) _) (ownFrom_below (Nat.le_refl _) (by simp; omega)))
  (fun c => OwnFrom.and (Own.from (fun s A B row hs hg hr => by obtain ⟨hc, ini, last, g, h, m, n⟩ := hs; exact ⟨hc, ini, last, g, h, m, (grownBy_keeps_cells hg hr n rfl).trans n⟩) _) (ownFrom_below (Nat.le_refl _) (by simp; omega)))
  ⟨⟨by simp, blk_alloc (blk_alloc (blk_alloc (blk_alloc k1 _) _) _) _, blk_alloc (blk_alloc (blk_alloc k2 _) _) _⟩, o⟩
  (fun x => { tmps := #[.agg #[.int .i64 r, .int .i64 c, .slice (some ad) l.length cp, .int .i64 cu, .bool lo, .bool ins], .int .i64 a, .pointer (some ⟨w.heap.size, 0, none⟩), undef, .pointer (some ⟨w.heap.size + 1, 0, none⟩), .int .i64 x.1, .pointer (some ⟨w.heap.size, 2, none⟩), .slice (some ad) l.length cp, .int .i64 a, .pointer (some (ad.add (a.toNat * 6))), .pointer (some (ad.add (a.toNat * 6))), .bool false, undef, .agg #[.int .i64 r, .int .i64 c, .slice (some ad) l.length cp, .int .i64 cu, .bool lo, .bool ins], .int .i64 a, .func (.func 128) #[] #[.pointer (some ⟨w.heap.size + 1 + 1, 0, none⟩), .pointer (some ⟨w.heap.size + 1 + 1 + 1, 0, none⟩), .pointer (some ⟨w.heap.size + 1 + 1 + 1 + 1, 0, none⟩)], .int .i64 x.1, undef, undef, undef, undef, undef, undef, undef], defers := [] }) ?assign ?body ?done ?stop
 case assign =>
  intro l x W K hK
  gi_wp2
  exact hK
 case body =>
  rintro lp pre x W ⟨⟨hp, hS, hR⟩, hB⟩ _
  obtain ⟨ad', e', hcx, hltx⟩ := cell_f0 hr x.1 x.2.1 x.2.2
  cases e'
  have hcW := (hB.cell hltx).trans hcx
  have u := (blk_cell hS 2).trans rfl
  have v := x.2.1
  have z := x.2.2
  have rC := hR.cell
  have rF := hR.frozen
  cases hfx : isF l x.1 with
  | true =>
   rw [hfx] at hcW
   gi_wp2
   exact ⟨(KeepsOthers.setCell _ _ _).from _, ⟨rfl, pre, x, rfl, hp, hfx, hR.set _⟩, hB.setCell (p := ⟨w.heap.size + 1, 0, none⟩) (Nat.le_succ _) _⟩
  | false =>
   rw [hfx] at hcW
   gi_wp2
   exact ⟨KeepsFrom.refl _ _, Keep3.refl _ _ _ _, ⟨fun y hy => (List.mem_append.1 hy).elim (hp y) (fun e => by simp at e; subst e; exact hfx), hS, hR⟩, hB⟩
 case done =>
  rintro D ys W hD rfl ⟨⟨hne, hS, hR⟩, hB⟩ hK
  have rC := hR.cell
  have rF := hR.frozen
  gi_wp2
  have hK' := (KeepsOthers.setCell W ⟨w.heap.size + 1, 0, none⟩ (.int .i64 (-1))).same D _ hK rfl
  refine ⟨by simp, .inl ⟨_, _, rfl, run_takeDeferred hK', ?_⟩⟩
  have b := cell_kept (hR.set (.int .i64 (-1))).cell (grownBy_putObj' _ D (.deferred none)) (fun r e => by cases e; exact ⟨_, hK', rfl⟩)
  have hE := begin_none l a d f Hfa.out (fun i hi => hne _ (mem_uptoI (wayS hpos a (-1)) l.length i hi))
  refine ⟨.int .i64 (-1), ?_, by rw [hE], (hB.setCell (p := ⟨w.heap.size + 1, 0, none⟩) (Nat.le_succ _) _).trans (belowK_b (w := w) (Nat.le_refl _) _ D _ _ (by simp at hD; omega) hK' rfl rfl)⟩
  simp [results, Tryz.results126, go_sem, b]
 case stop =>
  rintro D c pre W hD ⟨k, hk, rfl⟩ ⟨⟨rfl, ini, last, g, h, m, hR⟩, hB⟩ hK
  gi_wp2
  refine ⟨by simp, .inl ⟨_, _, rfl, run_takeDeferred hK, ?_⟩⟩
  have b := cell_kept hR.cell (grownBy_putObj' _ D (.deferred none)) (fun r e => by cases e; exact ⟨_, hK, rfl⟩)
  obtain ⟨j, rfl, rfl, rfl⟩ := uptoI_last _ _ _ _ g
  have hE := begin_way l a d f Hfa.out j (by omega) m (fun i hi => h _ (mem_uptoI (wayS hpos a (-1)) j i hi))
  refine ⟨.int .i64 (wayI l.length a (-1) j), ?_, by rw [hE], hB.trans (belowK_b (w := w) (Nat.le_refl _) _ D _ _ (by simp at hD; omega) hK rfl rfl)⟩
  simp [results, Tryz.results126, go_sem, b]
  rfl

theorem guard3 {α : Type} {p q s : Prop} [Decidable p] [Decidable q] [Decidable s] {x r : α} (h : (if p then (if q then (if s then some x else none) else none) else none) = some r) : p ∧ q ∧ s ∧ x = r := by
 by_cases hp : p
 ·rw [if_pos hp] at h
  by_cases hq : q
  ·rw [if_pos hq] at h
   by_cases hs : s
   ·rw [if_pos hs] at h; exact ⟨hp, hq, hs, Option.some.inj h⟩
   ·rw [if_neg hs] at h; cases h
  ·rw [if_neg hq] at h; cases h
 ·rw [if_neg hp] at h; cases h

def field_Begin.f (b c : Int) (a : List (S55)) (d : Int) (e g : Bool) (a1 : Int) : Option Int := if a.length ≤ 16383 then (if 0 ≤ a1 then (if a1 < (a.length : Int) then (some (beginI a a1)) else (none)) else (none)) else (none)
theorem field_Begin.calls (c d : Int) (b : Option Addr) (k : Nat) (a : List (S55)) (g : Int) (i j : Bool) (a1 r : Int) (w : World) (m : Kd.C k55 w b a.length a) (l : a.length ≤ k) (h : field_Begin.f c d a g i j a1 = some r) :
  Calls Tryz.prog 126 #[.agg #[.int .i64 c, .int .i64 d, .slice b a.length k, .int .i64 g, .bool i, .bool j], .int .i64 a1] w fun e w' => e = .returned (.int .i64 r) ∧ Below w.heap.size w w' := by
 obtain ⟨hn, n, o, rfl⟩ := guard3 h
 cases hf : isF a a1 with
 | true => exact Begin_here c d b k a g i j a1 w m l n o hf
 | false => exact callsIn_wide.1 (Begin_loop c d b k a g i j a1 w m l hn n o hf)
end

end Go.Proofs.YtjpedimndkibnaaGreatDoor.P
