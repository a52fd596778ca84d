/- pp.py and press2.py (wip/tools) wrote this text. -/
import Derived.Test.YtphboakgkmjpbaaGreatDoorJHostDoes1
import Derived.Test.YtphboakgkmjpbaaGreatDoorPx4
import Derived.Test.YtphboakgkmjpbaaGreatDoorPx5
import Derived.Test.YtphboakgkmjpbaaGreatDoorPx6
namespace Go.Proofs.YtphboakgkmjpbaaGreatDoor.P
open Go.RowKit Go.Proofs.YtphboakgkmjpbaaGreatDoorW.PrintWords Go.Proofs.YtphboakgkmjpbaaGreatDoorW.PrintLast Go.Proofs.YtphboakgkmjpbaaGreatDoorW.PrintMore
attribute [local go_sem] max2_int min2_int max_two min_two max_three min_three max_four min_four
attribute [local go_sem] Instr.field asAgg
set_option linter.unusedVariables false
set_option linter.unusedSimpArgs false
set_option maxHeartbeats 8000000
set_option maxRecDepth 100000

attribute [local go_sem high] eqA45
/-! ### order_Right: function 39 -/
mutual
def order_Right.j0 : Nat → Int → Bool → Int → List Int → Bool → Bool → Int → Bool → Int → Int → Option (Option Er × (List (S177)))
 | 0, _, _, _, _, _, _, _, _, _, _ => none
 | k + 1, n, x19, c, b, d, e, g, h, j, l => if x19 = true then (some (some (Er.num 5), ([] : List (S177)))) else ((order_has.f c).bind fun a => ((attr_Put.f k d e g h).bind fun i => (if (a.1 != (decide ((b.length : Int) > 0))) = true then (order_Right.j1 k n a.2.1 a.2.2.1 a.2.2.2 true c b d e g h j l i.2.1 i.2.2) else ((odd_has.f b).bind fun m => (order_Right.j1 k n a.2.1 a.2.2.1 a.2.2.2 m c b d e g h j l i.2.1 i.2.2)))))
def order_Right.j1 : Nat → Int → Bool → Bool → Bool → Bool → Int → List Int → Bool → Bool → Int → Bool → Int → Int → Option Er → List (S177) → Option (Option Er × (List (S177)))
 | 0, _, _, _, _, _, _, _, _, _, _, _, _, _, _, _ => none
 | k + 1, l, p, m, n, o, e, f, a, b, c, d, g, h, i, j => if o = true then (some (some (Er.num 1), ([] : List (S177)))) else (if p = true then (if i.isNone = true then (order_Right.j2 k l m n false e f a b c d g h) else (order_Right.j2 k l m n true e f a b c d g h)) else (order_Right.j2 k l m n (a || (b || (!(c == 0) || (d)))) e f a b c d g h))
def order_Right.j2 : Nat → Int → Bool → Bool → Bool → Int → List Int → Bool → Bool → Int → Bool → Int → Int → Option (Option Er × (List (S177)))
 | 0, _, _, _, _, _, _, _, _, _, _, _, _ => none
 | k + 1, l, j, o, n, c, d, e, g, h, i, a, b => if n = true then (some (some (Er.num 1), ([] : List (S177)))) else (if o = true then ((order_Right_1.f b).bind fun m => (if m = true then (order_Right.j3 k l j true c d e g h i a b) else (if j = true then (order_Right.j3 k l j false c d e g h i a b) else (order_Right.j3 k l j (a != 0) c d e g h i a b)))) else (if b = 0 then (if j = true then (order_Right.j3 k l j false c d e g h i a b) else (order_Right.j3 k l j (a != 0) c d e g h i a b)) else (order_Right.j3 k l j true c d e g h i a b)))
def order_Right.j3 : Nat → Int → Bool → Bool → Int → List Int → Bool → Bool → Int → Bool → Int → Int → Option (Option Er × (List (S177)))
 | 0, _, _, _, _, _, _, _, _, _, _, _ => none
 | k + 1, j, l, i, b, c, d, e, f, g, a, h => if i = true then (some (some (Er.num 1), ([] : List (S177)))) else (if l = true then (if a < 0 then (some (some (Er.num 4), ([] : List (S177)))) else (if a ≥ j then (some (some (Er.num 4), ([] : List (S177)))) else (some (none, ([] : List (S177)))))) else (some (none, ([] : List (S177)))))
end
def order_Right.f (k : Nat) (a : Int) (i : List Int) (b c : Bool) (d : Int) (e : Bool) (g h a1 : Int) : Option (Option Er × (List (S177))) := if a < 1 then (order_Right.j0 k a1 true a i b c d e g h) else (order_Right.j0 k a1 (decide (a > 7)) a i b c d e g h)
theorem order_Right.mono_l : ∀ k, (∀ b c d e f g i j l m, LeO (order_Right.j0 k b c d e f g i j l m) (order_Right.j0 (k + 1) b c d e f g i j l m)) ∧ (∀ b c d e f g i j l m a s t u v, LeO (order_Right.j1 k b c d e f g i j l m a s t u v) (order_Right.j1 (k + 1) b c d e f g i j l m a s t u v)) ∧ (∀ b c d e f g i j l m a s, LeO (order_Right.j2 k b c d e f g i j l m a s) (order_Right.j2 (k + 1) b c d e f g i j l m a s)) ∧ (∀ b c d e f g i j l m a, LeO (order_Right.j3 k b c d e f g i j l m a) (order_Right.j3 (k + 1) b c d e f g i j l m a))
 | 0 => ⟨fun _ _ _ _ _ _ _ _ _ _ r h => by simp [order_Right.j0] at h, fun _ _ _ _ _ _ _ _ _ _ _ _ _ _ _ r h => by simp [order_Right.j1] at h, fun _ _ _ _ _ _ _ _ _ _ _ _ r h => by simp [order_Right.j2] at h, fun _ _ _ _ _ _ _ _ _ _ _ r h => by simp [order_Right.j3] at h⟩
 | k + 1 => by
  obtain ⟨n, o, p, q⟩ := order_Right.mono_l k
  refine ⟨?_, ?_, ?_, ?_⟩
  ·intro b c d e f g i j l m
   unfold order_Right.j0
   repeat' first
   | (with_reducible exact n _ _ _ _ _ _ _ _ _ _)
   | (with_reducible exact o _ _ _ _ _ _ _ _ _ _ _ _ _ _ _)
   | (with_reducible exact p _ _ _ _ _ _ _ _ _ _ _ _)
   | (with_reducible exact q _ _ _ _ _ _ _ _ _ _ _)
   | (with_reducible exact attr_Put.mono _ _ _ _ _)
   | (with_reducible exact LeO.refl _)
   | (with_reducible exact LeO.none _)
   | (with_reducible refine LeO.ite ?_ ?_)
   | (with_reducible refine LeO.bind ?_ (fun _ => ?_))
   | exact n _ _ _ _ _ _ _ _ _ _
   | exact o _ _ _ _ _ _ _ _ _ _ _ _ _ _ _
   | exact p _ _ _ _ _ _ _ _ _ _ _ _
   | exact q _ _ _ _ _ _ _ _ _ _ _
   | exact attr_Put.mono _ _ _ _ _
   | exact LeO.none _
   | refine LeO.ite ?_ ?_
   | refine LeO.bind ?_ (fun _ => ?_)
  ·intro b c d e f g i j l m a s t u v
   unfold order_Right.j1
   repeat' first
   | (with_reducible exact n _ _ _ _ _ _ _ _ _ _)
   | (with_reducible exact o _ _ _ _ _ _ _ _ _ _ _ _ _ _ _)
   | (with_reducible exact p _ _ _ _ _ _ _ _ _ _ _ _)
   | (with_reducible exact q _ _ _ _ _ _ _ _ _ _ _)
   | (with_reducible exact attr_Put.mono _ _ _ _ _)
   | (with_reducible exact LeO.refl _)
   | (with_reducible exact LeO.none _)
   | (with_reducible refine LeO.ite ?_ ?_)
   | (with_reducible refine LeO.bind ?_ (fun _ => ?_))
   | exact n _ _ _ _ _ _ _ _ _ _
   | exact o _ _ _ _ _ _ _ _ _ _ _ _ _ _ _
   | exact p _ _ _ _ _ _ _ _ _ _ _ _
   | exact q _ _ _ _ _ _ _ _ _ _ _
   | exact attr_Put.mono _ _ _ _ _
   | exact LeO.none _
   | refine LeO.ite ?_ ?_
   | refine LeO.bind ?_ (fun _ => ?_)
  ·intro b c d e f g i j l m a s
   unfold order_Right.j2
   repeat' first
   | (with_reducible exact n _ _ _ _ _ _ _ _ _ _)
   | (with_reducible exact o _ _ _ _ _ _ _ _ _ _ _ _ _ _ _)
   | (with_reducible exact p _ _ _ _ _ _ _ _ _ _ _ _)
   | (with_reducible exact q _ _ _ _ _ _ _ _ _ _ _)
   | (with_reducible exact attr_Put.mono _ _ _ _ _)
   | (with_reducible exact LeO.refl _)
   | (with_reducible exact LeO.none _)
   | (with_reducible refine LeO.ite ?_ ?_)
   | (with_reducible refine LeO.bind ?_ (fun _ => ?_))
   | exact n _ _ _ _ _ _ _ _ _ _
   | exact o _ _ _ _ _ _ _ _ _ _ _ _ _ _ _
   | exact p _ _ _ _ _ _ _ _ _ _ _ _
   | exact q _ _ _ _ _ _ _ _ _ _ _
   | exact attr_Put.mono _ _ _ _ _
   | exact LeO.none _
   | refine LeO.ite ?_ ?_
   | refine LeO.bind ?_ (fun _ => ?_)
  ·intro b c d e f g i j l m a
   unfold order_Right.j3
   repeat' first
   | (with_reducible exact n _ _ _ _ _ _ _ _ _ _)
   | (with_reducible exact o _ _ _ _ _ _ _ _ _ _ _ _ _ _ _)
   | (with_reducible exact p _ _ _ _ _ _ _ _ _ _ _ _)
   | (with_reducible exact q _ _ _ _ _ _ _ _ _ _ _)
   | (with_reducible exact attr_Put.mono _ _ _ _ _)
   | (with_reducible exact LeO.refl _)
   | (with_reducible exact LeO.none _)
   | (with_reducible refine LeO.ite ?_ ?_)
   | (with_reducible refine LeO.bind ?_ (fun _ => ?_))
   | exact n _ _ _ _ _ _ _ _ _ _
   | exact o _ _ _ _ _ _ _ _ _ _ _ _ _ _ _
   | exact p _ _ _ _ _ _ _ _ _ _ _ _
   | exact q _ _ _ _ _ _ _ _ _ _ _
   | exact attr_Put.mono _ _ _ _ _
   | exact LeO.none _
   | refine LeO.ite ?_ ?_
   | refine LeO.bind ?_ (fun _ => ?_)
theorem order_Right.mono : ∀ a0 a1 e g a4 h i j l k, LeO (order_Right.f k a0 a1 e g a4 h i j l) (order_Right.f (k + 1) a0 a1 e g a4 h i j l) := by
 intro a0 a1 e g a4 h i j l k
 obtain ⟨a, b, c, d⟩ := order_Right.mono_l k
 unfold order_Right.f
 repeat' first
   | (with_reducible exact a _ _ _ _ _ _ _ _ _ _)
   | (with_reducible exact b _ _ _ _ _ _ _ _ _ _ _ _ _ _ _)
   | (with_reducible exact c _ _ _ _ _ _ _ _ _ _ _ _)
   | (with_reducible exact d _ _ _ _ _ _ _ _ _ _ _)
   | (with_reducible exact attr_Put.mono _ _ _ _ _)
   | (with_reducible exact LeO.refl _)
   | (with_reducible exact LeO.none _)
   | (with_reducible refine LeO.ite ?_ ?_)
   | (with_reducible refine LeO.bind ?_ (fun _ => ?_))
   | exact a _ _ _ _ _ _ _ _ _ _
   | exact b _ _ _ _ _ _ _ _ _ _ _ _ _ _ _
   | exact c _ _ _ _ _ _ _ _ _ _ _ _
   | exact d _ _ _ _ _ _ _ _ _ _ _
   | exact attr_Put.mono _ _ _ _ _
   | exact LeO.none _
   | refine LeO.ite ?_ ?_
   | refine LeO.bind ?_ (fun _ => ?_)
theorem order_Right.calls (k : Nat) (d : Int) (J : Option Addr) (L : Nat) (b : List Int) (i j : Bool) (l : Int) (m : Bool) (a c a1 : Int) (s : Option Er) (u : List (S177)) (w : World) (b8 : Kd.C (Kd.int .u8) w J b.length b) (b7 : b.length ≤ L) (h : order_Right.f k d b i j l m a c a1 = some (s, u)) :
  Calls Tryz.prog 39 #[.agg #[.int .i64 d, .slice J b.length L, .bool i, .bool j, .int .i64 l, .bool m, .int .i64 a, .int .u8 c], .int .i64 a1] w fun e w' => ∃ d2 : Value, e = .returned (errW d2 s) ∧ Kd.V k177 177 w' w.heap.size (fun k_ => (w.heap.size ≤ k_)) d2 u ∧ Below w.heap.size w w' := by
 have e5 := Tryz.underlying49
 have e4 := Tryz.underlying45
 have e3 := Tryz.underlying34
 have e6 := Tryz.underlying61
 have dV := Z b8
 have dU := Z b7
 clear b8 b7
 have HB := Z (Below.refl w.heap.size w)
 unfold order_Right.f at h
 have H := h
 clear h
 have dT := Z H
 clear H
 go_enter Tryz.func39, Tryz.ntmps39
 go_upto_region 1 with (first | ((with_reducible refine gD_ 2 rfl ?_); refine bx_ 2 49 #[.int .i64 d, .slice J b.length L, .bool i, .bool j, .int .i64 l, .bool m, .int .i64 a, .int .u8 c] ?_; intro x hg w4 hbox hb; have n := Z hbox; have eZ := ln' w hg; replace HB := bs_ hb; clear hb hbox hg))
 (try simp only [Act.put, sA, sB, sC])
 go_cut [19] (fun eU wc => ∃ (kq : Nat) (bw : Bool), eU = .bool bw ∧ Aside0 (order_Right.j0 kq a1 bw d b i j l m a c = some (s, u)) ∧ Aside0 (kq ≤ k) ∧ Aside0 (wc.heap[x]? = some (.cells #[.int .i64 d, (.slice J b.length L), .bool i, .bool j, .int .i64 l, .bool m, .int .i64 a, .int .u8 c] 49 (0, 0))) ∧ Aside0 (Below w.heap.size w wc))
 case first =>
  have H := dT.out
  clear dT
  by_cases c5 : d < 1
  ·rw [if_pos c5] at H
   have E := decide_eq_true c5
   clear c5
   (first | rw [E] | (simp only [i64_w, i32_w]; rw [E]) | skip)
   have H' := Z H
   clear H
   have Q := cells8 n.out
   go_wp2
   go_meet
   case rel => exact ⟨_, (true), (dn_), H', ⟨by first | omega | exact Nat.le_refl _⟩, ⟨vK n.out⟩, ⟨bl_⟩⟩
  rw [if_neg c5] at H
  have E := decide_eq_false c5
  clear c5
  (first | rw [E] | (simp only [i64_w, i32_w]; rw [E]) | skip)
  have H' := Z H
  clear H
  have aa := cells8 n.out
  go_wp2
  go_meet
  case rel => exact ⟨_, (decide (d > 7)), (dn_), H', ⟨by first | omega | exact Nat.le_refl _⟩, ⟨vK n.out⟩, ⟨bl_⟩⟩
 clear dT
 obtain ⟨kq, bw, rfl, HA, K, n, HB⟩ := hcut
 cases kq with
 | zero => exact absurd HA.out (by simp [order_Right.j0])
 | succ M =>
  have H := HA.out
  clear HA
  simp only [order_Right.j0] at H
  by_cases c8 : bw = true
  ·subst c8
   rw [if_pos rfl] at H
   obtain ⟨rfl, rfl⟩ := ij2_ H
   go_wp2
   go_ret
   exact ⟨_, er_, Kd.R_V (by first | exact Kd.R_nil _ _ _ 0 _ | exact Kd.N_nil _ _ _ _ _ | exact Kd.V_nil _ _ _ _ _ | exact Kd.Q_nil _ _ _ _ _ | exact Kd.S_nil _ _ _ _ _), bl_⟩
  replace c8 := Bool.eq_false_iff.mpr c8
  subst c8
  rw [iF_] at H
  replace H := bn_ H
  obtain ⟨⟨y, G, p, r⟩, A9, H⟩ := H
  try dsimp only at H
  replace H := bn_ H
  obtain ⟨⟨d3, O, br⟩, eR, H⟩ := H
  try dsimp only at H
  have bZ := Z H
  clear H
  have aE := cells8 n.out
  go_upto_region 6 with (first | ((with_reducible refine gF_ 61 rfl ?_); refine gd_ (some 24) Tryz.func61 (order_has.calls d y G p r _ A9.out) ?_; rintro e w' ⟨rfl, ⟨nd, rfl⟩⟩; refine ⟨_, rfl, ?_⟩) | ((with_reducible refine gF_ 62 rfl ?_); refine gd_ (some 32) Tryz.func62 (attr_Put.calls M i j l m d3 O br _ eR.out) ?_; rintro e e9 ⟨d4, rfl, dZ, hb⟩; refine ⟨_, rfl, ?_⟩; have b3 := Z (Kd.V_lower (Kd.V_mono (ok' := fun k_ => (w.heap.size ≤ k_) ∧ k_ ≠ x) dZ (fun k_ hk_ => ⟨(Nat.le_trans (below_size bl_) hk_), (Kd.freshB (g := x) (o := .cells #[.int .i64 d, .slice J b.length L, .bool i, .bool j, .int .i64 l, .bool m, .int .i64 a, .int .u8 c] 49 (0, 0)) (vK n.out) k_ hk_)⟩)) (below_size bl_)); replace n := kb' n hb; replace HB := bs_ hb; (try clear hb); (try clear dZ); (try simp only [errW_none, errW_some])))
  (try simp only [Act.put, sA, sB, sC])
  go_cut [35] (fun eV wc => ∃ (kq : Nat) (aA : Bool), eV = .bool aA ∧ Aside0 (order_Right.j1 kq a1 G p r aA d b i j l m a c O br = some (s, u)) ∧ Aside0 (kq ≤ M) ∧ Aside0 (Kd.V k177 177 wc w.heap.size (fun k_ => (w.heap.size ≤ k_) ∧ k_ ≠ x) d4 br) ∧ Aside0 (wc.heap[x]? = some (.cells #[.int .i64 d, (.slice J b.length L), .bool i, .bool j, .int .i64 l, .bool m, .int .i64 a, .int .u8 c] 49 (0, 0))) ∧ Aside0 (Below w.heap.size w wc))
  case first =>
   have H := bZ.out
   clear bZ
   by_cases z : (y != (decide ((b.length : Int) > 0))) = true
   ·rw [if_pos z] at H
    have A : (y != (decide ((b.length : Int) > 0))) = true := z
    (try (have bu : decide (y = (decide ((b.length : Int) > 0))) = false := by simpa using z))
    (try (have GA : (y == (decide ((b.length : Int) > 0))) = false := by simpa using z))
    (try (have e0 : ¬ (y = (decide ((b.length : Int) > 0))) := by simpa using z))
    clear z
    (first | rw [A] | (simp only [i64_w, i32_w]; rw [A]) | skip)
    have H' := Z H
    clear H
    cases y
    ·have hl_ : decide (0 < b.length) = true := by simpa using A
     clear A
     try clear bu
     try clear GA
     try clear e0
     have aM := cells8 n.out
     go_wp2
     go_meet
     case rel => exact ⟨_, (true), (dn_), H', ⟨by have := K.out; first | omega | exact Nat.le_refl _⟩, ⟨vV b3.out⟩, ⟨vK n.out⟩, ⟨bl_⟩⟩
    have hl_ : decide (0 < b.length) = false := by simpa using A
    clear A
    try clear bu
    try clear GA
    try clear e0
    have aM := cells8 n.out
    go_wp2
    go_meet
    case rel => exact ⟨_, (true), (dn_), H', ⟨by have := K.out; first | omega | exact Nat.le_refl _⟩, ⟨vV b3.out⟩, ⟨vK n.out⟩, ⟨bl_⟩⟩
   rw [if_neg z] at H
   have A : (y != (decide ((b.length : Int) > 0))) = false := by simpa using z
   (try (have bu : decide (y = (decide ((b.length : Int) > 0))) = true := by simpa using z))
   (try (have GA : (y == (decide ((b.length : Int) > 0))) = true := by simpa using z))
   clear z
   (first | rw [A] | (simp only [i64_w, i32_w]; rw [A]) | skip)
   replace H := bn_ H
   obtain ⟨I, eS, H⟩ := H
   have H' := Z H
   clear H
   cases y
   ·have hl_ : decide (0 < b.length) = false := by simpa using A
    clear A
    try clear bu
    try clear GA
    have aU := cells8 n.out
    go_wp2_with (first | (go_at_call 65; (with_reducible refine (odd_has.calls _ _ b  I _ ?side1 ?side2 eS.out).mono ?_); (case side1 => repeat (first | exact (Kd.C_below dV.out HB.out) | (with_reducible apply pC))); (case side2 => exact dU.out); rintro e w' ⟨rfl, ⟨nd, rfl⟩⟩))
    go_meet
    case rel => exact ⟨_, (I), (dn_), H', ⟨by have := K.out; first | omega | exact Nat.le_refl _⟩, ⟨vV b3.out⟩, ⟨vK n.out⟩, ⟨bl_⟩⟩
   have hl_ : decide (0 < b.length) = true := by simpa using A
   clear A
   try clear bu
   try clear GA
   have aU := cells8 n.out
   go_wp2_with (first | (go_at_call 65; (with_reducible refine (odd_has.calls _ _ b  I _ ?side1 ?side2 eS.out).mono ?_); (case side1 => repeat (first | exact (Kd.C_below dV.out HB.out) | (with_reducible apply pC))); (case side2 => exact dU.out); rintro e w' ⟨rfl, ⟨nd, rfl⟩⟩))
   go_meet
   case rel => exact ⟨_, (I), (dn_), H', ⟨by have := K.out; first | omega | exact Nat.le_refl _⟩, ⟨vV b3.out⟩, ⟨vK n.out⟩, ⟨bl_⟩⟩
  clear bZ
  try clear c8
  try clear aE
  obtain ⟨kq, aA, rfl, HA, B, GB, n, HB⟩ := hcut
  cases kq with
  | zero => exact absurd HA.out (by simp [order_Right.j1])
  | succ F =>
   have H := HA.out
   clear HA
   simp only [order_Right.j1] at H
   by_cases bx : aA = true
   ·subst bx
    rw [if_pos rfl] at H
    obtain ⟨rfl, rfl⟩ := ij2_ H
    go_wp2
    go_ret
    exact ⟨_, er_, Kd.R_V (by first | exact Kd.R_nil _ _ _ 0 _ | exact Kd.N_nil _ _ _ _ _ | exact Kd.V_nil _ _ _ _ _ | exact Kd.Q_nil _ _ _ _ _ | exact Kd.S_nil _ _ _ _ _), bl_⟩
   replace bx := Bool.eq_false_iff.mpr bx
   subst bx
   rw [iF_] at H
   have b0 := Z H
   clear H
   go_upto_region 8 with (fail)
   go_cut [49] (fun eW wc => ∃ (kq : Nat) (aB : Bool), eW = .bool aB ∧ Aside0 (order_Right.j2 kq a1 p r aB d b i j l m a c = some (s, u)) ∧ Aside0 (kq ≤ F) ∧ Aside0 (wc.heap[x]? = some (.cells #[.int .i64 d, (.slice J b.length L), .bool i, .bool j, .int .i64 l, .bool m, .int .i64 a, .int .u8 c] 49 (0, 0))) ∧ Aside0 (Below w.heap.size w wc))
   case first =>
    have H := b0.out
    clear b0
    by_cases bz : G = true
    ·subst bz
     rw [if_pos rfl] at H
     rcases O with _ | b2
     ·rw [if_pos (show (none : Option Er).isNone = true by rfl)] at H
      try simp only [errW_none, errW_some]
      have H' := Z H
      clear H
      go_wp2
      go_meet
      case rel => exact ⟨_, (false), (dn_), H', ⟨by have := K.out; have := B.out; first | omega | exact Nat.le_refl _⟩, ⟨vK n.out⟩, ⟨bl_⟩⟩
     rw [if_neg (show ¬ (some b2).isNone = true by simp)] at H
     try simp only [errW_none, errW_some]
     have H' := Z H
     clear H
     go_wp2
     go_meet
     case rel => exact ⟨_, (true), (dn_), H', ⟨by have := K.out; have := B.out; first | omega | exact Nat.le_refl _⟩, ⟨vK n.out⟩, ⟨bl_⟩⟩
    replace bz := Bool.eq_false_iff.mpr bz
    subst bz
    rw [iF_] at H
    have H' := Z H
    clear H
    have bC := cells8 n.out
    go_wp2
    go_meet
    case rel => exact ⟨_, ((i || (j || (!(l == 0) || (m))))), (dn_), H', ⟨by have := K.out; have := B.out; first | omega | exact Nat.le_refl _⟩, ⟨vK n.out⟩, ⟨bl_⟩⟩
   clear b0
   try clear c8
   try clear bx
   try clear aE
   obtain ⟨kq, aB, rfl, HA, aD, n, HB⟩ := hcut
   cases kq with
   | zero => exact absurd HA.out (by simp [order_Right.j2])
   | succ q =>
    have H := HA.out
    clear HA
    simp only [order_Right.j2] at H
    by_cases bS : aB = true
    ·subst bS
     rw [if_pos rfl] at H
     obtain ⟨rfl, rfl⟩ := ij2_ H
     go_wp2
     go_ret
     exact ⟨_, er_, Kd.R_V (by first | exact Kd.R_nil _ _ _ 0 _ | exact Kd.N_nil _ _ _ _ _ | exact Kd.V_nil _ _ _ _ _ | exact Kd.Q_nil _ _ _ _ _ | exact Kd.S_nil _ _ _ _ _), bl_⟩
    replace bS := Bool.eq_false_iff.mpr bS
    subst bS
    rw [iF_] at H
    have b1 := Z H
    clear H
    go_upto_region 10 with (fail)
    go_cut [66] (fun eX wc => ∃ (kq : Nat) (aC : Bool), eX = .bool aC ∧ Aside0 (order_Right.j3 kq a1 p aC d b i j l m a c = some (s, u)) ∧ Aside0 (kq ≤ q) ∧ Aside0 (wc.heap[x]? = some (.cells #[.int .i64 d, (.slice J b.length L), .bool i, .bool j, .int .i64 l, .bool m, .int .i64 a, .int .u8 c] 49 (0, 0))) ∧ Aside0 (Below w.heap.size w wc))
    case first =>
     have H := b1.out
     clear b1
     by_cases c24 : r = true
     ·subst c24
      rw [if_pos rfl] at H
      replace H := bn_ H
      obtain ⟨bs, dR, H⟩ := H
      by_cases bT : bs = true
      ·subst bT
       rw [if_pos rfl] at H
       have H' := Z H
       clear H
       have b9 := cells8 n.out
       go_wp2_with (first | (go_at_call 63; (with_reducible refine (order_Right_1.calls c true _ dR.out).mono ?_); rintro e w' ⟨rfl, ⟨nd, rfl⟩⟩))
       go_meet
       case rel => exact ⟨_, (true), (dn_), H', ⟨by have := K.out; have := B.out; have := aD.out; first | omega | exact Nat.le_refl _⟩, ⟨vK n.out⟩, ⟨bl_⟩⟩
      replace bT := Bool.eq_false_iff.mpr bT
      subst bT
      rw [iF_] at H
      by_cases bU : p = true
      ·subst bU
       rw [if_pos rfl] at H
       have H' := Z H
       clear H
       have ch := cells8 n.out
       go_wp2_with (first | (go_at_call 63; (with_reducible refine (order_Right_1.calls c false _ dR.out).mono ?_); rintro e w' ⟨rfl, ⟨nd, rfl⟩⟩))
       go_meet
       case rel => exact ⟨_, (false), (dn_), H', ⟨by have := K.out; have := B.out; have := aD.out; first | omega | exact Nat.le_refl _⟩, ⟨vK n.out⟩, ⟨bl_⟩⟩
      replace bU := Bool.eq_false_iff.mpr bU
      subst bU
      rw [iF_] at H
      have H' := Z H
      clear H
      have cp := cells8 n.out
      go_wp2_with (first | (go_at_call 63; (with_reducible refine (order_Right_1.calls c false _ dR.out).mono ?_); rintro e w' ⟨rfl, ⟨nd, rfl⟩⟩))
      go_meet
      case rel => exact ⟨_, ((a != 0)), (dn_), H', ⟨by have := K.out; have := B.out; have := aD.out; first | omega | exact Nat.le_refl _⟩, ⟨vK n.out⟩, ⟨bl_⟩⟩
     replace c24 := Bool.eq_false_iff.mpr c24
     subst c24
     rw [iF_] at H
     by_cases bt : c = 0
     ·rw [if_pos bt] at H
      obtain ⟨P, b4⟩ := eT_ bt
      clear bt
      (first | rw [P] | (simp only [i64_w, i32_w]; rw [P]) | skip)
      by_cases bV : p = true
      ·subst bV
       rw [if_pos rfl] at H
       have H' := Z H
       clear H
       have cy := cells8 n.out
       go_wp2
       go_meet
       case rel => exact ⟨_, (false), (dn_), H', ⟨by have := K.out; have := B.out; have := aD.out; first | omega | exact Nat.le_refl _⟩, ⟨vK n.out⟩, ⟨bl_⟩⟩
      replace bV := Bool.eq_false_iff.mpr bV
      subst bV
      rw [iF_] at H
      have H' := Z H
      clear H
      have cG := cells8 n.out
      go_wp2
      go_meet
      case rel => exact ⟨_, ((a != 0)), (dn_), H', ⟨by have := K.out; have := B.out; have := aD.out; first | omega | exact Nat.le_refl _⟩, ⟨vK n.out⟩, ⟨bl_⟩⟩
     rw [if_neg bt] at H
     obtain ⟨P, b4⟩ := eF_ bt
     (first | rw [P] | (simp only [i64_w, i32_w]; rw [P]) | skip)
     have H' := Z H
     clear H
     have cO := cells8 n.out
     go_wp2
     go_meet
     case rel => exact ⟨_, (true), (dn_), H', ⟨by have := K.out; have := B.out; have := aD.out; first | omega | exact Nat.le_refl _⟩, ⟨vK n.out⟩, ⟨bl_⟩⟩
    clear b1
    try clear c8
    try clear bx
    try clear bS
    try clear aE
    obtain ⟨kq, aC, rfl, HA, e2, n, HB⟩ := hcut
    cases kq with
    | zero => exact absurd HA.out (by simp [order_Right.j3])
    | succ e7 =>
     have H := HA.out
     clear HA
     simp only [order_Right.j3] at H
     by_cases b5 : aC = true
     ·subst b5
      rw [if_pos rfl] at H
      obtain ⟨rfl, rfl⟩ := ij2_ H
      go_wp2
      go_ret
      exact ⟨_, er_, Kd.R_V (by first | exact Kd.R_nil _ _ _ 0 _ | exact Kd.N_nil _ _ _ _ _ | exact Kd.V_nil _ _ _ _ _ | exact Kd.Q_nil _ _ _ _ _ | exact Kd.S_nil _ _ _ _ _), bl_⟩
     replace b5 := Bool.eq_false_iff.mpr b5
     subst b5
     rw [iF_] at H
     cases p
     ·rw [iF_] at H
      obtain ⟨rfl, rfl⟩ := ij2_ H
      go_wp2
      go_ret
      exact ⟨_, er_, Kd.R_V (by first | exact Kd.R_nil _ _ _ 0 _ | exact Kd.N_nil _ _ _ _ _ | exact Kd.V_nil _ _ _ _ _ | exact Kd.Q_nil _ _ _ _ _ | exact Kd.S_nil _ _ _ _ _), bl_⟩
     rw [if_pos rfl] at H
     by_cases bA : a < 0
     ·rw [if_pos bA] at H
      have dW := decide_eq_true bA
      clear bA
      obtain ⟨rfl, rfl⟩ := ij2_ H
      have d5 := cells8 n.out
      go_wp2
      go_ret
      exact ⟨_, er_, Kd.R_V (by first | exact Kd.R_nil _ _ _ 0 _ | exact Kd.N_nil _ _ _ _ _ | exact Kd.V_nil _ _ _ _ _ | exact Kd.Q_nil _ _ _ _ _ | exact Kd.S_nil _ _ _ _ _), bl_⟩
     rw [if_neg bA] at H
     have dW := decide_eq_false bA
     clear bA
     by_cases bB : a ≥ a1
     ·rw [if_pos bB] at H
      have dX : decide (a1 ≤ a) = true := decide_eq_true bB
      clear bB
      obtain ⟨rfl, rfl⟩ := ij2_ H
      have ed := cells8 n.out
      go_wp2
      go_ret
      exact ⟨_, er_, Kd.R_V (by first | exact Kd.R_nil _ _ _ 0 _ | exact Kd.N_nil _ _ _ _ _ | exact Kd.V_nil _ _ _ _ _ | exact Kd.Q_nil _ _ _ _ _ | exact Kd.S_nil _ _ _ _ _), bl_⟩
     rw [if_neg bB] at H
     have dX : decide (a1 ≤ a) = false := decide_eq_false bB
     clear bB
     obtain ⟨rfl, rfl⟩ := ij2_ H
     have el := cells8 n.out
     go_wp2
     go_ret
     exact ⟨_, er_, Kd.R_V (by first | exact Kd.R_nil _ _ _ 0 _ | exact Kd.N_nil _ _ _ _ _ | exact Kd.V_nil _ _ _ _ _ | exact Kd.Q_nil _ _ _ _ _ | exact Kd.S_nil _ _ _ _ _), bl_⟩

end Go.Proofs.YtphboakgkmjpbaaGreatDoor.P
