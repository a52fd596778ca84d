/- pp.py and press2.py (wip/tools) wrote this text. -/
import Derived.Test.YtgboplhcjhlabaaDoorPx0
import Derived.Test.YtgboplhcjhlabaaDoorPxS
import Derived.Test.YtgboplhcjhlabaaDoorPx1
import Derived.Test.YtgboplhcjhlabaaDoorPx7
import Derived.Test.YtgboplhcjhlabaaDoorPx8
namespace Go.Proofs.YtgboplhcjhlabaaDoor.P
open Go.RowKit Go.Proofs.YtgboplhcjhlabaaDoorW.PrintWords Go.Proofs.YtgboplhcjhlabaaDoorW.PrintLast Go.Proofs.YtgboplhcjhlabaaDoorW.PrintMore
attribute [local go_sem] max2_int min2_int max_two min_two max_three min_three max_four min_four
attribute [local go_sem] Instr.field asAgg
set_option linter.unusedVariables false
set_option linter.unusedSimpArgs false

attribute [local go_sem high] eqA28
/-! ### order_Right: function 36 -/
mutual
def order_Right.j0 : Nat → Int → Bool → Int → List Int → Bool → Bool → Int → Bool → Int → Int → Option (Option Er × (List (S184)))
 | 0, _, _, _, _, _, _, _, _, _, _ => none
 | k + 1, n, x19, c, b, d, e, g, h, j, l => if x19 = true then (some (some (Er.num 5), ([] : List (S184)))) else ((order_has.f c).bind fun a => ((attr_Put.f k d e g h).bind fun i => (if (a.1 != (decide ((b.length : Int) > 0))) = true then (order_Right.j1 k n a.2.1 a.2.2.1 a.2.2.2 true c b d e g h j l i.2.1 i.2.2) else ((odd_has.f b).bind fun m => (order_Right.j1 k n a.2.1 a.2.2.1 a.2.2.2 m c b d e g h j l i.2.1 i.2.2)))))
def order_Right.j1 : Nat → Int → Bool → Bool → Bool → Bool → Int → List Int → Bool → Bool → Int → Bool → Int → Int → Option Er → List (S184) → Option (Option Er × (List (S184)))
 | 0, _, _, _, _, _, _, _, _, _, _, _, _, _, _, _ => none
 | k + 1, l, p, m, n, o, e, f, a, b, c, d, g, h, i, j => if o = true then (some (some (Er.num 1), ([] : List (S184)))) else (if p = true then (if i.isNone = true then (order_Right.j2 k l m n false e f a b c d g h) else (order_Right.j2 k l m n true e f a b c d g h)) else (order_Right.j2 k l m n (a || (b || (!(c == 0) || (d)))) e f a b c d g h))
def order_Right.j2 : Nat → Int → Bool → Bool → Bool → Int → List Int → Bool → Bool → Int → Bool → Int → Int → Option (Option Er × (List (S184)))
 | 0, _, _, _, _, _, _, _, _, _, _, _, _ => none
 | k + 1, l, j, o, n, c, d, e, g, h, i, a, b => if n = true then (some (some (Er.num 1), ([] : List (S184)))) else (if o = true then ((order_Right_1.f b).bind fun m => (if m = true then (order_Right.j3 k l j true c d e g h i a b) else (if j = true then (order_Right.j3 k l j false c d e g h i a b) else (order_Right.j3 k l j (a != 0) c d e g h i a b)))) else (if b = 0 then (if j = true then (order_Right.j3 k l j false c d e g h i a b) else (order_Right.j3 k l j (a != 0) c d e g h i a b)) else (order_Right.j3 k l j true c d e g h i a b)))
def order_Right.j3 : Nat → Int → Bool → Bool → Int → List Int → Bool → Bool → Int → Bool → Int → Int → Option (Option Er × (List (S184)))
 | 0, _, _, _, _, _, _, _, _, _, _, _ => none
 | k + 1, j, l, i, b, c, d, e, f, g, a, h => if i = true then (some (some (Er.num 1), ([] : List (S184)))) else (if l = true then (if a < 0 then (some (some (Er.num 4), ([] : List (S184)))) else (if a ≥ j then (some (some (Er.num 4), ([] : List (S184)))) else (some (none, ([] : List (S184)))))) else (some (none, ([] : List (S184)))))
end
def order_Right.f (k : Nat) (a : Int) (i : List Int) (b : Bool) (c : Bool) (d : Int) (e : Bool) (g : Int) (h : Int) (a1 : Int) : Option (Option Er × (List (S184))) := if a < 1 then (order_Right.j0 k a1 true a i b c d e g h) else (order_Right.j0 k a1 (decide (a > 7)) a i b c d e g h)
theorem order_Right.mono_l : ∀ k, (∀ b c d e f g i j l m, LeO (order_Right.j0 k b c d e f g i j l m) (order_Right.j0 (k + 1) b c d e f g i j l m)) ∧ (∀ b c d e f g i j l m a s t u v, LeO (order_Right.j1 k b c d e f g i j l m a s t u v) (order_Right.j1 (k + 1) b c d e f g i j l m a s t u v)) ∧ (∀ b c d e f g i j l m a s, LeO (order_Right.j2 k b c d e f g i j l m a s) (order_Right.j2 (k + 1) b c d e f g i j l m a s)) ∧ (∀ b c d e f g i j l m a, LeO (order_Right.j3 k b c d e f g i j l m a) (order_Right.j3 (k + 1) b c d e f g i j l m a))
 | 0 => ⟨fun _ _ _ _ _ _ _ _ _ _ r h => by simp [order_Right.j0] at h, fun _ _ _ _ _ _ _ _ _ _ _ _ _ _ _ r h => by simp [order_Right.j1] at h, fun _ _ _ _ _ _ _ _ _ _ _ _ r h => by simp [order_Right.j2] at h, fun _ _ _ _ _ _ _ _ _ _ _ r h => by simp [order_Right.j3] at h⟩
 | k + 1 => by
  obtain ⟨n, o, p, q⟩ := order_Right.mono_l k
  refine ⟨?_, ?_, ?_, ?_⟩
  ·intro b c d e f g i j l m
   unfold order_Right.j0
   repeat' first
   | (with_reducible exact n _ _ _ _ _ _ _ _ _ _)
   | (with_reducible exact o _ _ _ _ _ _ _ _ _ _ _ _ _ _ _)
   | (with_reducible exact p _ _ _ _ _ _ _ _ _ _ _ _)
   | (with_reducible exact q _ _ _ _ _ _ _ _ _ _ _)
   | (with_reducible exact attr_Put.mono _ _ _ _ _)
   | (with_reducible exact LeO.refl _)
   | (with_reducible exact LeO.none _)
   | (with_reducible refine LeO.ite ?_ ?_)
   | (with_reducible refine LeO.bind ?_ (fun _ => ?_))
   | exact n _ _ _ _ _ _ _ _ _ _
   | exact o _ _ _ _ _ _ _ _ _ _ _ _ _ _ _
   | exact p _ _ _ _ _ _ _ _ _ _ _ _
   | exact q _ _ _ _ _ _ _ _ _ _ _
   | exact attr_Put.mono _ _ _ _ _
   | exact LeO.none _
   | refine LeO.ite ?_ ?_
   | refine LeO.bind ?_ (fun _ => ?_)
  ·intro b c d e f g i j l m a s t u v
   unfold order_Right.j1
   repeat' first
   | (with_reducible exact n _ _ _ _ _ _ _ _ _ _)
   | (with_reducible exact o _ _ _ _ _ _ _ _ _ _ _ _ _ _ _)
   | (with_reducible exact p _ _ _ _ _ _ _ _ _ _ _ _)
   | (with_reducible exact q _ _ _ _ _ _ _ _ _ _ _)
   | (with_reducible exact attr_Put.mono _ _ _ _ _)
   | (with_reducible exact LeO.refl _)
   | (with_reducible exact LeO.none _)
   | (with_reducible refine LeO.ite ?_ ?_)
   | (with_reducible refine LeO.bind ?_ (fun _ => ?_))
   | exact n _ _ _ _ _ _ _ _ _ _
   | exact o _ _ _ _ _ _ _ _ _ _ _ _ _ _ _
   | exact p _ _ _ _ _ _ _ _ _ _ _ _
   | exact q _ _ _ _ _ _ _ _ _ _ _
   | exact attr_Put.mono _ _ _ _ _
   | exact LeO.none _
   | refine LeO.ite ?_ ?_
   | refine LeO.bind ?_ (fun _ => ?_)
  ·intro b c d e f g i j l m a s
   unfold order_Right.j2
   repeat' first
   | (with_reducible exact n _ _ _ _ _ _ _ _ _ _)
   | (with_reducible exact o _ _ _ _ _ _ _ _ _ _ _ _ _ _ _)
   | (with_reducible exact p _ _ _ _ _ _ _ _ _ _ _ _)
   | (with_reducible exact q _ _ _ _ _ _ _ _ _ _ _)
   | (with_reducible exact attr_Put.mono _ _ _ _ _)
   | (with_reducible exact LeO.refl _)
   | (with_reducible exact LeO.none _)
   | (with_reducible refine LeO.ite ?_ ?_)
   | (with_reducible refine LeO.bind ?_ (fun _ => ?_))
   | exact n _ _ _ _ _ _ _ _ _ _
   | exact o _ _ _ _ _ _ _ _ _ _ _ _ _ _ _
   | exact p _ _ _ _ _ _ _ _ _ _ _ _
   | exact q _ _ _ _ _ _ _ _ _ _ _
   | exact attr_Put.mono _ _ _ _ _
   | exact LeO.none _
   | refine LeO.ite ?_ ?_
   | refine LeO.bind ?_ (fun _ => ?_)
  ·intro b c d e f g i j l m a
   unfold order_Right.j3
   repeat' first
   | (with_reducible exact n _ _ _ _ _ _ _ _ _ _)
   | (with_reducible exact o _ _ _ _ _ _ _ _ _ _ _ _ _ _ _)
   | (with_reducible exact p _ _ _ _ _ _ _ _ _ _ _ _)
   | (with_reducible exact q _ _ _ _ _ _ _ _ _ _ _)
   | (with_reducible exact attr_Put.mono _ _ _ _ _)
   | (with_reducible exact LeO.refl _)
   | (with_reducible exact LeO.none _)
   | (with_reducible refine LeO.ite ?_ ?_)
   | (with_reducible refine LeO.bind ?_ (fun _ => ?_))
   | exact n _ _ _ _ _ _ _ _ _ _
   | exact o _ _ _ _ _ _ _ _ _ _ _ _ _ _ _
   | exact p _ _ _ _ _ _ _ _ _ _ _ _
   | exact q _ _ _ _ _ _ _ _ _ _ _
   | exact attr_Put.mono _ _ _ _ _
   | exact LeO.none _
   | refine LeO.ite ?_ ?_
   | refine LeO.bind ?_ (fun _ => ?_)
theorem order_Right.mono : ∀ a0 a1 e g a4 h i j l k, LeO (order_Right.f k a0 a1 e g a4 h i j l) (order_Right.f (k + 1) a0 a1 e g a4 h i j l) := by
 intro a0 a1 e g a4 h i j l k
 obtain ⟨a, b, c, d⟩ := order_Right.mono_l k
 unfold order_Right.f
 repeat' first
   | (with_reducible exact a _ _ _ _ _ _ _ _ _ _)
   | (with_reducible exact b _ _ _ _ _ _ _ _ _ _ _ _ _ _ _)
   | (with_reducible exact c _ _ _ _ _ _ _ _ _ _ _ _)
   | (with_reducible exact d _ _ _ _ _ _ _ _ _ _ _)
   | (with_reducible exact attr_Put.mono _ _ _ _ _)
   | (with_reducible exact LeO.refl _)
   | (with_reducible exact LeO.none _)
   | (with_reducible refine LeO.ite ?_ ?_)
   | (with_reducible refine LeO.bind ?_ (fun _ => ?_))
   | exact a _ _ _ _ _ _ _ _ _ _
   | exact b _ _ _ _ _ _ _ _ _ _ _ _ _ _ _
   | exact c _ _ _ _ _ _ _ _ _ _ _ _
   | exact d _ _ _ _ _ _ _ _ _ _ _
   | exact attr_Put.mono _ _ _ _ _
   | exact LeO.none _
   | refine LeO.ite ?_ ?_
   | refine LeO.bind ?_ (fun _ => ?_)
set_option maxHeartbeats 8000000 in
set_option maxRecDepth 100000 in
theorem order_Right.calls (k : Nat) (d : Int) (J : Option Addr) (L : Nat) (b : List Int) (i : Bool) (j : Bool) (l : Int) (m : Bool) (a : Int) (c : Int) (a1 : Int) (s : Option Er) (u : List (S184)) (w : World) (b8 : Kd.C (Kd.int .u8) w J b.length b) (b7 : b.length ≤ L) (h : order_Right.f k d b i j l m a c a1 = some (s, u)) :
  Calls Tryd.prog 36 #[.agg #[.int .i64 d, .slice J b.length L, .bool i, .bool j, .int .i64 l, .bool m, .int .i64 a, .int .u8 c], .int .i64 a1] w fun e w' => ∃ d2 : Value, e = .returned (errW d2 s) ∧ Kd.V k184 184 w' w.heap.size (fun k_ => (w.heap.size ≤ k_)) d2 u ∧ Below w.heap.size w w' := by
 have e4 := Tryd.underlying30
 have e3 := Tryd.underlying28
 have e5 := Tryd.underlying34
 have e6 := Tryd.underlying75
 have dV := Z b8
 have dU := Z b7
 clear b8 b7
 have HB := Z (Below.refl w.heap.size w)
 have H : (if d < 1 then (order_Right.j0 k a1 true d b i j l m a c) else (order_Right.j0 k a1 (decide (d > 7)) d b i j l m a c)) = some (s, u) := h
 clear h
 have dT := Z H
 clear H
 go_enter Tryd.func36, Tryd.ntmps36
 go_upto_region 1 with (first | ((with_reducible refine gate_dst (N := 2) rfl ?_); refine bx_ 2 30 #[.int .i64 d, .slice J b.length L, .bool i, .bool j, .int .i64 l, .bool m, .int .i64 a, .int .u8 c] ?_; intro x hg w4 hbox hb; have n := Z (hbox); have eZ := Z (ln_ hg : w.heap.size ≤ x); have eY := Z (ln_ hg : w.heap.size ≤ x); replace HB := Z (below_step bl_ hb); clear hb hbox hg))
 (try simp only [Act.put, sA, sB, sC])
 go_cut [19] (fun eU wc => ∃ (kq : Nat) (bw : Bool), eU = .bool bw ∧ Aside0 (order_Right.j0 kq a1 bw d b i j l m a c = some (s, u)) ∧ Aside0 (kq ≤ k) ∧ Aside0 (wc.heap[x]? = some (.cells #[.int .i64 d, (.slice J b.length L), .bool i, .bool j, .int .i64 l, .bool m, .int .i64 a, .int .u8 c] 30 (0, 0))) ∧ Aside0 (Below w.heap.size w wc))
 case first =>
  have H := dT.out
  clear dT
  by_cases c5 : d < 1
  ·rw [if_pos c5] at H
   have E : decide (d < 1) = true := decide_eq_true c5
   clear c5
   (first | rw [E] | (simp only [i64_w, i32_w]; rw [E]) | skip)
   have H' := Z H
   clear H
   obtain ⟨Q, R, S, T, U, W, X, Y, ai, aj, ak, al, am, an, ao, ap⟩ := cells8 n.out
   go_wp2
   go_meet
   case rel => exact ⟨_, (true), (dn_), H', ⟨by first | omega | exact Nat.le_refl _⟩, ⟨vK n.out⟩, ⟨bl_⟩⟩
  ·rw [if_neg c5] at H
   have E : decide (d < 1) = false := decide_eq_false c5
   clear c5
   (first | rw [E] | (simp only [i64_w, i32_w]; rw [E]) | skip)
   have H' := Z H
   clear H
   obtain ⟨aa, ab, ac, ad, ae, af, ag, ah, aq, ar, au, av, aw, ax, ay, az⟩ := cells8 n.out
   go_wp2
   go_meet
   case rel => exact ⟨_, (decide (d > 7)), (dn_), H', ⟨by first | omega | exact Nat.le_refl _⟩, ⟨vK n.out⟩, ⟨bl_⟩⟩
 case rest =>
  clear dT
  try clear p2
  try clear c3
  try clear c5
  try clear E
  try clear Q
  try clear R
  try clear S
  try clear T
  try clear U
  try clear W
  try clear X
  try clear Y
  try clear aa
  try clear ab
  try clear ac
  try clear ad
  try clear ae
  try clear af
  try clear ag
  try clear ah
  try clear ai
  try clear aj
  try clear ak
  try clear al
  try clear am
  try clear an
  try clear ao
  try clear ap
  try clear aq
  try clear ar
  try clear au
  try clear av
  try clear aw
  try clear ax
  try clear ay
  try clear az
  obtain ⟨kq, bw, rfl, HA, K, n, HB⟩ := hcut
  cases kq with
  | zero => exact absurd HA.out (by simp [order_Right.j0])
  | succ M =>
   have H := HA.out
   clear HA
   simp only [order_Right.j0] at H
   by_cases c8 : bw = true
   ·subst c8
    have H1 : (some (some (Er.num 5), ([] : List (S184)))) = some (s, u) := by rw [if_pos rfl] at H; exact H
    clear H
    have H := H1
    clear H1
    simp only [Option.some.injEq, Prod.mk.injEq] at H
    obtain ⟨rfl, rfl⟩ := H
    go_wp2
    go_ret
    exact ⟨_, er_, Kd.R_V (by first | exact Kd.R_nil _ _ _ 0 _ | exact Kd.N_nil _ _ _ _ _ | exact Kd.V_nil _ _ _ _ _ | exact Kd.Q_nil _ _ _ _ _ | exact Kd.S_nil _ _ _ _ _), bl_⟩
   ·replace c8 := Bool.eq_false_iff.mpr c8
    subst c8
    have H1 : ((order_has.f d).bind fun D => ((attr_Put.f M i j l m).bind fun v => (if (D.1 != (decide ((b.length : Int) > 0))) = true then (order_Right.j1 M a1 D.2.1 D.2.2.1 D.2.2.2 true d b i j l m a c v.2.1 v.2.2) else ((odd_has.f b).bind fun I => (order_Right.j1 M a1 D.2.1 D.2.2.1 D.2.2.2 I d b i j l m a c v.2.1 v.2.2))))) = some (s, u) := by rw [if_neg (show ¬ (false = true) by decide)] at H; exact H
    clear H
    have H := H1
    clear H1
    replace H := Option.bind_eq_some_iff.mp H
    obtain ⟨⟨y, G, p, r⟩, dY, H⟩ := H
    replace H : ((attr_Put.f M i j l m).bind fun v => (if (y != (decide ((b.length : Int) > 0))) = true then (order_Right.j1 M a1 G p r true d b i j l m a c v.2.1 v.2.2) else ((odd_has.f b).bind fun I => (order_Right.j1 M a1 G p r I d b i j l m a c v.2.1 v.2.2)))) = some (s, u) := H
    have A9 := Z dY
    clear dY
    replace H := Option.bind_eq_some_iff.mp H
    obtain ⟨⟨d3, O, br⟩, dP, H⟩ := H
    replace H : (if (y != (decide ((b.length : Int) > 0))) = true then (order_Right.j1 M a1 G p r true d b i j l m a c O br) else ((odd_has.f b).bind fun I => (order_Right.j1 M a1 G p r I d b i j l m a c O br))) = some (s, u) := H
    have eR := Z dP
    clear dP
    have bZ := Z H
    clear H
    obtain ⟨aE, aF, aG, aH, aI, aJ, aK, aL, a3, a4, a5, a6, a7, a8, a9, ba⟩ := cells8 n.out
    go_upto_region 6 with (first | ((with_reducible refine gate_callee (f := 59) rfl ?_); refine goesL_ (some 24) rfl rfl Tryd.func59 (by kernel_rfl) rfl #[.int .i64 d] rfl ag_ ?_; (with_reducible refine (order_has.calls d y G p r _ A9.out).mono ?_); rintro e w' ⟨rfl, ⟨nd, rfl⟩⟩; refine ⟨_, rfl, ?_⟩) | ((with_reducible refine gate_callee (f := 60) rfl ?_); refine goesL_ (some 32) rfl rfl Tryd.func60 (by kernel_rfl) rfl #[.agg #[.bool i, .bool j, .int .i64 l, .bool m]] rfl ag_ ?_; (with_reducible refine (attr_Put.calls M i j l m d3 O br _ eR.out).mono ?_); rintro e e9 ⟨d4, rfl, dZ, hb⟩; refine ⟨_, rfl, ?_⟩; have b3 := Z (Kd.V_lower (Kd.V_mono (ok' := fun k_ => (w.heap.size ≤ k_) ∧ k_ ≠ x) dZ (fun k_ hk_ => ⟨(Nat.le_trans (below_size bl_) hk_), (Kd.freshB (g := x) (o := .cells #[.int .i64 d, .slice J b.length L, .bool i, .bool j, .int .i64 l, .bool m, .int .i64 a, .int .u8 c] 30 (0, 0)) (vK n.out) k_ hk_)⟩)) (below_size bl_)); replace n := Z (kb n.out hb); replace HB := Z (below_step bl_ hb); (try clear hb); (try clear e8); (try clear hk); (try clear hi); (try clear dZ); (try simp only [errW_none, errW_some])))
    (try simp only [Act.put, sA, sB, sC])
    go_cut [35] (fun eV wc => ∃ (kq : Nat) (aA : Bool), eV = .bool aA ∧ Aside0 (order_Right.j1 kq a1 G p r aA d b i j l m a c O br = some (s, u)) ∧ Aside0 (kq ≤ M) ∧ Aside0 (Kd.V k184 184 wc w.heap.size (fun k_ => (w.heap.size ≤ k_) ∧ k_ ≠ x) d4 br) ∧ Aside0 (wc.heap[x]? = some (.cells #[.int .i64 d, (.slice J b.length L), .bool i, .bool j, .int .i64 l, .bool m, .int .i64 a, .int .u8 c] 30 (0, 0))) ∧ Aside0 (Below w.heap.size w wc))
    case first =>
     have H := bZ.out
     clear bZ
     by_cases z : (y != (decide ((b.length : Int) > 0))) = true
     ·rw [if_pos z] at H
      have A : (y != (decide ((b.length : Int) > 0))) = true := z
      (try (have bu : decide (y = (decide ((b.length : Int) > 0))) = false := by simpa using z))
      (try (have bv : (y == (decide ((b.length : Int) > 0))) = false := by simpa using z))
      (try (have e0 : ¬ (y = (decide ((b.length : Int) > 0))) := by simpa using z))
      clear z
      (first | rw [A] | (simp only [i64_w, i32_w]; rw [A]) | skip)
      have H' := Z H
      clear H
      cases y
      · have hl_ : decide (0 < b.length) = true := by simpa using A
        clear A
        try clear bu
        try clear bv
        try clear e0
        obtain ⟨aM, aN, aO, aP, aQ, aR, aS, aT, bb, bc, bd, be, bf, bg, bh, bi⟩ := cells8 n.out
        go_wp2
        go_meet
        case rel => exact ⟨_, (true), (dn_), H', ⟨by have := K.out; first | omega | exact Nat.le_refl _⟩, ⟨vV b3.out⟩, ⟨vK n.out⟩, ⟨bl_⟩⟩
      · have hl_ : decide (0 < b.length) = false := by simpa using A
        clear A
        try clear bu
        try clear bv
        try clear e0
        obtain ⟨aM, aN, aO, aP, aQ, aR, aS, aT, bb, bc, bd, be, bf, bg, bh, bi⟩ := cells8 n.out
        go_wp2
        go_meet
        case rel => exact ⟨_, (true), (dn_), H', ⟨by have := K.out; first | omega | exact Nat.le_refl _⟩, ⟨vV b3.out⟩, ⟨vK n.out⟩, ⟨bl_⟩⟩
     ·rw [if_neg z] at H
      have A : (y != (decide ((b.length : Int) > 0))) = false := by simpa using z
      (try (have bu : decide (y = (decide ((b.length : Int) > 0))) = true := by simpa using z))
      (try (have bv : (y == (decide ((b.length : Int) > 0))) = true := by simpa using z))
      clear z
      (first | rw [A] | (simp only [i64_w, i32_w]; rw [A]) | skip)
      replace H := Option.bind_eq_some_iff.mp H
      obtain ⟨I, dQ, H⟩ := H
      replace H : (order_Right.j1 M a1 G p r I d b i j l m a c O br) = some (s, u) := H
      have eS := Z dQ
      clear dQ
      have H' := Z H
      clear H
      cases y
      · have hl_ : decide (0 < b.length) = false := by simpa using A
        clear A
        try clear bu
        try clear bv
        obtain ⟨aU, aV, aW, aX, aY, aZ, a0, a2, bj, bk, bl, bm, bn, bo, bp, bq⟩ := cells8 n.out
        go_wp2_with (first | (go_at_call 63; (with_reducible refine (odd_has.calls _ _ b  I _ ?side1 ?side2 eS.out).mono ?_); (case side1 => repeat (first | exact (Kd.C_below dV.out HB.out) | (with_reducible apply pC))); (case side2 => exact dU.out); rintro e w' ⟨rfl, ⟨nd, rfl⟩⟩))
        go_meet
        case rel => exact ⟨_, (I), (dn_), H', ⟨by have := K.out; first | omega | exact Nat.le_refl _⟩, ⟨vV b3.out⟩, ⟨vK n.out⟩, ⟨bl_⟩⟩
      · have hl_ : decide (0 < b.length) = true := by simpa using A
        clear A
        try clear bu
        try clear bv
        obtain ⟨aU, aV, aW, aX, aY, aZ, a0, a2, bj, bk, bl, bm, bn, bo, bp, bq⟩ := cells8 n.out
        go_wp2_with (first | (go_at_call 63; (with_reducible refine (odd_has.calls _ _ b  I _ ?side1 ?side2 eS.out).mono ?_); (case side1 => repeat (first | exact (Kd.C_below dV.out HB.out) | (with_reducible apply pC))); (case side2 => exact dU.out); rintro e w' ⟨rfl, ⟨nd, rfl⟩⟩))
        go_meet
        case rel => exact ⟨_, (I), (dn_), H', ⟨by have := K.out; first | omega | exact Nat.le_refl _⟩, ⟨vV b3.out⟩, ⟨vK n.out⟩, ⟨bl_⟩⟩
    case rest =>
     clear bZ
     try clear c1
     try clear p2
     try clear c3
     try clear c5
     try clear E
     try clear c6
     try clear c8
     try clear z
     try clear A
     try clear bu
     try clear bv
     try clear aE
     try clear aF
     try clear aG
     try clear aH
     try clear aI
     try clear aJ
     try clear aK
     try clear aL
     try clear aM
     try clear aN
     try clear aO
     try clear aP
     try clear aQ
     try clear aR
     try clear aS
     try clear aT
     try clear aU
     try clear aV
     try clear aW
     try clear aX
     try clear aY
     try clear aZ
     try clear a0
     try clear a2
     try clear Q
     try clear R
     try clear S
     try clear T
     try clear U
     try clear W
     try clear X
     try clear Y
     try clear aa
     try clear ab
     try clear ac
     try clear ad
     try clear ae
     try clear af
     try clear ag
     try clear ah
     try clear a3
     try clear a4
     try clear a5
     try clear a6
     try clear a7
     try clear a8
     try clear a9
     try clear ba
     try clear bb
     try clear bc
     try clear bd
     try clear be
     try clear bf
     try clear bg
     try clear bh
     try clear bi
     try clear bj
     try clear bk
     try clear bl
     try clear bm
     try clear bn
     try clear bo
     try clear bp
     try clear bq
     try clear ai
     try clear aj
     try clear ak
     try clear al
     try clear am
     try clear an
     try clear ao
     try clear ap
     try clear aq
     try clear ar
     try clear au
     try clear av
     try clear aw
     try clear ax
     try clear ay
     try clear az
     try clear p2
     obtain ⟨kq, aA, rfl, HA, B, HO_900010001, n, HB⟩ := hcut
     cases kq with
     | zero => exact absurd HA.out (by simp [order_Right.j1])
     | succ F =>
      have H := HA.out
      clear HA
      simp only [order_Right.j1] at H
      by_cases bx : aA = true
      ·subst bx
       have H1 : (some (some (Er.num 1), ([] : List (S184)))) = some (s, u) := by rw [if_pos rfl] at H; exact H
       clear H
       have H := H1
       clear H1
       simp only [Option.some.injEq, Prod.mk.injEq] at H
       obtain ⟨rfl, rfl⟩ := H
       go_wp2
       go_ret
       exact ⟨_, er_, Kd.R_V (by first | exact Kd.R_nil _ _ _ 0 _ | exact Kd.N_nil _ _ _ _ _ | exact Kd.V_nil _ _ _ _ _ | exact Kd.Q_nil _ _ _ _ _ | exact Kd.S_nil _ _ _ _ _), bl_⟩
      ·replace bx := Bool.eq_false_iff.mpr bx
       subst bx
       have H1 : (if G = true then (if O.isNone = true then (order_Right.j2 F a1 p r false d b i j l m a c) else (order_Right.j2 F a1 p r true d b i j l m a c)) else (order_Right.j2 F a1 p r (i || (j || (!(l == 0) || (m)))) d b i j l m a c)) = some (s, u) := by rw [if_neg (show ¬ (false = true) by decide)] at H; exact H
       clear H
       have H := H1
       clear H1
       have b0 := Z H
       clear H
       go_upto_region 8 with (fail)
       go_cut [49] (fun eW wc => ∃ (kq : Nat) (aB : Bool), eW = .bool aB ∧ Aside0 (order_Right.j2 kq a1 p r aB d b i j l m a c = some (s, u)) ∧ Aside0 (kq ≤ F) ∧ Aside0 (wc.heap[x]? = some (.cells #[.int .i64 d, (.slice J b.length L), .bool i, .bool j, .int .i64 l, .bool m, .int .i64 a, .int .u8 c] 30 (0, 0))) ∧ Aside0 (Below w.heap.size w wc))
       case first =>
        have H := b0.out
        clear b0
        by_cases bz : G = true
        ·subst bz
         have H1 : (if O.isNone = true then (order_Right.j2 F a1 p r false d b i j l m a c) else (order_Right.j2 F a1 p r true d b i j l m a c)) = some (s, u) := by rw [if_pos rfl] at H; exact H
         clear H
         have H := H1
         clear H1
         rcases O with _ | b2
         ·have H1 : (order_Right.j2 F a1 p r false d b i j l m a c) = some (s, u) := by rw [if_pos (show (none : Option Er).isNone = true by rfl)] at H; exact H
          clear H
          have H := H1
          clear H1
          try simp only [errW_none, errW_some]
          have H' := Z H
          clear H
          go_wp2
          go_meet
          case rel => exact ⟨_, (false), (dn_), H', ⟨by have := K.out; have := B.out; first | omega | exact Nat.le_refl _⟩, ⟨vK n.out⟩, ⟨bl_⟩⟩
         ·have H1 : (order_Right.j2 F a1 p r true d b i j l m a c) = some (s, u) := by rw [if_neg (show ¬ (some b2).isNone = true by simp)] at H; exact H
          clear H
          have H := H1
          clear H1
          try simp only [errW_none, errW_some]
          have H' := Z H
          clear H
          go_wp2
          go_meet
          case rel => exact ⟨_, (true), (dn_), H', ⟨by have := K.out; have := B.out; first | omega | exact Nat.le_refl _⟩, ⟨vK n.out⟩, ⟨bl_⟩⟩
        ·replace bz := Bool.eq_false_iff.mpr bz
         subst bz
         have H1 : (order_Right.j2 F a1 p r (i || (j || (!(l == 0) || (m)))) d b i j l m a c) = some (s, u) := by rw [if_neg (show ¬ (false = true) by decide)] at H; exact H
         clear H
         have H := H1
         clear H1
         have H' := Z H
         clear H
         obtain ⟨bC, bD, bE, bF, bG, bH, bI, bJ, bK, bL, bM, bN, bO, bP, bQ, bR⟩ := cells8 n.out
         go_wp2
         go_meet
         case rel => exact ⟨_, ((i || (j || (!(l == 0) || (m))))), (dn_), H', ⟨by have := K.out; have := B.out; first | omega | exact Nat.le_refl _⟩, ⟨vK n.out⟩, ⟨bl_⟩⟩
       case rest =>
        clear b0
        try clear c1
        try clear q1
        try clear c2
        try clear p2
        try clear c3
        try clear c5
        try clear E
        try clear c6
        try clear c8
        try clear z
        try clear A
        try clear bu
        try clear bv
        try clear d1
        try clear bx
        try clear bz
        try clear aE
        try clear aF
        try clear aG
        try clear aH
        try clear aI
        try clear aJ
        try clear aK
        try clear aL
        try clear aM
        try clear aN
        try clear aO
        try clear aP
        try clear aQ
        try clear aR
        try clear aS
        try clear aT
        try clear aU
        try clear aV
        try clear aW
        try clear aX
        try clear aY
        try clear aZ
        try clear a0
        try clear a2
        try clear bC
        try clear bD
        try clear bE
        try clear bF
        try clear bG
        try clear bH
        try clear bI
        try clear bJ
        try clear Q
        try clear R
        try clear S
        try clear T
        try clear U
        try clear W
        try clear X
        try clear Y
        try clear aa
        try clear ab
        try clear ac
        try clear ad
        try clear ae
        try clear af
        try clear ag
        try clear ah
        try clear a3
        try clear a4
        try clear a5
        try clear a6
        try clear a7
        try clear a8
        try clear a9
        try clear ba
        try clear bb
        try clear bc
        try clear bd
        try clear be
        try clear bf
        try clear bg
        try clear bh
        try clear bi
        try clear bj
        try clear bk
        try clear bl
        try clear bm
        try clear bn
        try clear bo
        try clear bp
        try clear bq
        try clear bK
        try clear bL
        try clear bM
        try clear bN
        try clear bO
        try clear bP
        try clear bQ
        try clear bR
        try clear ai
        try clear aj
        try clear ak
        try clear al
        try clear am
        try clear an
        try clear ao
        try clear ap
        try clear aq
        try clear ar
        try clear au
        try clear av
        try clear aw
        try clear ax
        try clear ay
        try clear az
        try clear p2
        try clear b2
        obtain ⟨kq, aB, rfl, HA, aD, n, HB⟩ := hcut
        cases kq with
        | zero => exact absurd HA.out (by simp [order_Right.j2])
        | succ q =>
         have H := HA.out
         clear HA
         simp only [order_Right.j2] at H
         by_cases bS : aB = true
         ·subst bS
          have H1 : (some (some (Er.num 1), ([] : List (S184)))) = some (s, u) := by rw [if_pos rfl] at H; exact H
          clear H
          have H := H1
          clear H1
          simp only [Option.some.injEq, Prod.mk.injEq] at H
          obtain ⟨rfl, rfl⟩ := H
          go_wp2
          go_ret
          exact ⟨_, er_, Kd.R_V (by first | exact Kd.R_nil _ _ _ 0 _ | exact Kd.N_nil _ _ _ _ _ | exact Kd.V_nil _ _ _ _ _ | exact Kd.Q_nil _ _ _ _ _ | exact Kd.S_nil _ _ _ _ _), bl_⟩
         ·replace bS := Bool.eq_false_iff.mpr bS
          subst bS
          have H1 : (if r = true then ((order_Right_1.f c).bind fun bs => (if bs = true then (order_Right.j3 q a1 p true d b i j l m a c) else (if p = true then (order_Right.j3 q a1 p false d b i j l m a c) else (order_Right.j3 q a1 p (a != 0) d b i j l m a c)))) else (if c = 0 then (if p = true then (order_Right.j3 q a1 p false d b i j l m a c) else (order_Right.j3 q a1 p (a != 0) d b i j l m a c)) else (order_Right.j3 q a1 p true d b i j l m a c))) = some (s, u) := by rw [if_neg (show ¬ (false = true) by decide)] at H; exact H
          clear H
          have H := H1
          clear H1
          have b1 := Z H
          clear H
          go_upto_region 10 with (fail)
          go_cut [66] (fun eX wc => ∃ (kq : Nat) (aC : Bool), eX = .bool aC ∧ Aside0 (order_Right.j3 kq a1 p aC d b i j l m a c = some (s, u)) ∧ Aside0 (kq ≤ q) ∧ Aside0 (wc.heap[x]? = some (.cells #[.int .i64 d, (.slice J b.length L), .bool i, .bool j, .int .i64 l, .bool m, .int .i64 a, .int .u8 c] 30 (0, 0))) ∧ Aside0 (Below w.heap.size w wc))
          case first =>
           have H := b1.out
           clear b1
           by_cases c24 : r = true
           ·subst c24
            have H1 : ((order_Right_1.f c).bind fun bs => (if bs = true then (order_Right.j3 q a1 p true d b i j l m a c) else (if p = true then (order_Right.j3 q a1 p false d b i j l m a c) else (order_Right.j3 q a1 p (a != 0) d b i j l m a c)))) = some (s, u) := by rw [if_pos rfl] at H; exact H
            clear H
            have H := H1
            clear H1
            replace H := Option.bind_eq_some_iff.mp H
            obtain ⟨bs, dS, H⟩ := H
            replace H : (if bs = true then (order_Right.j3 q a1 p true d b i j l m a c) else (if p = true then (order_Right.j3 q a1 p false d b i j l m a c) else (order_Right.j3 q a1 p (a != 0) d b i j l m a c))) = some (s, u) := H
            have dR := Z dS
            clear dS
            by_cases bT : bs = true
            ·subst bT
             have H1 : (order_Right.j3 q a1 p true d b i j l m a c) = some (s, u) := by rw [if_pos rfl] at H; exact H
             clear H
             have H := H1
             clear H1
             have H' := Z H
             clear H
             obtain ⟨b9, ca, cb, cc, cd, ce, cf, cg, cW, cX, cY, cZ, c0, c4, c7, c9⟩ := cells8 n.out
             go_wp2_with (first | (go_at_call 61; (with_reducible refine (order_Right_1.calls c true _ dR.out).mono ?_); rintro e w' ⟨rfl, ⟨nd, rfl⟩⟩))
             go_meet
             case rel => exact ⟨_, (true), (dn_), H', ⟨by have := K.out; have := B.out; have := aD.out; first | omega | exact Nat.le_refl _⟩, ⟨vK n.out⟩, ⟨bl_⟩⟩
            ·replace bT := Bool.eq_false_iff.mpr bT
             subst bT
             have H1 : (if p = true then (order_Right.j3 q a1 p false d b i j l m a c) else (order_Right.j3 q a1 p (a != 0) d b i j l m a c)) = some (s, u) := by rw [if_neg (show ¬ (false = true) by decide)] at H; exact H
             clear H
             have H := H1
             clear H1
             by_cases bU : p = true
             ·subst bU
              have H1 : (order_Right.j3 q a1 true false d b i j l m a c) = some (s, u) := by rw [if_pos rfl] at H; exact H
              clear H
              have H := H1
              clear H1
              have H' := Z H
              clear H
              obtain ⟨ch, ci, cj, ck, cl, cm, cn, co, da, db, dc, dd, de, df, dg, dh⟩ := cells8 n.out
              go_wp2_with (first | (go_at_call 61; (with_reducible refine (order_Right_1.calls c false _ dR.out).mono ?_); rintro e w' ⟨rfl, ⟨nd, rfl⟩⟩))
              go_meet
              case rel => exact ⟨_, (false), (dn_), H', ⟨by have := K.out; have := B.out; have := aD.out; first | omega | exact Nat.le_refl _⟩, ⟨vK n.out⟩, ⟨bl_⟩⟩
             ·replace bU := Bool.eq_false_iff.mpr bU
              subst bU
              have H1 : (order_Right.j3 q a1 false (a != 0) d b i j l m a c) = some (s, u) := by rw [if_neg (show ¬ (false = true) by decide)] at H; exact H
              clear H
              have H := H1
              clear H1
              have H' := Z H
              clear H
              obtain ⟨cp, cq, cr, ct, cu, cv, cw, cx, di, dj, dk, dl, dm, dn, dp, dq⟩ := cells8 n.out
              go_wp2_with (first | (go_at_call 61; (with_reducible refine (order_Right_1.calls c false _ dR.out).mono ?_); rintro e w' ⟨rfl, ⟨nd, rfl⟩⟩))
              go_meet
              case rel => exact ⟨_, ((a != 0)), (dn_), H', ⟨by have := K.out; have := B.out; have := aD.out; first | omega | exact Nat.le_refl _⟩, ⟨vK n.out⟩, ⟨bl_⟩⟩
           ·replace c24 := Bool.eq_false_iff.mpr c24
            subst c24
            have H1 : (if c = 0 then (if p = true then (order_Right.j3 q a1 p false d b i j l m a c) else (order_Right.j3 q a1 p (a != 0) d b i j l m a c)) else (order_Right.j3 q a1 p true d b i j l m a c)) = some (s, u) := by rw [if_neg (show ¬ (false = true) by decide)] at H; exact H
            clear H
            have H := H1
            clear H1
            by_cases bt : c = 0
            ·rw [if_pos bt] at H
             have P : (c == 0) = true := beq_iff_eq.mpr bt
             have b4 : (c != 0) = false := bne_eq_false_iff_eq.mpr bt
             clear bt
             (first | rw [P] | (simp only [i64_w, i32_w]; rw [P]) | skip)
             by_cases bV : p = true
             ·subst bV
              have H1 : (order_Right.j3 q a1 true false d b i j l m a c) = some (s, u) := by rw [if_pos rfl] at H; exact H
              clear H
              have H := H1
              clear H1
              have H' := Z H
              clear H
              obtain ⟨cy, cz, cA, cB, cC, cD, cE, cF, dr, ds, dt, du, dv, dw, dx, dy⟩ := cells8 n.out
              go_wp2
              go_meet
              case rel => exact ⟨_, (false), (dn_), H', ⟨by have := K.out; have := B.out; have := aD.out; first | omega | exact Nat.le_refl _⟩, ⟨vK n.out⟩, ⟨bl_⟩⟩
             ·replace bV := Bool.eq_false_iff.mpr bV
              subst bV
              have H1 : (order_Right.j3 q a1 false (a != 0) d b i j l m a c) = some (s, u) := by rw [if_neg (show ¬ (false = true) by decide)] at H; exact H
              clear H
              have H := H1
              clear H1
              have H' := Z H
              clear H
              obtain ⟨cG, cH, cI, cJ, cK, cL, cM, cN, dz, dA, dB, dC, dD, dE, dF, dG⟩ := cells8 n.out
              go_wp2
              go_meet
              case rel => exact ⟨_, ((a != 0)), (dn_), H', ⟨by have := K.out; have := B.out; have := aD.out; first | omega | exact Nat.le_refl _⟩, ⟨vK n.out⟩, ⟨bl_⟩⟩
            ·rw [if_neg bt] at H
             have P : (c == 0) = false := beq_eq_false_iff_ne.mpr bt
             have b4 : (c != 0) = true := bne_iff_ne.mpr bt
             (first | rw [P] | (simp only [i64_w, i32_w]; rw [P]) | skip)
             have H' := Z H
             clear H
             obtain ⟨cO, cP, cQ, cR, cS, cT, cU, cV, dH, dI, dJ, dK, dL, dM, dN, dO⟩ := cells8 n.out
             go_wp2
             go_meet
             case rel => exact ⟨_, (true), (dn_), H', ⟨by have := K.out; have := B.out; have := aD.out; first | omega | exact Nat.le_refl _⟩, ⟨vK n.out⟩, ⟨bl_⟩⟩
          case rest =>
           clear b1
           try clear c1
           try clear q1
           try clear c2
           try clear p2
           try clear c3
           try clear c5
           try clear E
           try clear c6
           try clear c8
           try clear z
           try clear A
           try clear bu
           try clear bv
           try clear d1
           try clear bx
           try clear bz
           try clear bS
           try clear c24
           try clear bT
           try clear bU
           try clear bt
           try clear P
           try clear b4
           try clear bV
           try clear aE
           try clear aF
           try clear aG
           try clear aH
           try clear aI
           try clear aJ
           try clear aK
           try clear aL
           try clear aM
           try clear aN
           try clear aO
           try clear aP
           try clear aQ
           try clear aR
           try clear aS
           try clear aT
           try clear aU
           try clear aV
           try clear aW
           try clear aX
           try clear aY
           try clear aZ
           try clear a0
           try clear a2
           try clear bC
           try clear bD
           try clear bE
           try clear bF
           try clear bG
           try clear bH
           try clear bI
           try clear bJ
           try clear b9
           try clear ca
           try clear cb
           try clear cc
           try clear cd
           try clear ce
           try clear cf
           try clear cg
           try clear ch
           try clear ci
           try clear cj
           try clear ck
           try clear cl
           try clear cm
           try clear cn
           try clear co
           try clear cp
           try clear cq
           try clear cr
           try clear ct
           try clear cu
           try clear cv
           try clear cw
           try clear cx
           try clear cy
           try clear cz
           try clear cA
           try clear cB
           try clear cC
           try clear cD
           try clear cE
           try clear cF
           try clear cG
           try clear cH
           try clear cI
           try clear cJ
           try clear cK
           try clear cL
           try clear cM
           try clear cN
           try clear cO
           try clear cP
           try clear cQ
           try clear cR
           try clear cS
           try clear cT
           try clear cU
           try clear cV
           try clear Q
           try clear R
           try clear S
           try clear T
           try clear U
           try clear W
           try clear X
           try clear Y
           try clear aa
           try clear ab
           try clear ac
           try clear ad
           try clear ae
           try clear af
           try clear ag
           try clear ah
           try clear a3
           try clear a4
           try clear a5
           try clear a6
           try clear a7
           try clear a8
           try clear a9
           try clear ba
           try clear bb
           try clear bc
           try clear bd
           try clear be
           try clear bf
           try clear bg
           try clear bh
           try clear bi
           try clear bj
           try clear bk
           try clear bl
           try clear bm
           try clear bn
           try clear bo
           try clear bp
           try clear bq
           try clear bK
           try clear bL
           try clear bM
           try clear bN
           try clear bO
           try clear bP
           try clear bQ
           try clear bR
           try clear cW
           try clear cX
           try clear cY
           try clear cZ
           try clear c0
           try clear c4
           try clear c7
           try clear c9
           try clear da
           try clear db
           try clear dc
           try clear dd
           try clear de
           try clear df
           try clear dg
           try clear dh
           try clear di
           try clear dj
           try clear dk
           try clear dl
           try clear dm
           try clear dn
           try clear dp
           try clear dq
           try clear dr
           try clear ds
           try clear dt
           try clear du
           try clear dv
           try clear dw
           try clear dx
           try clear dy
           try clear dz
           try clear dA
           try clear dB
           try clear dC
           try clear dD
           try clear dE
           try clear dF
           try clear dG
           try clear dH
           try clear dI
           try clear dJ
           try clear dK
           try clear dL
           try clear dM
           try clear dN
           try clear dO
           try clear ai
           try clear aj
           try clear ak
           try clear al
           try clear am
           try clear an
           try clear ao
           try clear ap
           try clear aq
           try clear ar
           try clear au
           try clear av
           try clear aw
           try clear ax
           try clear ay
           try clear az
           try clear p2
           try clear q1
           try clear d1
           try clear b2
           obtain ⟨kq, aC, rfl, HA, e2, n, HB⟩ := hcut
           cases kq with
           | zero => exact absurd HA.out (by simp [order_Right.j3])
           | succ e7 =>
            have H := HA.out
            clear HA
            simp only [order_Right.j3] at H
            by_cases b5 : aC = true
            ·subst b5
             have H1 : (some (some (Er.num 1), ([] : List (S184)))) = some (s, u) := by rw [if_pos rfl] at H; exact H
             clear H
             have H := H1
             clear H1
             simp only [Option.some.injEq, Prod.mk.injEq] at H
             obtain ⟨rfl, rfl⟩ := H
             go_wp2
             go_ret
             exact ⟨_, er_, Kd.R_V (by first | exact Kd.R_nil _ _ _ 0 _ | exact Kd.N_nil _ _ _ _ _ | exact Kd.V_nil _ _ _ _ _ | exact Kd.Q_nil _ _ _ _ _ | exact Kd.S_nil _ _ _ _ _), bl_⟩
            ·replace b5 := Bool.eq_false_iff.mpr b5
             subst b5
             have H1 : (if p = true then (if a < 0 then (some (some (Er.num 4), ([] : List (S184)))) else (if a ≥ a1 then (some (some (Er.num 4), ([] : List (S184)))) else (some (none, ([] : List (S184)))))) else (some (none, ([] : List (S184))))) = some (s, u) := by rw [if_neg (show ¬ (false = true) by decide)] at H; exact H
             clear H
             have H := H1
             clear H1
             by_cases b6 : p = true
             ·subst b6
              have H1 : (if a < 0 then (some (some (Er.num 4), ([] : List (S184)))) else (if a ≥ a1 then (some (some (Er.num 4), ([] : List (S184)))) else (some (none, ([] : List (S184)))))) = some (s, u) := by rw [if_pos rfl] at H; exact H
              clear H
              have H := H1
              clear H1
              by_cases bA : a < 0
              ·rw [if_pos bA] at H
               have dW : decide (a < 0) = true := decide_eq_true bA
               clear bA
               simp only [Option.some.injEq, Prod.mk.injEq] at H
               obtain ⟨rfl, rfl⟩ := H
               obtain ⟨d5, d6, d7, d8, d9, ea, eb, ec, et, eu, ev, ew, ex, ey, ez, eA⟩ := cells8 n.out
               go_wp2
               go_ret
               exact ⟨_, er_, Kd.R_V (by first | exact Kd.R_nil _ _ _ 0 _ | exact Kd.N_nil _ _ _ _ _ | exact Kd.V_nil _ _ _ _ _ | exact Kd.Q_nil _ _ _ _ _ | exact Kd.S_nil _ _ _ _ _), bl_⟩
              ·rw [if_neg bA] at H
               have dW : decide (a < 0) = false := decide_eq_false bA
               clear bA
               by_cases bB : a ≥ a1
               ·rw [if_pos bB] at H
                have dX : decide (a1 ≤ a) = true := decide_eq_true bB
                clear bB
                simp only [Option.some.injEq, Prod.mk.injEq] at H
                obtain ⟨rfl, rfl⟩ := H
                obtain ⟨ed, ee, ef, eg, eh, ei, ej, ek, eB, eC, eD, eE, eF, eG, eH, eI⟩ := cells8 n.out
                go_wp2
                go_ret
                exact ⟨_, er_, Kd.R_V (by first | exact Kd.R_nil _ _ _ 0 _ | exact Kd.N_nil _ _ _ _ _ | exact Kd.V_nil _ _ _ _ _ | exact Kd.Q_nil _ _ _ _ _ | exact Kd.S_nil _ _ _ _ _), bl_⟩
               ·rw [if_neg bB] at H
                have dX : decide (a1 ≤ a) = false := decide_eq_false bB
                clear bB
                simp only [Option.some.injEq, Prod.mk.injEq] at H
                obtain ⟨rfl, rfl⟩ := H
                obtain ⟨el, em, en, eo, ep, eq, er, es, eJ, eK, eL, eM, eN, eO, eP, eQ⟩ := cells8 n.out
                go_wp2
                go_ret
                exact ⟨_, er_, Kd.R_V (by first | exact Kd.R_nil _ _ _ 0 _ | exact Kd.N_nil _ _ _ _ _ | exact Kd.V_nil _ _ _ _ _ | exact Kd.Q_nil _ _ _ _ _ | exact Kd.S_nil _ _ _ _ _), bl_⟩
             ·replace b6 := Bool.eq_false_iff.mpr b6
              subst b6
              have H1 : (some (none, ([] : List (S184)))) = some (s, u) := by rw [if_neg (show ¬ (false = true) by decide)] at H; exact H
              clear H
              have H := H1
              clear H1
              simp only [Option.some.injEq, Prod.mk.injEq] at H
              obtain ⟨rfl, rfl⟩ := H
              go_wp2
              go_ret
              exact ⟨_, er_, Kd.R_V (by first | exact Kd.R_nil _ _ _ 0 _ | exact Kd.N_nil _ _ _ _ _ | exact Kd.V_nil _ _ _ _ _ | exact Kd.Q_nil _ _ _ _ _ | exact Kd.S_nil _ _ _ _ _), bl_⟩

end Go.Proofs.YtgboplhcjhlabaaDoor.P
