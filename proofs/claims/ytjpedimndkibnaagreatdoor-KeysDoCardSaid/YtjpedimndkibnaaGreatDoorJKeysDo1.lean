/- Printed walks of the law's functions, joined by joinpx.py: each function as a plain Lean function, and that Go's code comes to its answer. -/
import Derived.Test.YtjpedimndkibnaaGreatDoorPx0
import Derived.Test.YtjpedimndkibnaaGreatDoorPxS
import Derived.Test.YtjpedimndkibnaaGreatDoorPxT
import Derived.Test.YtjpedimndkibnaaGreatDoorPx3
import Derived.Test.YtjpedimndkibnaaGreatDoorPx2
namespace Go.Proofs.YtjpedimndkibnaaGreatDoor.P
open Go.RowKit Go.Proofs.YtjpedimndkibnaaGreatDoorW.PrintWords Go.Proofs.YtjpedimndkibnaaGreatDoorW.PrintLast Go.Proofs.YtjpedimndkibnaaGreatDoorW.PrintMore
attribute [local go_sem] max2_int min2_int max_two min_two max_three min_three max_four min_four
attribute [local go_sem] Instr.field asAgg
set_option linter.unusedVariables false
set_option linter.unusedSimpArgs false
set_option maxHeartbeats 8000000
set_option maxRecDepth 100000
mutual
def shutterref10_Right.j0 : Nat → Bool → Int → Int → List (S55) → Int → Bool → Bool → Option (Bool)
 | 0, _, _, _, _, _, _, _ => none
 | k + 1, g, a, b, c, d, e, f => if g = true then (some false) else (shutterref10_Right.l0 k 0 a b c d e f)
def shutterref10_Right.l0 : Nat → Int → Int → Int → List (S55) → Int → Bool → Bool → Option (Bool)
 | 0, _, _, _, _, _, _, _ => none
 | k + 1, b, c, d, a, e, g, h => if b < (a.length : Int) then (if 0 ≤ b then ((shutterref10_Cell.f ((rd_T55 a b).f0) ((rd_T55 a b).f1.f0) ((rd_T55 a b).f1.f1) ((rd_T55 a b).f1.f2) ((rd_T55 a b).f1.f3) ((rd_T55 a b).f2)).bind fun i => (if i = true then (shutterref10_Right.l0 k (wrap64 (b + 1)) c d a e g h) else (some false))) else (none)) else (some true)
end
def shutterref10_Right.f (k : Nat) (a b : Int) (d : List (S55)) (c : Int) (e g : Bool) : Option (Bool) := (shutterref10_Sized.f a b).bind fun h => (if h = true then (if (d.length : Int) = (wrap64 (a * b)) then (if c < 0 then (shutterref10_Right.j0 k true a b d c e g) else (shutterref10_Right.j0 k (decide (c ≥ (d.length : Int))) a b d c e g)) else (shutterref10_Right.j0 k true a b d c e g)) else (shutterref10_Right.j0 k true a b d c e g))
theorem shutterref10_Right.mono_l : ∀ k, (∀ a b c d e f g, LeO (shutterref10_Right.j0 k a b c d e f g) (shutterref10_Right.j0 (k + 1) a b c d e f g)) ∧ (∀ a b c d e f g, LeO (shutterref10_Right.l0 k a b c d e f g) (shutterref10_Right.l0 (k + 1) a b c d e f g))
 | 0 => ⟨fun _ _ _ _ _ _ _ r h => by simp [shutterref10_Right.j0] at h, fun _ _ _ _ _ _ _ r h => by simp [shutterref10_Right.l0] at h⟩
 | k + 1 => by
  obtain ⟨i, j⟩ := shutterref10_Right.mono_l k
  refine ⟨?_, ?_⟩
  ·intro a b c d e f g
   unfold shutterref10_Right.j0
   repeat' first
   | (with_reducible exact i _ _ _ _ _ _ _)
   | (with_reducible exact j _ _ _ _ _ _ _)
   | (with_reducible exact LeO.refl _)
   | (with_reducible exact LeO.none _)
   | (with_reducible refine LeO.ite ?_ ?_)
   | (with_reducible refine LeO.bind ?_ (fun _ => ?_))
   | exact i _ _ _ _ _ _ _
   | exact j _ _ _ _ _ _ _
   | exact LeO.none _
   | refine LeO.ite ?_ ?_
   | refine LeO.bind ?_ (fun _ => ?_)
  ·intro a b c d e f g
   unfold shutterref10_Right.l0
   repeat' first
   | (with_reducible exact i _ _ _ _ _ _ _)
   | (with_reducible exact j _ _ _ _ _ _ _)
   | (with_reducible exact LeO.refl _)
   | (with_reducible exact LeO.none _)
   | (with_reducible refine LeO.ite ?_ ?_)
   | (with_reducible refine LeO.bind ?_ (fun _ => ?_))
   | exact i _ _ _ _ _ _ _
   | exact j _ _ _ _ _ _ _
   | exact LeO.none _
   | refine LeO.ite ?_ ?_
   | refine LeO.bind ?_ (fun _ => ?_)
theorem shutterref10_Right.mono : ∀ a0 a1 c d a4 e k, LeO (shutterref10_Right.f k a0 a1 c d a4 e) (shutterref10_Right.f (k + 1) a0 a1 c d a4 e) := by
 intro a0 a1 c d a4 e k
 obtain ⟨a, b⟩ := shutterref10_Right.mono_l k
 unfold shutterref10_Right.f
 repeat' first
   | (with_reducible exact a _ _ _ _ _ _ _)
   | (with_reducible exact b _ _ _ _ _ _ _)
   | (with_reducible exact LeO.refl _)
   | (with_reducible exact LeO.none _)
   | (with_reducible refine LeO.ite ?_ ?_)
   | (with_reducible refine LeO.bind ?_ (fun _ => ?_))
   | exact a _ _ _ _ _ _ _
   | exact b _ _ _ _ _ _ _
   | exact LeO.none _
   | refine LeO.ite ?_ ?_
   | refine LeO.bind ?_ (fun _ => ?_)
theorem shutterref10_Right.calls (k : Nat) (c d : Int) (D : Option Addr) (E : Nat) (a : List (S55)) (g : Int) (j l r : Bool) (w : World) (aQ : Kd.C k55 w D a.length a) (aP : a.length ≤ E) (h : shutterref10_Right.f k c d a g j l = some r) :
  Calls Tryz.prog 18 #[.agg #[.int .i64 c, .int .i64 d, .slice D a.length E, .int .i64 g, .bool j, .bool l]] w fun e w' => e = .returned (.bool r) ∧ Below w.heap.size w w' := by
 have bL := Tryz.underlying24
 have bM := Tryz.underlying55
 have aM := Z aQ
 have bJ := Z aP
 clear aQ aP
 have HB := Z (Below.refl w.heap.size w)
 unfold shutterref10_Right.f at h
 have H := h
 clear h
 have aS := Z H
 clear H
 go_enter Tryz.func18, Tryz.ntmps18
 go_upto_region 1 with (first | ((with_reducible refine gD_ 1 rfl ?_); (try (refine gate_guard (by rfl) ?_; dsimp only)); refine bx_ 1 24 #[.int .i64 c, .int .i64 d, .slice D a.length E, .int .i64 g, .bool j, .bool l] ?_; intro A hg w3 hbox hb; have i := Z hbox; have bI := ln' w hg; replace HB := bs_ hb; clear hb hbox hg))
 (try simp only [Act.put, sA, sB, sC])
 go_cut [33] (fun bG wc => ∃ (kq : Nat) (B : Bool), bG = .bool B ∧ Aside0 (shutterref10_Right.j0 kq B c d a g j l = some r) ∧ Aside0 (kq ≤ k) ∧ Aside0 (wc.heap[A]? = some (.cells #[.int .i64 c, .int .i64 d, (.slice D a.length E), .int .i64 g, .bool j, .bool l] 24 (0, 0))) ∧ Aside0 (Below w.heap.size w wc))
 case first =>
  have H := aS.out
  clear aS
  replace H := bn_ H
  obtain ⟨ah, A4, H⟩ := H
  cases ah
  ·rw [iF_] at H
   have H' := Z H
   clear H
   have O := cells6 i.out
   go_wp2_with (first | ((with_reducible refine gF_ 44 rfl ?_); refine gd_ (some 8) Tryz.func44 (shutterref10_Sized.calls c d false _ A4.out) ?_; rintro e w' ⟨rfl, ⟨nd, rfl⟩⟩; refine ⟨_, rfl, ?_⟩))
   go_meet
   case rel => exact ⟨_, (true), (dn_), H', ⟨by first | omega | exact Nat.le_refl _⟩, ⟨vK i.out⟩, ⟨bl_⟩⟩
  rw [if_pos rfl] at H
  by_cases c6 : (a.length : Int) = (wrap64 (c * d))
  ·rw [if_pos c6] at H
   obtain ⟨u, aJ⟩ := eT_ c6
   clear c6
   (first | rw [u] | (simp only [i64_w, i32_w]; rw [u]) | skip)
   by_cases c7 : g < 0
   ·rw [if_pos c7] at H
    have aK := decide_eq_true c7
    clear c7
    have H' := Z H
    clear H
    have aj := cells6 i.out
    go_wp2_with (first | ((with_reducible refine gF_ 44 rfl ?_); refine gd_ (some 8) Tryz.func44 (shutterref10_Sized.calls c d true _ A4.out) ?_; rintro e w' ⟨rfl, ⟨nd, rfl⟩⟩; refine ⟨_, rfl, ?_⟩))
    go_meet
    case rel => exact ⟨_, (true), (dn_), H', ⟨by first | omega | exact Nat.le_refl _⟩, ⟨vK i.out⟩, ⟨bl_⟩⟩
   rw [if_neg c7] at H
   have aK := decide_eq_false c7
   clear c7
   have H' := Z H
   clear H
   have ap := cells6 i.out
   go_wp2_with (first | ((with_reducible refine gF_ 44 rfl ?_); refine gd_ (some 8) Tryz.func44 (shutterref10_Sized.calls c d true _ A4.out) ?_; rintro e w' ⟨rfl, ⟨nd, rfl⟩⟩; refine ⟨_, rfl, ?_⟩))
   go_meet
   case rel => exact ⟨_, (decide (g ≥ (a.length : Int))), (dn_), H', ⟨by first | omega | exact Nat.le_refl _⟩, ⟨vK i.out⟩, ⟨bl_⟩⟩
  rw [if_neg c6] at H
  obtain ⟨u, aJ⟩ := eF_ c6
  (first | rw [u] | (simp only [i64_w, i32_w]; rw [u]) | skip)
  have H' := Z H
  clear H
  have G := cells6 i.out
  go_wp2_with (first | ((with_reducible refine gF_ 44 rfl ?_); refine gd_ (some 8) Tryz.func44 (shutterref10_Sized.calls c d true _ A4.out) ?_; rintro e w' ⟨rfl, ⟨nd, rfl⟩⟩; refine ⟨_, rfl, ?_⟩))
  go_meet
  case rel => exact ⟨_, (true), (dn_), H', ⟨by first | omega | exact Nat.le_refl _⟩, ⟨vK i.out⟩, ⟨bl_⟩⟩
 clear aS
 obtain ⟨kq, B, rfl, HA, a0, i, HB⟩ := hcut
 cases kq with
 | zero => exact absurd HA.out (by simp [shutterref10_Right.j0])
 | succ aT =>
  have H := HA.out
  clear HA
  simp only [shutterref10_Right.j0] at H
  by_cases ai : B = true
  ·subst ai
   rw [if_pos rfl] at H
   obtain rfl := Option.some.inj H
   go_wp2
   go_ret
   exact ⟨er_, bl_⟩
  replace ai := Bool.eq_false_iff.mpr ai
  subst ai
  rw [iF_] at H
  have H' := Z H
  clear H
  go_wp2
  go_loopg [3] aT (fun kq v3 w' => ∃ (b : Int), v3 = .int .i64 b ∧ Aside0 (shutterref10_Right.l0 kq b c d a g j l = some r) ∧ Aside0 (kq ≤ aT) ∧ Aside0 (w'.heap[A]? = some (.cells #[.int .i64 c, .int .i64 d, (.slice D a.length E), .int .i64 g, .bool j, .bool l] 24 (0, 0))) ∧ Aside0 (Below w.heap.size w w'))
  case atStart => exact ⟨(0), (dn_), H', ⟨Nat.le_refl _⟩, ⟨vK i.out⟩, ⟨bl_⟩⟩
  case round =>
   clear H'
   try clear ai
   obtain ⟨b, rfl, HA, a1, i, HB⟩ := hrel
   cases gk with
   | zero => exact absurd HA.out (by simp [shutterref10_Right.l0])
   | succ k2 =>
    have H := HA.out
    clear HA
    simp only [shutterref10_Right.l0] at H
    by_cases F : b < (a.length : Int)
    rotate_left
    ·rw [if_neg F] at H
     have aX := decide_eq_false F
     clear F
     obtain rfl := Option.some.inj H
     have bg := cells6 i.out
     go_wp2
     go_ret
     exact ⟨er_, bl_⟩
    rw [if_pos F] at H
    have aX := decide_eq_true F
    clear F
    obtain ⟨aN, H⟩ := gt_ H
    have bK := decide_eq_true aN
    clear aN
    replace H := bn_ H
    obtain ⟨aU, aY, H⟩ := H
    by_cases aO : aU = true
    ·subst aO
     rw [if_pos rfl] at H
     have H' := Z H
     clear H
     have a4 := cells6 i.out
     have v : 0 ≤ (b : Int) := od_
     have x : b < (a.length : Int) := od_
     obtain ⟨aW, aL, m, n, o, p, q, s⟩ := at_T55 aM.out b v x
     cases aL
     replace m := (HB.out.cell (bk_ w _ m)).trans m
     replace n := (HB.out.cell (bk_ w _ n)).trans n
     replace o := (HB.out.cell (bk_ w _ o)).trans o
     replace p := (HB.out.cell (bk_ w _ p)).trans p
     replace q := (HB.out.cell (bk_ w _ q)).trans q
     replace s := (HB.out.cell (bk_ w _ s)).trans s
     replace v := eq_true v
     replace x := eq_true x
     go_wp2_with (first | ((with_reducible refine gF_ 45 rfl ?_); refine gd_ (some 46) Tryz.func45 (shutterref10_Cell.calls ((rd_T55 a b).f0) ((rd_T55 a b).f1.f0) ((rd_T55 a b).f1.f1) ((rd_T55 a b).f1.f2) ((rd_T55 a b).f1.f3) ((rd_T55 a b).f2) true _ aY.out) ?_; rintro e bO ⟨rfl, hb⟩; refine ⟨_, rfl, ?_⟩; replace i := kb' i hb; replace HB := bs_ hb; (try clear hb)))
     go_roundg k2
     case measure => have := a0.out; have := a1.out; omega
     case rel => exact ⟨(wrap64 (b + 1)), (dn_), H', ⟨by have := a0.out; have := a1.out; omega⟩, ⟨vK i.out⟩, ⟨bl_⟩⟩
    replace aO := Bool.eq_false_iff.mpr aO
    subst aO
    rw [iF_] at H
    obtain rfl := Option.some.inj H
    have ba := cells6 i.out
    have v : 0 ≤ (b : Int) := od_
    have x : b < (a.length : Int) := od_
    obtain ⟨aW, aL, m, n, o, p, q, s⟩ := at_T55 aM.out b v x
    cases aL
    replace m := (HB.out.cell (bk_ w _ m)).trans m
    replace n := (HB.out.cell (bk_ w _ n)).trans n
    replace o := (HB.out.cell (bk_ w _ o)).trans o
    replace p := (HB.out.cell (bk_ w _ p)).trans p
    replace q := (HB.out.cell (bk_ w _ q)).trans q
    replace s := (HB.out.cell (bk_ w _ s)).trans s
    replace v := eq_true v
    replace x := eq_true x
    go_wp2_with (first | ((with_reducible refine gF_ 45 rfl ?_); refine gd_ (some 46) Tryz.func45 (shutterref10_Cell.calls ((rd_T55 a b).f0) ((rd_T55 a b).f1.f0) ((rd_T55 a b).f1.f1) ((rd_T55 a b).f1.f2) ((rd_T55 a b).f1.f3) ((rd_T55 a b).f2) false _ aY.out) ?_; rintro e bP ⟨rfl, hb⟩; refine ⟨_, rfl, ?_⟩; replace i := kb' i hb; replace HB := bs_ hb; (try clear hb)))
    go_ret
    exact ⟨er_, bl_⟩
def shutterref10_Few.f (k : Nat) (b c : Int) (a : List (S55)) (d : Int) (e g : Bool) : Option (Bool) := if (a.length : Int) ≤ 200 then ((shutterref10_Right.f k b c a d e g).bind fun h => (some h)) else (some false)
theorem shutterref10_Few.mono : ∀ a0 a1 a b a4 c k, LeO (shutterref10_Few.f k a0 a1 a b a4 c) (shutterref10_Few.f (k + 1) a0 a1 a b a4 c) := by
 intro a0 a1 a b a4 c k
 unfold shutterref10_Few.f
 repeat' first
   | (with_reducible exact shutterref10_Right.mono _ _ _ _ _ _ _)
   | (with_reducible exact LeO.refl _)
   | (with_reducible exact LeO.none _)
   | (with_reducible refine LeO.ite ?_ ?_)
   | (with_reducible refine LeO.bind ?_ (fun _ => ?_))
   | exact shutterref10_Right.mono _ _ _ _ _ _ _
   | exact LeO.none _
   | refine LeO.ite ?_ ?_
   | refine LeO.bind ?_ (fun _ => ?_)
theorem shutterref10_Few.calls (k : Nat) (d g : Int) (o : Option Addr) (p : Nat) (a : List (S55)) (i : Int) (j l r : Bool) (w : World) (x : Kd.C k55 w o a.length a) (v : a.length ≤ p) (h : shutterref10_Few.f k d g a i j l = some r) :
  Calls Tryz.prog 6 #[.agg #[.int .i64 d, .int .i64 g, .slice o a.length p, .int .i64 i, .bool j, .bool l]] w fun e w' => e = .returned (.bool r) ∧ Below w.heap.size w w' := by
 have ai := Tryz.underlying24
 have B := Z x
 have A := Z v
 clear x v
 have HB := Z (Below.refl w.heap.size w)
 unfold shutterref10_Few.f at h
 have H := h
 clear h
 by_cases c2 : (a.length : Int) ≤ 200
 ·rw [if_pos c2] at H
  have E := decide_eq_true c2
  have F : decide (a.length ≤ 200) = true := decide_eq_true (by omega)
  clear c2
  replace H := bn_ H
  obtain ⟨q, A3, H⟩ := H
  obtain rfl := Option.some.inj H
  go_enter Tryz.func6, Tryz.ntmps6
  go_wp2_with (first | ((with_reducible refine gD_ 1 rfl ?_); refine bx_ 1 24 #[.int .i64 d, .int .i64 g, .slice o a.length p, .int .i64 i, .bool j, .bool l] ?_; intro c hg w4 hbox hb; have b := Z hbox; have z := ln' w hg; replace HB := bs_ hb; clear hb hbox hg; have G := cells6 b.out) | (go_at_call 18; (with_reducible refine (shutterref10_Right.calls k d g _ _ a i j l q _ ?side1 ?side2 A3.out).mono ?_); (case side1 => repeat (first | exact (Kd.C_below B.out HB.out) | (with_reducible apply pC))); (case side2 => exact A.out); rintro e w6 ⟨rfl, hb⟩; replace b := kb' b hb; replace HB := bs_ hb; (try clear hb)))
  go_ret
  exact ⟨er_, bl_⟩
 rw [if_neg c2] at H
 have E := decide_eq_false c2
 have F : decide (a.length ≤ 200) = false := decide_eq_false (by omega)
 clear c2
 obtain rfl := Option.some.inj H
 go_enter Tryz.func6, Tryz.ntmps6
 go_wp2_with (first | ((with_reducible refine gD_ 1 rfl ?_); refine bx_ 1 24 #[.int .i64 d, .int .i64 g, .slice o a.length p, .int .i64 i, .bool j, .bool l] ?_; intro c hg w7 hbox hb; have b := Z hbox; have z := ln' w hg; replace HB := bs_ hb; clear hb hbox hg; have O := cells6 b.out))
 go_ret
 exact ⟨er_, bl_⟩
section
def api_Code.f (a : Option Er) (b : List S206) : Option Int :=
 match a with
 | none => some 0
 | some (.num n) => some n
 | some .spot => match b with | [s] => some s.f1 | _ => none
theorem api_Code.calls (c : Option Er) (g : Option Addr) (d : Nat) (a : List S206) (r : Int) (w : World) (b : Kd.C k206 w g a.length a) (i : a.length ≤ d) (hG : LaidG w) (h : api_Code.f c a = some r) :
  Calls Tryz.prog 10 #[errW (.slice g a.length d) c] w fun e w' => e = .returned (.int .i64 r) ∧ Below w.heap.size w w' := by
 rcases c with _ | q
 ·obtain rfl := Option.some.inj h
  rw [errW_none]
  clear b h
  go_enter Tryz.func10, Tryz.ntmps10
  go_wp2
  go_ret
  exact ⟨rfl, below_alloc (Below.refl _ _) _⟩
 cases q with
 | num n =>
  obtain rfl := Option.some.inj h
  rw [errW_some, show (Er.num n).ty = 69 from rfl, show (Er.num n).pay _ = .int .i64 n from rfl]
  clear b h
  have HA := Z (EA.hit n ⟨w.heap.size, 0, none⟩ (.int .i64 0) (w.alloc (.cells #[.int .i64 0] 69)) (laidG_alloc hG _) (by simp) (by rw [frozen?_alloc_cells]; simp [World.frozen?]))
  go_enter Tryz.func10, Tryz.ntmps10
  go_wp2_with (go_at_call 31; refine HA.out.mono ?_; rintro e w' ⟨rfl, rfl⟩)
  go_ret
  exact ⟨rfl, below_alloc (below_alloc (below_alloc (below_alloc (below_alloc (Below.refl _ _) _) _) _) _) _⟩
 | spot =>
  match a, b, i, h with
  | [s], hr, hc, h =>
   obtain rfl := Option.some.inj h
   obtain ⟨ad, rfl, k, j⟩ := spot_at hr
   rw [errW_some, show Er.spot.ty = 72 from rfl, show Er.spot.pay (.slice (some ad) ([s] : List S206).length d) = .pointer (some ad) from rfl]
   have hlt := bk_ w ⟨ad.block, ad.off + 1, none⟩ j
   have HA := Z (EA.spot ad s.f1 ⟨w.heap.size, 0, none⟩ (.int .i64 0) (w.alloc (.cells #[.int .i64 0] 69)) (by rw [World.cell?_alloc_lt _ _ ⟨ad.block, ad.off + 1, none⟩ hlt]; exact j) (laidG_alloc hG _) (by simp) (by rw [frozen?_alloc_cells]; simp [World.frozen?]))
   clear k j hr hlt h
   go_enter Tryz.func10, Tryz.ntmps10
   go_wp2_with (go_at_call 31; refine HA.out.mono ?_; rintro e w' ⟨rfl, rfl⟩)
   go_ret
   exact ⟨rfl, below_alloc (below_alloc (below_alloc (below_alloc (below_alloc (Below.refl _ _) _) _) _) _) _⟩
end
section
def api_Where.f (a : Option Er) (b : List S206) : Option Int :=
 match a with
 | none => some (-1)
 | some (.num _) => some (-1)
 | some .spot => match b with | [s] => some s.f0 | _ => none
theorem api_Where.calls (c : Option Er) (g : Option Addr) (d : Nat) (a : List S206) (r : Int) (w : World) (b : Kd.C k206 w g a.length a) (i : a.length ≤ d) (hG : LaidG w) (h : api_Where.f c a = some r) :
  Calls Tryz.prog 11 #[errW (.slice g a.length d) c] w fun e w' => e = .returned (.int .i64 r) ∧ Below w.heap.size w w' := by
 rcases c with _ | q
 ·obtain rfl := Option.some.inj h
  rw [errW_none]
  clear b h
  go_enter Tryz.func11, Tryz.ntmps11
  go_wp2
  go_ret
  exact ⟨rfl, below_alloc (Below.refl _ _) _⟩
 cases q with
 | num n =>
  obtain rfl := Option.some.inj h
  rw [errW_some, show (Er.num n).ty = 69 from rfl, show (Er.num n).pay _ = .int .i64 n from rfl]
  clear b h
  have HA := Z (EW.miss n ⟨w.heap.size, 0, none⟩ (.pointer none) (w.alloc (.cells #[.pointer none] 72)) (laidG_alloc hG _) (by simp) (by rw [frozen?_alloc_cells]; simp [World.frozen?]))
  go_enter Tryz.func11, Tryz.ntmps11
  go_wp2_with (go_at_call 31; refine HA.out.mono ?_; rintro e w' ⟨rfl, rfl⟩)
  go_ret
  exact ⟨rfl, below_alloc (below_alloc (below_alloc (below_alloc (Below.refl _ _) _) _) _) _⟩
 | spot =>
  match a, b, i, h with
  | [s], hr, hc, h =>
   obtain rfl := Option.some.inj h
   obtain ⟨ad, rfl, j, k⟩ := spot_at hr
   rw [errW_some, show Er.spot.ty = 72 from rfl, show Er.spot.pay (.slice (some ad) ([s] : List S206).length d) = .pointer (some ad) from rfl]
   have hlt := bk_ w ad j
   have HA := Z ((EW.hit ad ⟨w.heap.size, 0, none⟩ (.pointer none) (w.alloc (.cells #[.pointer none] 72)) (laidG_alloc hG _) (by simp) (by rw [frozen?_alloc_cells]; simp [World.frozen?])).mono (R' := fun ev w' => ev = .returned (.bool true) ∧ (w'.cell? ⟨w.heap.size, 0, none⟩ = some (.pointer (some ad)) ∧ w'.cell? ad = some (.int .i64 s.f0) ∧ Aside0 (Below w.heap.size w w'))) (fun ev w' h_ => ⟨h_.1, by
    rw [h_.2]
    refine ⟨(blk_cell (blk_put (cs' := #[.pointer (some ad)]) (pK (pK (pK (pK (blk_new w _))))) 0 _ rfl) 0).trans rfl, ?_, ⟨below_set (below_alloc (below_alloc (below_alloc (below_alloc (below_alloc (Below.refl _ _) _) _) _) _) _) (Nat.le_refl _)⟩⟩
    refine (cell_far (p := ⟨w.heap.size, 0, none⟩) (Nat.ne_of_lt hlt) _).trans ?_
    rw [World.cell?_alloc_lt _ _ ad (by simp; omega), World.cell?_alloc_lt _ _ ad (by simp; omega), World.cell?_alloc_lt _ _ ad (by simp; omega), World.cell?_alloc_lt _ _ ad (by simp; omega), World.cell?_alloc_lt _ _ ad hlt]; exact j⟩))
   have hu := Tryz.underlying75
   have l := Tryz.underlying72
   clear j k hr hlt h
   go_enter Tryz.func11, Tryz.ntmps11
   go_wp2_with (go_at_call 31; refine HA.out.mono ?_; rintro e w' ⟨rfl, hP, hA, HB⟩)
   go_ret
   exact ⟨rfl, HB.out⟩
end
end Go.Proofs.YtjpedimndkibnaaGreatDoor.P
namespace Go.Proofs.YtjpedimndkibnaaGreatDoor.P
open Go.RowKit Go.Proofs.YtjpedimndkibnaaGreatDoorW.PrintWords Go.Proofs.YtjpedimndkibnaaGreatDoorW.PrintLast Go.Proofs.YtjpedimndkibnaaGreatDoorW.PrintMore
attribute [local go_sem] max2_int min2_int max_two min_two max_three min_three max_four min_four
attribute [local go_sem] Instr.field asAgg
set_option linter.unusedVariables false
set_option linter.unusedSimpArgs false
set_option maxHeartbeats 8000000
set_option maxRecDepth 100000
attribute [local go_sem high] eqA55
mutual
def shutterref10_Same.j0 : Nat → Bool → Int → Int → List (S55) → Int → Bool → Bool → Int → Int → List (S55) → Int → Bool → Bool → Option (Bool)
 | 0, _, _, _, _, _, _, _, _, _, _, _, _, _ => none
 | k + 1, n, a, b, c, d, e, f, g, h, i, j, l, m => if n = true then (some false) else (shutterref10_Same.l0 k 0 a b c d e f g h i j l m)
def shutterref10_Same.l0 : Nat → Int → Int → Int → List (S55) → Int → Bool → Bool → Int → Int → List (S55) → Int → Bool → Bool → Option (Bool)
 | 0, _, _, _, _, _, _, _, _, _, _, _, _, _ => none
 | k + 1, c, d, e, a, f, g, h, i, j, b, l, m, n => if c < (a.length : Int) then (if 0 ≤ c then (if c < (b.length : Int) then (if (!(((rd_T55 a c).f0) == ((rd_T55 b c).f0)) || ((!(((rd_T55 a c).f1.f0) == ((rd_T55 b c).f1.f0)) || (!(((rd_T55 a c).f1.f1) == ((rd_T55 b c).f1.f1)) || (!(((rd_T55 a c).f1.f2) == ((rd_T55 b c).f1.f2)) || (!(((rd_T55 a c).f1.f3) == ((rd_T55 b c).f1.f3)))))) || (!(((rd_T55 a c).f2) == ((rd_T55 b c).f2))))) = true then (some false) else (shutterref10_Same.l0 k (wrap64 (c + 1)) d e a f g h i j b l m n)) else (none)) else (none)) else (some true)
end
def shutterref10_Same.f (k : Nat) (a b : Int) (m : List (S55)) (c : Int) (d e : Bool) (g h : Int) (n : List (S55)) (i : Int) (j l : Bool) : Option (Bool) := if a = g then (if b = h then (if c = i then (if (d != j) = true then (shutterref10_Same.j0 k true a b m c d e g h n i j l) else (if (e != l) = true then (shutterref10_Same.j0 k true a b m c d e g h n i j l) else (shutterref10_Same.j0 k ((m.length : Int) != (n.length : Int)) a b m c d e g h n i j l))) else (shutterref10_Same.j0 k true a b m c d e g h n i j l)) else (shutterref10_Same.j0 k true a b m c d e g h n i j l)) else (shutterref10_Same.j0 k true a b m c d e g h n i j l)
theorem shutterref10_Same.mono_l : ∀ k, (∀ d e f g i j l m n o a b c, LeO (shutterref10_Same.j0 k d e f g i j l m n o a b c) (shutterref10_Same.j0 (k + 1) d e f g i j l m n o a b c)) ∧ (∀ d e f g i j l m n o a b c, LeO (shutterref10_Same.l0 k d e f g i j l m n o a b c) (shutterref10_Same.l0 (k + 1) d e f g i j l m n o a b c))
 | 0 => ⟨fun _ _ _ _ _ _ _ _ _ _ _ _ _ r h => by simp [shutterref10_Same.j0] at h, fun _ _ _ _ _ _ _ _ _ _ _ _ _ r h => by simp [shutterref10_Same.l0] at h⟩
 | k + 1 => by
  obtain ⟨p, q⟩ := shutterref10_Same.mono_l k
  refine ⟨?_, ?_⟩
  ·intro d e f g i j l m n o a b c
   unfold shutterref10_Same.j0
   repeat' first
   | (with_reducible exact p _ _ _ _ _ _ _ _ _ _ _ _ _)
   | (with_reducible exact q _ _ _ _ _ _ _ _ _ _ _ _ _)
   | (with_reducible exact LeO.refl _)
   | (with_reducible exact LeO.none _)
   | (with_reducible refine LeO.ite ?_ ?_)
   | (with_reducible refine LeO.bind ?_ (fun _ => ?_))
   | exact p _ _ _ _ _ _ _ _ _ _ _ _ _
   | exact q _ _ _ _ _ _ _ _ _ _ _ _ _
   | exact LeO.none _
   | refine LeO.ite ?_ ?_
   | refine LeO.bind ?_ (fun _ => ?_)
  ·intro d e f g i j l m n o a b c
   unfold shutterref10_Same.l0
   repeat' first
   | (with_reducible exact p _ _ _ _ _ _ _ _ _ _ _ _ _)
   | (with_reducible exact q _ _ _ _ _ _ _ _ _ _ _ _ _)
   | (with_reducible exact LeO.refl _)
   | (with_reducible exact LeO.none _)
   | (with_reducible refine LeO.ite ?_ ?_)
   | (with_reducible refine LeO.bind ?_ (fun _ => ?_))
   | exact p _ _ _ _ _ _ _ _ _ _ _ _ _
   | exact q _ _ _ _ _ _ _ _ _ _ _ _ _
   | exact LeO.none _
   | refine LeO.ite ?_ ?_
   | refine LeO.bind ?_ (fun _ => ?_)
theorem shutterref10_Same.mono : ∀ a0 a1 e g a4 h i j l m a b k, LeO (shutterref10_Same.f k a0 a1 e g a4 h i j l m a b) (shutterref10_Same.f (k + 1) a0 a1 e g a4 h i j l m a b) := by
 intro a0 a1 e g a4 h i j l m a b k
 obtain ⟨c, d⟩ := shutterref10_Same.mono_l k
 unfold shutterref10_Same.f
 repeat' first
   | (with_reducible exact c _ _ _ _ _ _ _ _ _ _ _ _ _)
   | (with_reducible exact d _ _ _ _ _ _ _ _ _ _ _ _ _)
   | (with_reducible exact LeO.refl _)
   | (with_reducible exact LeO.none _)
   | (with_reducible refine LeO.ite ?_ ?_)
   | (with_reducible refine LeO.bind ?_ (fun _ => ?_))
   | exact c _ _ _ _ _ _ _ _ _ _ _ _ _
   | exact d _ _ _ _ _ _ _ _ _ _ _ _ _
   | exact LeO.none _
   | refine LeO.ite ?_ ?_
   | refine LeO.bind ?_ (fun _ => ?_)
theorem shutterref10_Same.calls (k : Nat) (p q : Int) (U : Option Addr) (W : Nat) (c : List (S55)) (s : Int) (l m : Bool) (u v : Int) (V : Option Addr) (X : Nat) (d : List (S55)) (x : Int) (n o r : Bool) (w : World) (dc : Kd.C k55 w U c.length c) (da : c.length ≤ W) (dd : Kd.C k55 w V d.length d) (db : d.length ≤ X) (h : shutterref10_Same.f k p q c s l m u v d x n o = some r) :
  Calls Tryz.prog 12 #[.agg #[.int .i64 p, .int .i64 q, .slice U c.length W, .int .i64 s, .bool l, .bool m], .agg #[.int .i64 u, .int .i64 v, .slice V d.length X, .int .i64 x, .bool n, .bool o]] w fun e w' => e = .returned (.bool r) ∧ Below w.heap.size w w' := by
 have eQ := Tryz.underlying24
 have eR := Tryz.underlying55
 have c0 := Z dc
 have es := Z da
 clear dc da
 have c3 := Z dd
 have et := Z db
 clear dd db
 have HB := Z (Below.refl w.heap.size w)
 unfold shutterref10_Same.f at h
 have H := h
 clear h
 have de := Z H
 clear H
 go_enter Tryz.func12, Tryz.ntmps12
 go_upto_region 1 with (first | ((with_reducible refine gD_ 2 rfl ?_); (try (refine gate_guard (by rfl) ?_; dsimp only)); refine bx_ 2 24 #[.int .i64 p, .int .i64 q, .slice U c.length W, .int .i64 s, .bool l, .bool m] ?_; intro M hg w4 hbox hb; have b := Z hbox; have cY := ln' w hg; replace HB := bs_ hb; clear hb hbox hg) | ((with_reducible refine gD_ 3 rfl ?_); (try (refine gate_guard (by rfl) ?_; dsimp only)); refine bx_ 3 24 #[.int .i64 u, .int .i64 v, .slice V d.length X, .int .i64 x, .bool n, .bool o] ?_; intro O hg w5 hbox hb; have j := Z hbox; have cZ := ln' w hg; replace HB := bs_ hb; have g := nl' b hg; replace b := kb' b hb; clear hb hbox hg))
 repeat (go_quiet (first | ((with_reducible refine gD_ 2 rfl ?_); (try (refine gate_guard (by rfl) ?_; dsimp only)); refine bx_ 2 24 #[.int .i64 p, .int .i64 q, .slice U c.length W, .int .i64 s, .bool l, .bool m] ?_; intro M hg w4 hbox hb; have b := Z hbox; have cY := ln' w hg; replace HB := bs_ hb; clear hb hbox hg) | ((with_reducible refine gD_ 3 rfl ?_); (try (refine gate_guard (by rfl) ?_; dsimp only)); refine bx_ 3 24 #[.int .i64 u, .int .i64 v, .slice V d.length X, .int .i64 x, .bool n, .bool o] ?_; intro O hg w5 hbox hb; have j := Z hbox; have cZ := ln' w hg; replace HB := bs_ hb; have g := nl' b hg; replace b := kb' b hb; clear hb hbox hg)); go_upto_region 1 with (first | ((with_reducible refine gD_ 2 rfl ?_); (try (refine gate_guard (by rfl) ?_; dsimp only)); refine bx_ 2 24 #[.int .i64 p, .int .i64 q, .slice U c.length W, .int .i64 s, .bool l, .bool m] ?_; intro M hg w4 hbox hb; have b := Z hbox; have cY := ln' w hg; replace HB := bs_ hb; clear hb hbox hg) | ((with_reducible refine gD_ 3 rfl ?_); (try (refine gate_guard (by rfl) ?_; dsimp only)); refine bx_ 3 24 #[.int .i64 u, .int .i64 v, .slice V d.length X, .int .i64 x, .bool n, .bool o] ?_; intro O hg w5 hbox hb; have j := Z hbox; have cZ := ln' w hg; replace HB := bs_ hb; have g := nl' b hg; replace b := kb' b hb; clear hb hbox hg)))
 (try simp only [Act.put, sA, sB, sC])
 go_cut [47] (fun er wc => ∃ (kq : Nat) (ah : Bool), er = .bool ah ∧ Aside0 (shutterref10_Same.j0 kq ah p q c s l m u v d x n o = some r) ∧ Aside0 (kq ≤ k) ∧ Aside0 (wc.heap[M]? = some (.cells #[.int .i64 p, .int .i64 q, (.slice U c.length W), .int .i64 s, .bool l, .bool m] 24 (0, 0))) ∧ Aside0 (wc.heap[O]? = some (.cells #[.int .i64 u, .int .i64 v, (.slice V d.length X), .int .i64 x, .bool n, .bool o] 24 (0, 0))) ∧ Aside0 (Below w.heap.size w wc))
 case first =>
  have H := de.out
  clear de
  by_cases c6 : p = u
  rotate_left
  ·rw [if_neg c6] at H
   obtain ⟨Y, cM⟩ := eF_ c6
   (first | rw [Y] | (simp only [i64_w, i32_w]; rw [Y]) | skip)
   have H' := Z H
   clear H
   have eC := ns_ g
   have bk := cells6 b.out
   have bq := cells6 j.out
   go_wp2
   repeat (go_quiet (fail); try go_wp2)
   go_meet
   case rel => exact ⟨_, (true), (dn_), H', ⟨by first | omega | exact Nat.le_refl _⟩, ⟨vK b.out⟩, ⟨vK j.out⟩, ⟨bl_⟩⟩
  rw [if_pos c6] at H
  obtain ⟨Y, cM⟩ := eT_ c6
  clear c6
  (first | rw [Y] | (simp only [i64_w, i32_w]; rw [Y]) | skip)
  by_cases c7 : q = v
  rotate_left
  ·rw [if_neg c7] at H
   obtain ⟨cN, cO⟩ := eF_ c7
   have H' := Z H
   clear H
   have eB := ns_ g
   have a8 := cells6 b.out
   have be := cells6 j.out
   go_wp2
   repeat (go_quiet (fail); try go_wp2)
   go_meet
   case rel => exact ⟨_, (true), (dn_), H', ⟨by first | omega | exact Nat.le_refl _⟩, ⟨vK b.out⟩, ⟨vK j.out⟩, ⟨bl_⟩⟩
  rw [if_pos c7] at H
  obtain ⟨cN, cO⟩ := eT_ c7
  clear c7
  by_cases c8 : s = x
  rotate_left
  ·rw [if_neg c8] at H
   obtain ⟨cP, cQ⟩ := eF_ c8
   have H' := Z H
   clear H
   have eA := ns_ g
   have aW := cells6 b.out
   have a2 := cells6 j.out
   go_wp2
   repeat (go_quiet (fail); try go_wp2)
   go_meet
   case rel => exact ⟨_, (true), (dn_), H', ⟨by first | omega | exact Nat.le_refl _⟩, ⟨vK b.out⟩, ⟨vK j.out⟩, ⟨bl_⟩⟩
  rw [if_pos c8] at H
  obtain ⟨cP, cQ⟩ := eT_ c8
  clear c8
  by_cases c9 : (l != n) = true
  ·rw [if_pos c9] at H
   have cR : (l != n) = true := c9
   (try (have cS : decide (l = n) = false := by simpa using c9))
   (try (have cT : (l == n) = false := by simpa using c9))
   (try (have eP : ¬ (l = n) := by simpa using c9))
   clear c9
   have H' := Z H
   clear H
   have ex := ns_ g
   have ak := cells6 b.out
   have aq := cells6 j.out
   go_wp2
   repeat (go_quiet (fail); try go_wp2)
   go_meet
   case rel => exact ⟨_, (true), (dn_), H', ⟨by first | omega | exact Nat.le_refl _⟩, ⟨vK b.out⟩, ⟨vK j.out⟩, ⟨bl_⟩⟩
  rw [if_neg c9] at H
  have cR : (l != n) = false := by simpa using c9
  (try (have cS : decide (l = n) = true := by simpa using c9))
  (try (have cT : (l == n) = true := by simpa using c9))
  clear c9
  by_cases T : (m != o) = true
  ·rw [if_pos T] at H
   have cI : (m != o) = true := T
   (try (have cJ : decide (m = o) = false := by simpa using T))
   (try (have cK : (m == o) = false := by simpa using T))
   (try (have eu : ¬ (m = o) := by simpa using T))
   clear T
   have H' := Z H
   clear H
   have ey := ns_ g
   have ay := cells6 b.out
   have aE := cells6 j.out
   go_wp2
   repeat (go_quiet (fail); try go_wp2)
   go_meet
   case rel => exact ⟨_, (true), (dn_), H', ⟨by first | omega | exact Nat.le_refl _⟩, ⟨vK b.out⟩, ⟨vK j.out⟩, ⟨bl_⟩⟩
  rw [if_neg T] at H
  have cI : (m != o) = false := by simpa using T
  (try (have cJ : decide (m = o) = true := by simpa using T))
  (try (have cK : (m == o) = true := by simpa using T))
  clear T
  have H' := Z H
  clear H
  have ez := ns_ g
  have aK := cells6 b.out
  have aQ := cells6 j.out
  go_wp2
  repeat (go_quiet (fail); try go_wp2)
  go_meet
  case rel => exact ⟨_, (((c.length : Int) != (d.length : Int))), (dn_), H', ⟨by first | omega | exact Nat.le_refl _⟩, ⟨vK b.out⟩, ⟨vK j.out⟩, ⟨bl_⟩⟩
 clear de
 obtain ⟨kq, ah, rfl, HA, dk, b, j, HB⟩ := hcut
 cases kq with
 | zero => exact absurd HA.out (by simp [shutterref10_Same.j0])
 | succ df =>
  have H := HA.out
  clear HA
  simp only [shutterref10_Same.j0] at H
  by_cases cL : ah = true
  ·subst cL
   rw [if_pos rfl] at H
   obtain rfl := Option.some.inj H
   go_wp2
   repeat (go_quiet (fail); try go_wp2)
   go_ret
   exact ⟨er_, bl_⟩
  replace cL := Bool.eq_false_iff.mpr cL
  subst cL
  rw [iF_] at H
  have H' := Z H
  clear H
  go_wp2
  repeat (go_quiet (fail); try go_wp2)
  go_loopg [5] df (fun kq v5 w' => ∃ (a : Int), v5 = .int .i64 a ∧ Aside0 (shutterref10_Same.l0 kq a p q c s l m u v d x n o = some r) ∧ Aside0 (kq ≤ df) ∧ Aside0 (w'.heap[M]? = some (.cells #[.int .i64 p, .int .i64 q, (.slice U c.length W), .int .i64 s, .bool l, .bool m] 24 (0, 0))) ∧ Aside0 (w'.heap[O]? = some (.cells #[.int .i64 u, .int .i64 v, (.slice V d.length X), .int .i64 x, .bool n, .bool o] 24 (0, 0))) ∧ Aside0 (Below w.heap.size w w'))
  case atStart => exact ⟨(0), (dn_), H', ⟨Nat.le_refl _⟩, ⟨vK b.out⟩, ⟨vK j.out⟩, ⟨bl_⟩⟩
  case round =>
   clear H'
   try clear cL
   obtain ⟨a, rfl, HA, dl, b, j, HB⟩ := hrel
   cases gk with
   | zero => exact absurd HA.out (by simp [shutterref10_Same.l0])
   | succ k2 =>
    have H := HA.out
    clear HA
    simp only [shutterref10_Same.l0] at H
    by_cases ai : a < (c.length : Int)
    rotate_left
    ·rw [if_neg ai] at H
     have di := decide_eq_false ai
     clear ai
     obtain rfl := Option.some.inj H
     have eF := ns_ g
     have dL := cells6 b.out
     go_wp2
     repeat (go_quiet (fail); try go_wp2)
     go_ret
     exact ⟨er_, bl_⟩
    rw [if_pos ai] at H
    have di := decide_eq_true ai
    clear ai
    obtain ⟨c4, H⟩ := gt_ H
    have ev := decide_eq_true c4
    clear c4
    obtain ⟨c5, H⟩ := gt_ H
    have ew := decide_eq_true c5
    clear c5
    by_cases aj : (!(((rd_T55 c a).f0) == ((rd_T55 d a).f0)) || ((!(((rd_T55 c a).f1.f0) == ((rd_T55 d a).f1.f0)) || (!(((rd_T55 c a).f1.f1) == ((rd_T55 d a).f1.f1)) || (!(((rd_T55 c a).f1.f2) == ((rd_T55 d a).f1.f2)) || (!(((rd_T55 c a).f1.f3) == ((rd_T55 d a).f1.f3)))))) || (!(((rd_T55 c a).f2) == ((rd_T55 d a).f2))))) = true
    ·rw [if_pos aj] at H
     have dj : (!(((rd_T55 c a).f0) == ((rd_T55 d a).f0)) || ((!(((rd_T55 c a).f1.f0) == ((rd_T55 d a).f1.f0)) || (!(((rd_T55 c a).f1.f1) == ((rd_T55 d a).f1.f1)) || (!(((rd_T55 c a).f1.f2) == ((rd_T55 d a).f1.f2)) || (!(((rd_T55 c a).f1.f3) == ((rd_T55 d a).f1.f3)))))) || (!(((rd_T55 c a).f2) == ((rd_T55 d a).f2))))) = true := aj
     clear aj
     obtain rfl := Option.some.inj H
     have eD := ns_ g
     have dm := cells6 b.out
     have aa : 0 ≤ (a : Int) := od_
     have ac : a < (c.length : Int) := od_
     obtain ⟨dg, cU, y, z, A, B, D, E⟩ := at_T55 c0.out a aa ac
     cases cU
     replace y := (HB.out.cell (bk_ w _ y)).trans y
     replace z := (HB.out.cell (bk_ w _ z)).trans z
     replace A := (HB.out.cell (bk_ w _ A)).trans A
     replace B := (HB.out.cell (bk_ w _ B)).trans B
     replace D := (HB.out.cell (bk_ w _ D)).trans D
     replace E := (HB.out.cell (bk_ w _ E)).trans E
     replace aa := eq_true aa
     replace ac := eq_true ac
     have dt := cells6 j.out
     have ab : 0 ≤ (a : Int) := od_
     have ad : a < (d.length : Int) := od_
     obtain ⟨dh, cV, F, G, I, J, K, L⟩ := at_T55 c3.out a ab ad
     cases cV
     replace F := (HB.out.cell (bk_ w _ F)).trans F
     replace G := (HB.out.cell (bk_ w _ G)).trans G
     replace I := (HB.out.cell (bk_ w _ I)).trans I
     replace J := (HB.out.cell (bk_ w _ J)).trans J
     replace K := (HB.out.cell (bk_ w _ K)).trans K
     replace L := (HB.out.cell (bk_ w _ L)).trans L
     replace ab := eq_true ab
     replace ad := eq_true ad
     go_wp2
     repeat (go_quiet (fail); try go_wp2)
     go_ret
     exact ⟨er_, bl_⟩
    rw [if_neg aj] at H
    have dj : (!(((rd_T55 c a).f0) == ((rd_T55 d a).f0)) || ((!(((rd_T55 c a).f1.f0) == ((rd_T55 d a).f1.f0)) || (!(((rd_T55 c a).f1.f1) == ((rd_T55 d a).f1.f1)) || (!(((rd_T55 c a).f1.f2) == ((rd_T55 d a).f1.f2)) || (!(((rd_T55 c a).f1.f3) == ((rd_T55 d a).f1.f3)))))) || (!(((rd_T55 c a).f2) == ((rd_T55 d a).f2))))) = false := by simpa using aj
    clear aj
    have H' := Z H
    clear H
    have eE := ns_ g
    have dz := cells6 b.out
    have aa : 0 ≤ (a : Int) := od_
    have ac : a < (c.length : Int) := od_
    obtain ⟨dg, cU, y, z, A, B, D, E⟩ := at_T55 c0.out a aa ac
    cases cU
    replace y := (HB.out.cell (bk_ w _ y)).trans y
    replace z := (HB.out.cell (bk_ w _ z)).trans z
    replace A := (HB.out.cell (bk_ w _ A)).trans A
    replace B := (HB.out.cell (bk_ w _ B)).trans B
    replace D := (HB.out.cell (bk_ w _ D)).trans D
    replace E := (HB.out.cell (bk_ w _ E)).trans E
    replace aa := eq_true aa
    replace ac := eq_true ac
    have dF := cells6 j.out
    have ab : 0 ≤ (a : Int) := od_
    have ad : a < (d.length : Int) := od_
    obtain ⟨dh, cV, F, G, I, J, K, L⟩ := at_T55 c3.out a ab ad
    cases cV
    replace F := (HB.out.cell (bk_ w _ F)).trans F
    replace G := (HB.out.cell (bk_ w _ G)).trans G
    replace I := (HB.out.cell (bk_ w _ I)).trans I
    replace J := (HB.out.cell (bk_ w _ J)).trans J
    replace K := (HB.out.cell (bk_ w _ K)).trans K
    replace L := (HB.out.cell (bk_ w _ L)).trans L
    replace ab := eq_true ab
    replace ad := eq_true ad
    go_wp2
    repeat (go_quiet (fail); try go_wp2)
    go_roundg k2
    case measure => have := dk.out; have := dl.out; omega
    case rel => exact ⟨(wrap64 (a + 1)), (dn_), H', ⟨by have := dk.out; have := dl.out; omega⟩, ⟨vK b.out⟩, ⟨vK j.out⟩, ⟨bl_⟩⟩
end Go.Proofs.YtjpedimndkibnaaGreatDoor.P
