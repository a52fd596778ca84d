/- pp.py and press2.py (wip/tools) wrote this text. -/
import Derived.Test.YtphboakgkmjpbaaGreatDoorJHostDoes1
import Derived.Test.YtphboakgkmjpbaaGreatDoorPx4
namespace Go.Proofs.YtphboakgkmjpbaaGreatDoor.P
open Go.RowKit Go.Proofs.YtphboakgkmjpbaaGreatDoorW.PrintWords Go.Proofs.YtphboakgkmjpbaaGreatDoorW.PrintLast Go.Proofs.YtphboakgkmjpbaaGreatDoorW.PrintMore
attribute [local go_sem] max2_int min2_int max_two min_two max_three min_three max_four min_four
attribute [local go_sem] Instr.field asAgg
set_option linter.unusedVariables false
set_option linter.unusedSimpArgs false
set_option maxHeartbeats 8000000
set_option maxRecDepth 100000

attribute [local go_sem high] eqA45 eqA47
/-! ### api_Code: function 9 -/
section
/-- api.Code: an error's number, a spot's number, or 0. -/
def api_Code.f (a : Option Er) (b : List S177) : Option Int :=
 match a with
 | none => some 0
 | some (.num n) => some n
 | some .spot => match b with | [s] => some s.f1 | _ => none
theorem api_Code.calls (c : Option Er) (g : Option Addr) (d : Nat) (a : List S177) (r : Int) (w : World) (b : Kd.C k177 w g a.length a) (i : a.length ≤ d) (hG : LaidG w) (h : api_Code.f c a = some r) :
  Calls Tryz.prog 9 #[errW (.slice g a.length d) c] w fun e w' => e = .returned (.int .i64 r) ∧ Below w.heap.size w w' := by
 rcases c with _ | q
 ·obtain rfl := Option.some.inj h
  rw [errW_none]
  clear b h
  go_enter Tryz.func9, Tryz.ntmps9
  go_wp2
  go_ret
  exact ⟨rfl, below_alloc (Below.refl _ _) _⟩
 cases q with
 | num n =>
  obtain rfl := Option.some.inj h
  rw [errW_some, show (Er.num n).ty = 61 from rfl, show (Er.num n).pay _ = .int .i64 n from rfl]
  clear b h
  have HA := Z (EA.hit n ⟨w.heap.size, 0, none⟩ (.int .i64 0) (w.alloc (.cells #[.int .i64 0] 61)) (laidG_alloc hG _) (by simp) (by rw [frozen?_alloc_cells]; simp [World.frozen?]))
  go_enter Tryz.func9, Tryz.ntmps9
  go_wp2_with (go_at_call 26; refine HA.out.mono ?_; rintro e w' ⟨rfl, rfl⟩)
  go_ret
  exact ⟨rfl, below_alloc (below_alloc (below_alloc (below_alloc (below_alloc (Below.refl _ _) _) _) _) _) _⟩
 | spot =>
  match a, b, i, h with
  | [s], hr, hc, h =>
   obtain rfl := Option.some.inj h
   obtain ⟨ad, rfl, k, j⟩ := spot_at hr
   rw [errW_some, show Er.spot.ty = 64 from rfl, show Er.spot.pay (.slice (some ad) ([s] : List S177).length d) = .pointer (some ad) from rfl]
   have hlt := bk_ w ⟨ad.block, ad.off + 1, none⟩ j
   have HA := Z (EA.spot ad s.f1 ⟨w.heap.size, 0, none⟩ (.int .i64 0) (w.alloc (.cells #[.int .i64 0] 61)) (by rw [World.cell?_alloc_lt _ _ ⟨ad.block, ad.off + 1, none⟩ hlt]; exact j) (laidG_alloc hG _) (by simp) (by rw [frozen?_alloc_cells]; simp [World.frozen?]))
   clear k j hr hlt h
   go_enter Tryz.func9, Tryz.ntmps9
   go_wp2_with (go_at_call 26; refine HA.out.mono ?_; rintro e w' ⟨rfl, rfl⟩)
   go_ret
   exact ⟨rfl, below_alloc (below_alloc (below_alloc (below_alloc (below_alloc (Below.refl _ _) _) _) _) _) _⟩
end

/-! ### shutterref10_Sized: function 32 -/
def shutterref10_Sized.f (a0 a1 : Int) : Option (Bool) := if a0 ≥ 1 then (if a1 ≥ 1 then (if a0 ≤ 16383 then (if a1 ≤ 16383 then (some (decide ((wrap64 (a0 * a1)) ≤ 16383))) else (some false)) else (some false)) else (some false)) else (some false)
theorem shutterref10_Sized.calls (a0 a1 : Int) (r : Bool) (w : World) (h : shutterref10_Sized.f a0 a1 = some r) :
  Calls Tryz.prog 32 #[.int .i64 a0, .int .i64 a1] w fun e w' => e = .returned (.bool r) ∧ Drawn0 w w' := by
 unfold shutterref10_Sized.f at h
 have H := h
 clear h
 by_cases c3 : a0 ≥ 1
 rotate_left
 ·rw [if_neg c3] at H
  have a : decide (1 ≤ a0) = false := decide_eq_false c3
  clear c3
  obtain rfl := Option.some.inj H
  go_enter Tryz.func32, Tryz.ntmps32
  go_wp2
  go_ret
  exact ⟨dn_, dr_⟩
 rw [if_pos c3] at H
 have a : decide (1 ≤ a0) = true := decide_eq_true c3
 clear c3
 by_cases c4 : a1 ≥ 1
 rotate_left
 ·rw [if_neg c4] at H
  have b : decide (1 ≤ a1) = false := decide_eq_false c4
  clear c4
  obtain rfl := Option.some.inj H
  go_enter Tryz.func32, Tryz.ntmps32
  go_wp2
  go_ret
  exact ⟨dn_, dr_⟩
 rw [if_pos c4] at H
 have b : decide (1 ≤ a1) = true := decide_eq_true c4
 clear c4
 by_cases c5 : a0 ≤ 16383
 ·rw [if_pos c5] at H
  have c := decide_eq_true c5
  clear c5
  by_cases c6 : a1 ≤ 16383
  ·rw [if_pos c6] at H
   have d := decide_eq_true c6
   clear c6
   obtain rfl := Option.some.inj H
   go_enter Tryz.func32, Tryz.ntmps32
   go_wp2
   go_ret
   exact ⟨dn_, dr_⟩
  rw [if_neg c6] at H
  have d := decide_eq_false c6
  clear c6
  obtain rfl := Option.some.inj H
  go_enter Tryz.func32, Tryz.ntmps32
  go_wp2
  go_ret
  exact ⟨dn_, dr_⟩
 rw [if_neg c5] at H
 have c := decide_eq_false c5
 clear c5
 obtain rfl := Option.some.inj H
 go_enter Tryz.func32, Tryz.ntmps32
 go_wp2
 go_ret
 exact ⟨dn_, dr_⟩

/-! ### shutterref05_Char: function 45 -/
def shutterref05_Char.f (a0 : Int) : Option (Bool) := if a0 = 0 then (some true) else (if a0 = 28 then (some true) else (if a0 = 30 then (some true) else (if a0 ≥ 64 then (some (decide (a0 ≤ 254))) else (some false))))
theorem shutterref05_Char.calls (a0 : Int) (r : Bool) (w : World) (h : shutterref05_Char.f a0 = some r) :
  Calls Tryz.prog 45 #[.int .u8 a0] w fun e w' => e = .returned (.bool r) ∧ Drawn0 w w' := by
 unfold shutterref05_Char.f at h
 have H := h
 clear h
 by_cases c2 : a0 = 0
 ·rw [if_pos c2] at H
  obtain ⟨a, b⟩ := eT_ c2
  clear c2
  obtain rfl := Option.some.inj H
  go_enter Tryz.func45, Tryz.ntmps45
  go_wp2
  go_ret
  exact ⟨dn_, dr_⟩
 rw [if_neg c2] at H
 obtain ⟨a, b⟩ := eF_ c2
 by_cases c3 : a0 = 28
 ·rw [if_pos c3] at H
  obtain ⟨c, d⟩ := eT_ c3
  clear c3
  obtain rfl := Option.some.inj H
  go_enter Tryz.func45, Tryz.ntmps45
  go_wp2
  go_ret
  exact ⟨dn_, dr_⟩
 rw [if_neg c3] at H
 obtain ⟨c, d⟩ := eF_ c3
 by_cases c4 : a0 = 30
 ·rw [if_pos c4] at H
  obtain ⟨g, i⟩ := eT_ c4
  clear c4
  obtain rfl := Option.some.inj H
  go_enter Tryz.func45, Tryz.ntmps45
  go_wp2
  go_ret
  exact ⟨dn_, dr_⟩
 rw [if_neg c4] at H
 obtain ⟨g, i⟩ := eF_ c4
 by_cases c5 : a0 ≥ 64
 ·rw [if_pos c5] at H
  have j : decide (64 ≤ a0) = true := decide_eq_true c5
  clear c5
  obtain rfl := Option.some.inj H
  go_enter Tryz.func45, Tryz.ntmps45
  go_wp2
  go_ret
  exact ⟨dn_, dr_⟩
 rw [if_neg c5] at H
 have j : decide (64 ≤ a0) = false := decide_eq_false c5
 clear c5
 obtain rfl := Option.some.inj H
 go_enter Tryz.func45, Tryz.ntmps45
 go_wp2
 go_ret
 exact ⟨dn_, dr_⟩

/-! ### shutterref10_Cell: function 33 -/
def shutterref10_Cell.f (c d e : Bool) (a : Int) (g : Bool) (b : Int) : Option (Bool) := if c = true then (if b = 0 then (if a ≥ 0 then (some (decide (a ≤ 3))) else (some false)) else (some false)) else (if (!d && (!e && (a == 0 && (!g)))) = true then ((shutterref05_Char.f b).bind fun h => (some h)) else (some false))
theorem shutterref10_Cell.calls (u d g : Bool) (a : Int) (i : Bool) (c : Int) (r : Bool) (w : World) (h : shutterref10_Cell.f u d g a i c = some r) :
  Calls Tryz.prog 33 #[.agg #[.bool u, .bool d, .bool g, .int .i64 a, .bool i, .int .u8 c]] w fun e w' => e = .returned (.bool r) ∧ Below w.heap.size w w' := by
 have aQ := Tryz.underlying47
 have aP := Tryz.underlying45
 have HB := Z (Below.refl w.heap.size w)
 unfold shutterref10_Cell.f at h
 have H := h
 clear h
 by_cases c2 : u = true
 ·subst c2
  rw [if_pos rfl] at H
  by_cases c3 : c = 0
  ·rw [if_pos c3] at H
   obtain ⟨y, z⟩ := eT_ c3
   clear c3
   by_cases c4 : a ≥ 0
   ·rw [if_pos c4] at H
    have A : decide (0 ≤ a) = true := decide_eq_true c4
    clear c4
    obtain rfl := Option.some.inj H
    go_enter Tryz.func33, Tryz.ntmps33
    go_wp2_with (first | ((with_reducible refine gD_ 1 rfl ?_); refine bx_ 1 47 #[.bool true, .bool d, .bool g, .int .i64 a, .bool i, .int .u8 c] ?_; intro b hg w5 hbox hb; have j := Z hbox; have q := ln' w hg; replace HB := bs_ hb; clear hb hbox hg; have ap := cells6 j.out))
    go_ret
    exact ⟨er_, bl_⟩
   rw [if_neg c4] at H
   have A : decide (0 ≤ a) = false := decide_eq_false c4
   clear c4
   obtain rfl := Option.some.inj H
   go_enter Tryz.func33, Tryz.ntmps33
   go_wp2_with (first | ((with_reducible refine gD_ 1 rfl ?_); refine bx_ 1 47 #[.bool true, .bool d, .bool g, .int .i64 a, .bool i, .int .u8 c] ?_; intro b hg w7 hbox hb; have j := Z hbox; have q := ln' w hg; replace HB := bs_ hb; clear hb hbox hg; have ax := cells6 j.out))
   go_ret
   exact ⟨er_, bl_⟩
  rw [if_neg c3] at H
  obtain ⟨y, z⟩ := eF_ c3
  obtain rfl := Option.some.inj H
  go_enter Tryz.func33, Tryz.ntmps33
  go_wp2_with (first | ((with_reducible refine gD_ 1 rfl ?_); refine bx_ 1 47 #[.bool true, .bool d, .bool g, .int .i64 a, .bool i, .int .u8 c] ?_; intro b hg w9 hbox hb; have j := Z hbox; have q := ln' w hg; replace HB := bs_ hb; clear hb hbox hg; have B := cells6 j.out))
  go_ret
  exact ⟨er_, bl_⟩
 replace c2 := Bool.eq_false_iff.mpr c2
 subst c2
 rw [iF_] at H
 by_cases s : (!d && (!g && (a == 0 && (!i)))) = true
 ·rw [if_pos s] at H
  have x : (!d && (!g && (a == 0 && (!i)))) = true := s
  clear s
  replace H := bn_ H
  obtain ⟨o, ao, H⟩ := H
  obtain rfl := Option.some.inj H
  go_enter Tryz.func33, Tryz.ntmps33
  go_wp2_with (first | ((with_reducible refine gD_ 1 rfl ?_); refine bx_ 1 47 #[.bool false, .bool d, .bool g, .int .i64 a, .bool i, .int .u8 c] ?_; intro b hg aR hbox hb; have j := Z hbox; have q := ln' w hg; replace HB := bs_ hb; clear hb hbox hg; have I := cells6 j.out) | (go_at_call 45; (with_reducible refine (shutterref05_Char.calls c o _ ao.out).mono ?_); rintro e w' ⟨rfl, ⟨nd, rfl⟩⟩))
  go_ret
  exact ⟨er_, bl_⟩
 rw [if_neg s] at H
 have x : (!d && (!g && (a == 0 && (!i)))) = false := by simpa using s
 clear s
 obtain rfl := Option.some.inj H
 go_enter Tryz.func33, Tryz.ntmps33
 go_wp2_with (first | ((with_reducible refine gD_ 1 rfl ?_); refine bx_ 1 47 #[.bool false, .bool d, .bool g, .int .i64 a, .bool i, .int .u8 c] ?_; intro b hg aS hbox hb; have j := Z hbox; have q := ln' w hg; replace HB := bs_ hb; clear hb hbox hg; have P := cells6 j.out))
 go_ret
 exact ⟨er_, bl_⟩

/-! ### shutterref10_Right: function 13 -/
mutual
def shutterref10_Right.j0 : Nat → Bool → Int → Int → List (S47) → Int → Bool → Bool → Option (Bool)
 | 0, _, _, _, _, _, _, _ => none
 | k + 1, g, a, b, c, d, e, f => if g = true then (some false) else (shutterref10_Right.l0 k 0 a b c d e f)
def shutterref10_Right.l0 : Nat → Int → Int → Int → List (S47) → Int → Bool → Bool → Option (Bool)
 | 0, _, _, _, _, _, _, _ => none
 | k + 1, b, c, d, a, e, g, h => if b < (a.length : Int) then (if 0 ≤ b then ((shutterref10_Cell.f ((rd_T47 a b).f0) ((rd_T47 a b).f1.f0) ((rd_T47 a b).f1.f1) ((rd_T47 a b).f1.f2) ((rd_T47 a b).f1.f3) ((rd_T47 a b).f2)).bind fun i => (if i = true then (shutterref10_Right.l0 k (wrap64 (b + 1)) c d a e g h) else (some false))) else (none)) else (some true)
end
def shutterref10_Right.f (k : Nat) (a b : Int) (d : List (S47)) (c : Int) (e g : Bool) : Option (Bool) := (shutterref10_Sized.f a b).bind fun h => (if h = true then (if (d.length : Int) = (wrap64 (a * b)) then (if c < 0 then (shutterref10_Right.j0 k true a b d c e g) else (shutterref10_Right.j0 k (decide (c ≥ (d.length : Int))) a b d c e g)) else (shutterref10_Right.j0 k true a b d c e g)) else (shutterref10_Right.j0 k true a b d c e g))
theorem shutterref10_Right.mono_l : ∀ k, (∀ a b c d e f g, LeO (shutterref10_Right.j0 k a b c d e f g) (shutterref10_Right.j0 (k + 1) a b c d e f g)) ∧ (∀ a b c d e f g, LeO (shutterref10_Right.l0 k a b c d e f g) (shutterref10_Right.l0 (k + 1) a b c d e f g))
 | 0 => ⟨fun _ _ _ _ _ _ _ r h => by simp [shutterref10_Right.j0] at h, fun _ _ _ _ _ _ _ r h => by simp [shutterref10_Right.l0] at h⟩
 | k + 1 => by
  obtain ⟨i, j⟩ := shutterref10_Right.mono_l k
  refine ⟨?_, ?_⟩
  ·intro a b c d e f g
   unfold shutterref10_Right.j0
   repeat' first
   | (with_reducible exact i _ _ _ _ _ _ _)
   | (with_reducible exact j _ _ _ _ _ _ _)
   | (with_reducible exact LeO.refl _)
   | (with_reducible exact LeO.none _)
   | (with_reducible refine LeO.ite ?_ ?_)
   | (with_reducible refine LeO.bind ?_ (fun _ => ?_))
   | exact i _ _ _ _ _ _ _
   | exact j _ _ _ _ _ _ _
   | exact LeO.none _
   | refine LeO.ite ?_ ?_
   | refine LeO.bind ?_ (fun _ => ?_)
  ·intro a b c d e f g
   unfold shutterref10_Right.l0
   repeat' first
   | (with_reducible exact i _ _ _ _ _ _ _)
   | (with_reducible exact j _ _ _ _ _ _ _)
   | (with_reducible exact LeO.refl _)
   | (with_reducible exact LeO.none _)
   | (with_reducible refine LeO.ite ?_ ?_)
   | (with_reducible refine LeO.bind ?_ (fun _ => ?_))
   | exact i _ _ _ _ _ _ _
   | exact j _ _ _ _ _ _ _
   | exact LeO.none _
   | refine LeO.ite ?_ ?_
   | refine LeO.bind ?_ (fun _ => ?_)
theorem shutterref10_Right.mono : ∀ a0 a1 c d a4 e k, LeO (shutterref10_Right.f k a0 a1 c d a4 e) (shutterref10_Right.f (k + 1) a0 a1 c d a4 e) := by
 intro a0 a1 c d a4 e k
 obtain ⟨a, b⟩ := shutterref10_Right.mono_l k
 unfold shutterref10_Right.f
 repeat' first
   | (with_reducible exact a _ _ _ _ _ _ _)
   | (with_reducible exact b _ _ _ _ _ _ _)
   | (with_reducible exact LeO.refl _)
   | (with_reducible exact LeO.none _)
   | (with_reducible refine LeO.ite ?_ ?_)
   | (with_reducible refine LeO.bind ?_ (fun _ => ?_))
   | exact a _ _ _ _ _ _ _
   | exact b _ _ _ _ _ _ _
   | exact LeO.none _
   | refine LeO.ite ?_ ?_
   | refine LeO.bind ?_ (fun _ => ?_)
theorem shutterref10_Right.calls (k : Nat) (c d : Int) (D : Option Addr) (E : Nat) (a : List (S47)) (g : Int) (j l r : Bool) (w : World) (aQ : Kd.C k47 w D a.length a) (aP : a.length ≤ E) (h : shutterref10_Right.f k c d a g j l = some r) :
  Calls Tryz.prog 13 #[.agg #[.int .i64 c, .int .i64 d, .slice D a.length E, .int .i64 g, .bool j, .bool l]] w fun e w' => e = .returned (.bool r) ∧ Below w.heap.size w w' := by
 have bL := Tryz.underlying24
 have bM := Tryz.underlying47
 have aM := Z aQ
 have bJ := Z aP
 clear aQ aP
 have HB := Z (Below.refl w.heap.size w)
 unfold shutterref10_Right.f at h
 have H := h
 clear h
 have aS := Z H
 clear H
 go_enter Tryz.func13, Tryz.ntmps13
 go_upto_region 1 with (first | ((with_reducible refine gD_ 1 rfl ?_); (try (refine gate_guard (by rfl) ?_; dsimp only)); refine bx_ 1 24 #[.int .i64 c, .int .i64 d, .slice D a.length E, .int .i64 g, .bool j, .bool l] ?_; intro A hg w3 hbox hb; have i := Z hbox; have bI := ln' w hg; replace HB := bs_ hb; clear hb hbox hg))
 (try simp only [Act.put, sA, sB, sC])
 go_cut [33] (fun bG wc => ∃ (kq : Nat) (B : Bool), bG = .bool B ∧ Aside0 (shutterref10_Right.j0 kq B c d a g j l = some r) ∧ Aside0 (kq ≤ k) ∧ Aside0 (wc.heap[A]? = some (.cells #[.int .i64 c, .int .i64 d, (.slice D a.length E), .int .i64 g, .bool j, .bool l] 24 (0, 0))) ∧ Aside0 (Below w.heap.size w wc))
 case first =>
  have H := aS.out
  clear aS
  replace H := bn_ H
  obtain ⟨ah, A4, H⟩ := H
  cases ah
  ·rw [iF_] at H
   have H' := Z H
   clear H
   have O := cells6 i.out
   go_wp2_with (first | ((with_reducible refine gF_ 32 rfl ?_); refine gd_ (some 8) Tryz.func32 (shutterref10_Sized.calls c d false _ A4.out) ?_; rintro e w' ⟨rfl, ⟨nd, rfl⟩⟩; refine ⟨_, rfl, ?_⟩))
   go_meet
   case rel => exact ⟨_, (true), (dn_), H', ⟨by first | omega | exact Nat.le_refl _⟩, ⟨vK i.out⟩, ⟨bl_⟩⟩
  rw [if_pos rfl] at H
  by_cases c6 : (a.length : Int) = (wrap64 (c * d))
  ·rw [if_pos c6] at H
   obtain ⟨u, aJ⟩ := eT_ c6
   clear c6
   (first | rw [u] | (simp only [i64_w, i32_w]; rw [u]) | skip)
   by_cases c7 : g < 0
   ·rw [if_pos c7] at H
    have aK := decide_eq_true c7
    clear c7
    have H' := Z H
    clear H
    have aj := cells6 i.out
    go_wp2_with (first | ((with_reducible refine gF_ 32 rfl ?_); refine gd_ (some 8) Tryz.func32 (shutterref10_Sized.calls c d true _ A4.out) ?_; rintro e w' ⟨rfl, ⟨nd, rfl⟩⟩; refine ⟨_, rfl, ?_⟩))
    go_meet
    case rel => exact ⟨_, (true), (dn_), H', ⟨by first | omega | exact Nat.le_refl _⟩, ⟨vK i.out⟩, ⟨bl_⟩⟩
   rw [if_neg c7] at H
   have aK := decide_eq_false c7
   clear c7
   have H' := Z H
   clear H
   have ap := cells6 i.out
   go_wp2_with (first | ((with_reducible refine gF_ 32 rfl ?_); refine gd_ (some 8) Tryz.func32 (shutterref10_Sized.calls c d true _ A4.out) ?_; rintro e w' ⟨rfl, ⟨nd, rfl⟩⟩; refine ⟨_, rfl, ?_⟩))
   go_meet
   case rel => exact ⟨_, (decide (g ≥ (a.length : Int))), (dn_), H', ⟨by first | omega | exact Nat.le_refl _⟩, ⟨vK i.out⟩, ⟨bl_⟩⟩
  rw [if_neg c6] at H
  obtain ⟨u, aJ⟩ := eF_ c6
  (first | rw [u] | (simp only [i64_w, i32_w]; rw [u]) | skip)
  have H' := Z H
  clear H
  have G := cells6 i.out
  go_wp2_with (first | ((with_reducible refine gF_ 32 rfl ?_); refine gd_ (some 8) Tryz.func32 (shutterref10_Sized.calls c d true _ A4.out) ?_; rintro e w' ⟨rfl, ⟨nd, rfl⟩⟩; refine ⟨_, rfl, ?_⟩))
  go_meet
  case rel => exact ⟨_, (true), (dn_), H', ⟨by first | omega | exact Nat.le_refl _⟩, ⟨vK i.out⟩, ⟨bl_⟩⟩
 clear aS
 obtain ⟨kq, B, rfl, HA, a0, i, HB⟩ := hcut
 cases kq with
 | zero => exact absurd HA.out (by simp [shutterref10_Right.j0])
 | succ aT =>
  have H := HA.out
  clear HA
  simp only [shutterref10_Right.j0] at H
  by_cases ai : B = true
  ·subst ai
   rw [if_pos rfl] at H
   obtain rfl := Option.some.inj H
   go_wp2
   go_ret
   exact ⟨er_, bl_⟩
  replace ai := Bool.eq_false_iff.mpr ai
  subst ai
  rw [iF_] at H
  have H' := Z H
  clear H
  go_wp2
  go_loopg [3] aT (fun kq v3 w' => ∃ (b : Int), v3 = .int .i64 b ∧ Aside0 (shutterref10_Right.l0 kq b c d a g j l = some r) ∧ Aside0 (kq ≤ aT) ∧ Aside0 (w'.heap[A]? = some (.cells #[.int .i64 c, .int .i64 d, (.slice D a.length E), .int .i64 g, .bool j, .bool l] 24 (0, 0))) ∧ Aside0 (Below w.heap.size w w'))
  case atStart => exact ⟨(0), (dn_), H', ⟨Nat.le_refl _⟩, ⟨vK i.out⟩, ⟨bl_⟩⟩
  case round =>
   clear H'
   try clear ai
   obtain ⟨b, rfl, HA, a1, i, HB⟩ := hrel
   cases gk with
   | zero => exact absurd HA.out (by simp [shutterref10_Right.l0])
   | succ k2 =>
    have H := HA.out
    clear HA
    simp only [shutterref10_Right.l0] at H
    by_cases F : b < (a.length : Int)
    rotate_left
    ·rw [if_neg F] at H
     have aX := decide_eq_false F
     clear F
     obtain rfl := Option.some.inj H
     have bg := cells6 i.out
     go_wp2
     go_ret
     exact ⟨er_, bl_⟩
    rw [if_pos F] at H
    have aX := decide_eq_true F
    clear F
    obtain ⟨aN, H⟩ := gt_ H
    have bK := decide_eq_true aN
    clear aN
    replace H := bn_ H
    obtain ⟨aU, aY, H⟩ := H
    by_cases aO : aU = true
    ·subst aO
     rw [if_pos rfl] at H
     have H' := Z H
     clear H
     have a4 := cells6 i.out
     have v : 0 ≤ (b : Int) := od_
     have x : b < (a.length : Int) := od_
     obtain ⟨aW, aL, m, n, o, p, q, s⟩ := at_T47 aM.out b v x
     cases aL
     replace m := hc_ HB m
     replace n := hc_ HB n
     replace o := hc_ HB o
     replace p := hc_ HB p
     replace q := hc_ HB q
     replace s := hc_ HB s
     replace v := eq_true v
     replace x := eq_true x
     go_wp2_with (first | ((with_reducible refine gF_ 33 rfl ?_); refine gd_ (some 46) Tryz.func33 (shutterref10_Cell.calls ((rd_T47 a b).f0) ((rd_T47 a b).f1.f0) ((rd_T47 a b).f1.f1) ((rd_T47 a b).f1.f2) ((rd_T47 a b).f1.f3) ((rd_T47 a b).f2) true _ aY.out) ?_; rintro e bO ⟨rfl, hb⟩; refine ⟨_, rfl, ?_⟩; replace i := kb' i hb; replace HB := bs_ hb; (try clear hb)))
     go_roundg k2
     case measure => have := a0.out; have := a1.out; omega
     case rel => exact ⟨(wrap64 (b + 1)), (dn_), H', ⟨by have := a0.out; have := a1.out; omega⟩, ⟨vK i.out⟩, ⟨bl_⟩⟩
    replace aO := Bool.eq_false_iff.mpr aO
    subst aO
    rw [iF_] at H
    obtain rfl := Option.some.inj H
    have ba := cells6 i.out
    have v : 0 ≤ (b : Int) := od_
    have x : b < (a.length : Int) := od_
    obtain ⟨aW, aL, m, n, o, p, q, s⟩ := at_T47 aM.out b v x
    cases aL
    replace m := hc_ HB m
    replace n := hc_ HB n
    replace o := hc_ HB o
    replace p := hc_ HB p
    replace q := hc_ HB q
    replace s := hc_ HB s
    replace v := eq_true v
    replace x := eq_true x
    go_wp2_with (first | ((with_reducible refine gF_ 33 rfl ?_); refine gd_ (some 46) Tryz.func33 (shutterref10_Cell.calls ((rd_T47 a b).f0) ((rd_T47 a b).f1.f0) ((rd_T47 a b).f1.f1) ((rd_T47 a b).f1.f2) ((rd_T47 a b).f1.f3) ((rd_T47 a b).f2) false _ aY.out) ?_; rintro e bP ⟨rfl, hb⟩; refine ⟨_, rfl, ?_⟩; replace i := kb' i hb; replace HB := bs_ hb; (try clear hb)))
    go_ret
    exact ⟨er_, bl_⟩

end Go.Proofs.YtphboakgkmjpbaaGreatDoor.P
