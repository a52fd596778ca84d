/- pp.py and press2.py (wip/tools) wrote this text. -/
import Derived.Test.YtphboakgkmjpbaaGreatDoorJHostDoes1
namespace Go.Proofs.YtphboakgkmjpbaaGreatDoor.P
open Go.RowKit Go.Proofs.YtphboakgkmjpbaaGreatDoorW.PrintWords Go.Proofs.YtphboakgkmjpbaaGreatDoorW.PrintLast Go.Proofs.YtphboakgkmjpbaaGreatDoorW.PrintMore
attribute [local go_sem] max2_int min2_int max_two min_two max_three min_three max_four min_four
attribute [local go_sem] Instr.field asAgg
set_option linter.unusedVariables false
set_option linter.unusedSimpArgs false
set_option maxHeartbeats 8000000
set_option maxRecDepth 100000

attribute [local go_sem high] eqA47
/-! ### shutterref10_Same: function 11 -/
mutual
def shutterref10_Same.j0 : Nat → Bool → Int → Int → List (S47) → Int → Bool → Bool → Int → Int → List (S47) → Int → Bool → Bool → Option (Bool)
 | 0, _, _, _, _, _, _, _, _, _, _, _, _, _ => none
 | k + 1, n, a, b, c, d, e, f, g, h, i, j, l, m => if n = true then (some false) else (shutterref10_Same.l0 k 0 a b c d e f g h i j l m)
def shutterref10_Same.l0 : Nat → Int → Int → Int → List (S47) → Int → Bool → Bool → Int → Int → List (S47) → Int → Bool → Bool → Option (Bool)
 | 0, _, _, _, _, _, _, _, _, _, _, _, _, _ => none
 | k + 1, c, d, e, a, f, g, h, i, j, b, l, m, n => if c < (a.length : Int) then (if 0 ≤ c then (if c < (b.length : Int) then (if (!(((rd_T47 a c).f0) == ((rd_T47 b c).f0)) || ((!(((rd_T47 a c).f1.f0) == ((rd_T47 b c).f1.f0)) || (!(((rd_T47 a c).f1.f1) == ((rd_T47 b c).f1.f1)) || (!(((rd_T47 a c).f1.f2) == ((rd_T47 b c).f1.f2)) || (!(((rd_T47 a c).f1.f3) == ((rd_T47 b c).f1.f3)))))) || (!(((rd_T47 a c).f2) == ((rd_T47 b c).f2))))) = true then (some false) else (shutterref10_Same.l0 k (wrap64 (c + 1)) d e a f g h i j b l m n)) else (none)) else (none)) else (some true)
end
def shutterref10_Same.f (k : Nat) (a b : Int) (m : List (S47)) (c : Int) (d e : Bool) (g h : Int) (n : List (S47)) (i : Int) (j l : Bool) : Option (Bool) := if a = g then (if b = h then (if c = i then (if (d != j) = true then (shutterref10_Same.j0 k true a b m c d e g h n i j l) else (if (e != l) = true then (shutterref10_Same.j0 k true a b m c d e g h n i j l) else (shutterref10_Same.j0 k ((m.length : Int) != (n.length : Int)) a b m c d e g h n i j l))) else (shutterref10_Same.j0 k true a b m c d e g h n i j l)) else (shutterref10_Same.j0 k true a b m c d e g h n i j l)) else (shutterref10_Same.j0 k true a b m c d e g h n i j l)
theorem shutterref10_Same.mono_l : ∀ k, (∀ d e f g i j l m n o a b c, LeO (shutterref10_Same.j0 k d e f g i j l m n o a b c) (shutterref10_Same.j0 (k + 1) d e f g i j l m n o a b c)) ∧ (∀ d e f g i j l m n o a b c, LeO (shutterref10_Same.l0 k d e f g i j l m n o a b c) (shutterref10_Same.l0 (k + 1) d e f g i j l m n o a b c))
 | 0 => ⟨fun _ _ _ _ _ _ _ _ _ _ _ _ _ r h => by simp [shutterref10_Same.j0] at h, fun _ _ _ _ _ _ _ _ _ _ _ _ _ r h => by simp [shutterref10_Same.l0] at h⟩
 | k + 1 => by
  obtain ⟨p, q⟩ := shutterref10_Same.mono_l k
  refine ⟨?_, ?_⟩
  ·intro d e f g i j l m n o a b c
   unfold shutterref10_Same.j0
   repeat' first
   | (with_reducible exact p _ _ _ _ _ _ _ _ _ _ _ _ _)
   | (with_reducible exact q _ _ _ _ _ _ _ _ _ _ _ _ _)
   | (with_reducible exact LeO.refl _)
   | (with_reducible exact LeO.none _)
   | (with_reducible refine LeO.ite ?_ ?_)
   | (with_reducible refine LeO.bind ?_ (fun _ => ?_))
   | exact p _ _ _ _ _ _ _ _ _ _ _ _ _
   | exact q _ _ _ _ _ _ _ _ _ _ _ _ _
   | exact LeO.none _
   | refine LeO.ite ?_ ?_
   | refine LeO.bind ?_ (fun _ => ?_)
  ·intro d e f g i j l m n o a b c
   unfold shutterref10_Same.l0
   repeat' first
   | (with_reducible exact p _ _ _ _ _ _ _ _ _ _ _ _ _)
   | (with_reducible exact q _ _ _ _ _ _ _ _ _ _ _ _ _)
   | (with_reducible exact LeO.refl _)
   | (with_reducible exact LeO.none _)
   | (with_reducible refine LeO.ite ?_ ?_)
   | (with_reducible refine LeO.bind ?_ (fun _ => ?_))
   | exact p _ _ _ _ _ _ _ _ _ _ _ _ _
   | exact q _ _ _ _ _ _ _ _ _ _ _ _ _
   | exact LeO.none _
   | refine LeO.ite ?_ ?_
   | refine LeO.bind ?_ (fun _ => ?_)
theorem shutterref10_Same.mono : ∀ a0 a1 e g a4 h i j l m a b k, LeO (shutterref10_Same.f k a0 a1 e g a4 h i j l m a b) (shutterref10_Same.f (k + 1) a0 a1 e g a4 h i j l m a b) := by
 intro a0 a1 e g a4 h i j l m a b k
 obtain ⟨c, d⟩ := shutterref10_Same.mono_l k
 unfold shutterref10_Same.f
 repeat' first
   | (with_reducible exact c _ _ _ _ _ _ _ _ _ _ _ _ _)
   | (with_reducible exact d _ _ _ _ _ _ _ _ _ _ _ _ _)
   | (with_reducible exact LeO.refl _)
   | (with_reducible exact LeO.none _)
   | (with_reducible refine LeO.ite ?_ ?_)
   | (with_reducible refine LeO.bind ?_ (fun _ => ?_))
   | exact c _ _ _ _ _ _ _ _ _ _ _ _ _
   | exact d _ _ _ _ _ _ _ _ _ _ _ _ _
   | exact LeO.none _
   | refine LeO.ite ?_ ?_
   | refine LeO.bind ?_ (fun _ => ?_)
theorem shutterref10_Same.calls (k : Nat) (p q : Int) (U : Option Addr) (W : Nat) (c : List (S47)) (s : Int) (l m : Bool) (u v : Int) (V : Option Addr) (X : Nat) (d : List (S47)) (x : Int) (n o r : Bool) (w : World) (dc : Kd.C k47 w U c.length c) (da : c.length ≤ W) (dd : Kd.C k47 w V d.length d) (db : d.length ≤ X) (h : shutterref10_Same.f k p q c s l m u v d x n o = some r) :
  Calls Tryz.prog 11 #[.agg #[.int .i64 p, .int .i64 q, .slice U c.length W, .int .i64 s, .bool l, .bool m], .agg #[.int .i64 u, .int .i64 v, .slice V d.length X, .int .i64 x, .bool n, .bool o]] w fun e w' => e = .returned (.bool r) ∧ Below w.heap.size w w' := by
 have eQ := Tryz.underlying24
 have eR := Tryz.underlying47
 have c0 := Z dc
 have es := Z da
 clear dc da
 have c3 := Z dd
 have et := Z db
 clear dd db
 have HB := Z (Below.refl w.heap.size w)
 unfold shutterref10_Same.f at h
 have H := h
 clear h
 have de := Z H
 clear H
 go_enter Tryz.func11, Tryz.ntmps11
 go_upto_region 1 with (first | ((with_reducible refine gD_ 2 rfl ?_); (try (refine gate_guard (by rfl) ?_; dsimp only)); refine bx_ 2 24 #[.int .i64 p, .int .i64 q, .slice U c.length W, .int .i64 s, .bool l, .bool m] ?_; intro M hg w4 hbox hb; have b := Z hbox; have cY := ln' w hg; replace HB := bs_ hb; clear hb hbox hg) | ((with_reducible refine gD_ 3 rfl ?_); (try (refine gate_guard (by rfl) ?_; dsimp only)); refine bx_ 3 24 #[.int .i64 u, .int .i64 v, .slice V d.length X, .int .i64 x, .bool n, .bool o] ?_; intro O hg w5 hbox hb; have j := Z hbox; have cZ := ln' w hg; replace HB := bs_ hb; have g := nl' b hg; replace b := kb' b hb; clear hb hbox hg))
 repeat (go_quiet (first | ((with_reducible refine gD_ 2 rfl ?_); (try (refine gate_guard (by rfl) ?_; dsimp only)); refine bx_ 2 24 #[.int .i64 p, .int .i64 q, .slice U c.length W, .int .i64 s, .bool l, .bool m] ?_; intro M hg w4 hbox hb; have b := Z hbox; have cY := ln' w hg; replace HB := bs_ hb; clear hb hbox hg) | ((with_reducible refine gD_ 3 rfl ?_); (try (refine gate_guard (by rfl) ?_; dsimp only)); refine bx_ 3 24 #[.int .i64 u, .int .i64 v, .slice V d.length X, .int .i64 x, .bool n, .bool o] ?_; intro O hg w5 hbox hb; have j := Z hbox; have cZ := ln' w hg; replace HB := bs_ hb; have g := nl' b hg; replace b := kb' b hb; clear hb hbox hg)); go_upto_region 1 with (first | ((with_reducible refine gD_ 2 rfl ?_); (try (refine gate_guard (by rfl) ?_; dsimp only)); refine bx_ 2 24 #[.int .i64 p, .int .i64 q, .slice U c.length W, .int .i64 s, .bool l, .bool m] ?_; intro M hg w4 hbox hb; have b := Z hbox; have cY := ln' w hg; replace HB := bs_ hb; clear hb hbox hg) | ((with_reducible refine gD_ 3 rfl ?_); (try (refine gate_guard (by rfl) ?_; dsimp only)); refine bx_ 3 24 #[.int .i64 u, .int .i64 v, .slice V d.length X, .int .i64 x, .bool n, .bool o] ?_; intro O hg w5 hbox hb; have j := Z hbox; have cZ := ln' w hg; replace HB := bs_ hb; have g := nl' b hg; replace b := kb' b hb; clear hb hbox hg)))
 (try simp only [Act.put, sA, sB, sC])
 go_cut [47] (fun er wc => ∃ (kq : Nat) (ah : Bool), er = .bool ah ∧ Aside0 (shutterref10_Same.j0 kq ah p q c s l m u v d x n o = some r) ∧ Aside0 (kq ≤ k) ∧ Aside0 (wc.heap[M]? = some (.cells #[.int .i64 p, .int .i64 q, (.slice U c.length W), .int .i64 s, .bool l, .bool m] 24 (0, 0))) ∧ Aside0 (wc.heap[O]? = some (.cells #[.int .i64 u, .int .i64 v, (.slice V d.length X), .int .i64 x, .bool n, .bool o] 24 (0, 0))) ∧ Aside0 (Below w.heap.size w wc))
 case first =>
  have H := de.out
  clear de
  by_cases c6 : p = u
  rotate_left
  ·rw [if_neg c6] at H
   obtain ⟨Y, cM⟩ := eF_ c6
   (first | rw [Y] | (simp only [i64_w, i32_w]; rw [Y]) | skip)
   have H' := Z H
   clear H
   have eC := ns_ g
   have bk := cells6 b.out
   have bq := cells6 j.out
   go_wp2
   repeat (go_quiet (fail); try go_wp2)
   go_meet
   case rel => exact ⟨_, (true), (dn_), H', ⟨by first | omega | exact Nat.le_refl _⟩, ⟨vK b.out⟩, ⟨vK j.out⟩, ⟨bl_⟩⟩
  rw [if_pos c6] at H
  obtain ⟨Y, cM⟩ := eT_ c6
  clear c6
  (first | rw [Y] | (simp only [i64_w, i32_w]; rw [Y]) | skip)
  by_cases c7 : q = v
  rotate_left
  ·rw [if_neg c7] at H
   obtain ⟨cN, cO⟩ := eF_ c7
   have H' := Z H
   clear H
   have eB := ns_ g
   have a8 := cells6 b.out
   have be := cells6 j.out
   go_wp2
   repeat (go_quiet (fail); try go_wp2)
   go_meet
   case rel => exact ⟨_, (true), (dn_), H', ⟨by first | omega | exact Nat.le_refl _⟩, ⟨vK b.out⟩, ⟨vK j.out⟩, ⟨bl_⟩⟩
  rw [if_pos c7] at H
  obtain ⟨cN, cO⟩ := eT_ c7
  clear c7
  by_cases c8 : s = x
  rotate_left
  ·rw [if_neg c8] at H
   obtain ⟨cP, cQ⟩ := eF_ c8
   have H' := Z H
   clear H
   have eA := ns_ g
   have aW := cells6 b.out
   have a2 := cells6 j.out
   go_wp2
   repeat (go_quiet (fail); try go_wp2)
   go_meet
   case rel => exact ⟨_, (true), (dn_), H', ⟨by first | omega | exact Nat.le_refl _⟩, ⟨vK b.out⟩, ⟨vK j.out⟩, ⟨bl_⟩⟩
  rw [if_pos c8] at H
  obtain ⟨cP, cQ⟩ := eT_ c8
  clear c8
  by_cases c9 : (l != n) = true
  ·rw [if_pos c9] at H
   have cR : (l != n) = true := c9
   (try (have cS : decide (l = n) = false := by simpa using c9))
   (try (have cT : (l == n) = false := by simpa using c9))
   (try (have eP : ¬ (l = n) := by simpa using c9))
   clear c9
   have H' := Z H
   clear H
   have ex := ns_ g
   have ak := cells6 b.out
   have aq := cells6 j.out
   go_wp2
   repeat (go_quiet (fail); try go_wp2)
   go_meet
   case rel => exact ⟨_, (true), (dn_), H', ⟨by first | omega | exact Nat.le_refl _⟩, ⟨vK b.out⟩, ⟨vK j.out⟩, ⟨bl_⟩⟩
  rw [if_neg c9] at H
  have cR : (l != n) = false := by simpa using c9
  (try (have cS : decide (l = n) = true := by simpa using c9))
  (try (have cT : (l == n) = true := by simpa using c9))
  clear c9
  by_cases T : (m != o) = true
  ·rw [if_pos T] at H
   have cI : (m != o) = true := T
   (try (have cJ : decide (m = o) = false := by simpa using T))
   (try (have cK : (m == o) = false := by simpa using T))
   (try (have eu : ¬ (m = o) := by simpa using T))
   clear T
   have H' := Z H
   clear H
   have ey := ns_ g
   have ay := cells6 b.out
   have aE := cells6 j.out
   go_wp2
   repeat (go_quiet (fail); try go_wp2)
   go_meet
   case rel => exact ⟨_, (true), (dn_), H', ⟨by first | omega | exact Nat.le_refl _⟩, ⟨vK b.out⟩, ⟨vK j.out⟩, ⟨bl_⟩⟩
  rw [if_neg T] at H
  have cI : (m != o) = false := by simpa using T
  (try (have cJ : decide (m = o) = true := by simpa using T))
  (try (have cK : (m == o) = true := by simpa using T))
  clear T
  have H' := Z H
  clear H
  have ez := ns_ g
  have aK := cells6 b.out
  have aQ := cells6 j.out
  go_wp2
  repeat (go_quiet (fail); try go_wp2)
  go_meet
  case rel => exact ⟨_, (((c.length : Int) != (d.length : Int))), (dn_), H', ⟨by first | omega | exact Nat.le_refl _⟩, ⟨vK b.out⟩, ⟨vK j.out⟩, ⟨bl_⟩⟩
 clear de
 obtain ⟨kq, ah, rfl, HA, dk, b, j, HB⟩ := hcut
 cases kq with
 | zero => exact absurd HA.out (by simp [shutterref10_Same.j0])
 | succ df =>
  have H := HA.out
  clear HA
  simp only [shutterref10_Same.j0] at H
  by_cases cL : ah = true
  ·subst cL
   rw [if_pos rfl] at H
   obtain rfl := Option.some.inj H
   go_wp2
   repeat (go_quiet (fail); try go_wp2)
   go_ret
   exact ⟨er_, bl_⟩
  replace cL := Bool.eq_false_iff.mpr cL
  subst cL
  rw [iF_] at H
  have H' := Z H
  clear H
  go_wp2
  repeat (go_quiet (fail); try go_wp2)
  go_loopg [5] df (fun kq v5 w' => ∃ (a : Int), v5 = .int .i64 a ∧ Aside0 (shutterref10_Same.l0 kq a p q c s l m u v d x n o = some r) ∧ Aside0 (kq ≤ df) ∧ Aside0 (w'.heap[M]? = some (.cells #[.int .i64 p, .int .i64 q, (.slice U c.length W), .int .i64 s, .bool l, .bool m] 24 (0, 0))) ∧ Aside0 (w'.heap[O]? = some (.cells #[.int .i64 u, .int .i64 v, (.slice V d.length X), .int .i64 x, .bool n, .bool o] 24 (0, 0))) ∧ Aside0 (Below w.heap.size w w'))
  case atStart => exact ⟨(0), (dn_), H', ⟨Nat.le_refl _⟩, ⟨vK b.out⟩, ⟨vK j.out⟩, ⟨bl_⟩⟩
  case round =>
   clear H'
   try clear cL
   obtain ⟨a, rfl, HA, dl, b, j, HB⟩ := hrel
   cases gk with
   | zero => exact absurd HA.out (by simp [shutterref10_Same.l0])
   | succ k2 =>
    have H := HA.out
    clear HA
    simp only [shutterref10_Same.l0] at H
    by_cases ai : a < (c.length : Int)
    rotate_left
    ·rw [if_neg ai] at H
     have di := decide_eq_false ai
     clear ai
     obtain rfl := Option.some.inj H
     have eF := ns_ g
     have dL := cells6 b.out
     go_wp2
     repeat (go_quiet (fail); try go_wp2)
     go_ret
     exact ⟨er_, bl_⟩
    rw [if_pos ai] at H
    have di := decide_eq_true ai
    clear ai
    obtain ⟨c4, H⟩ := gt_ H
    have ev := decide_eq_true c4
    clear c4
    obtain ⟨c5, H⟩ := gt_ H
    have ew := decide_eq_true c5
    clear c5
    by_cases aj : (!(((rd_T47 c a).f0) == ((rd_T47 d a).f0)) || ((!(((rd_T47 c a).f1.f0) == ((rd_T47 d a).f1.f0)) || (!(((rd_T47 c a).f1.f1) == ((rd_T47 d a).f1.f1)) || (!(((rd_T47 c a).f1.f2) == ((rd_T47 d a).f1.f2)) || (!(((rd_T47 c a).f1.f3) == ((rd_T47 d a).f1.f3)))))) || (!(((rd_T47 c a).f2) == ((rd_T47 d a).f2))))) = true
    ·rw [if_pos aj] at H
     have dj : (!(((rd_T47 c a).f0) == ((rd_T47 d a).f0)) || ((!(((rd_T47 c a).f1.f0) == ((rd_T47 d a).f1.f0)) || (!(((rd_T47 c a).f1.f1) == ((rd_T47 d a).f1.f1)) || (!(((rd_T47 c a).f1.f2) == ((rd_T47 d a).f1.f2)) || (!(((rd_T47 c a).f1.f3) == ((rd_T47 d a).f1.f3)))))) || (!(((rd_T47 c a).f2) == ((rd_T47 d a).f2))))) = true := aj
     clear aj
     obtain rfl := Option.some.inj H
     have eD := ns_ g
     have dm := cells6 b.out
     have aa : 0 ≤ (a : Int) := od_
     have ac : a < (c.length : Int) := od_
     obtain ⟨dg, cU, y, z, A, B, D, E⟩ := at_T47 c0.out a aa ac
     cases cU
     replace y := hc_ HB y
     replace z := hc_ HB z
     replace A := hc_ HB A
     replace B := hc_ HB B
     replace D := hc_ HB D
     replace E := hc_ HB E
     replace aa := eq_true aa
     replace ac := eq_true ac
     have dt := cells6 j.out
     have ab : 0 ≤ (a : Int) := od_
     have ad : a < (d.length : Int) := od_
     obtain ⟨dh, cV, F, G, I, J, K, L⟩ := at_T47 c3.out a ab ad
     cases cV
     replace F := hc_ HB F
     replace G := hc_ HB G
     replace I := hc_ HB I
     replace J := hc_ HB J
     replace K := hc_ HB K
     replace L := hc_ HB L
     replace ab := eq_true ab
     replace ad := eq_true ad
     go_wp2
     repeat (go_quiet (fail); try go_wp2)
     go_ret
     exact ⟨er_, bl_⟩
    rw [if_neg aj] at H
    have dj : (!(((rd_T47 c a).f0) == ((rd_T47 d a).f0)) || ((!(((rd_T47 c a).f1.f0) == ((rd_T47 d a).f1.f0)) || (!(((rd_T47 c a).f1.f1) == ((rd_T47 d a).f1.f1)) || (!(((rd_T47 c a).f1.f2) == ((rd_T47 d a).f1.f2)) || (!(((rd_T47 c a).f1.f3) == ((rd_T47 d a).f1.f3)))))) || (!(((rd_T47 c a).f2) == ((rd_T47 d a).f2))))) = false := by simpa using aj
    clear aj
    have H' := Z H
    clear H
    have eE := ns_ g
    have dz := cells6 b.out
    have aa : 0 ≤ (a : Int) := od_
    have ac : a < (c.length : Int) := od_
    obtain ⟨dg, cU, y, z, A, B, D, E⟩ := at_T47 c0.out a aa ac
    cases cU
    replace y := hc_ HB y
    replace z := hc_ HB z
    replace A := hc_ HB A
    replace B := hc_ HB B
    replace D := hc_ HB D
    replace E := hc_ HB E
    replace aa := eq_true aa
    replace ac := eq_true ac
    have dF := cells6 j.out
    have ab : 0 ≤ (a : Int) := od_
    have ad : a < (d.length : Int) := od_
    obtain ⟨dh, cV, F, G, I, J, K, L⟩ := at_T47 c3.out a ab ad
    cases cV
    replace F := hc_ HB F
    replace G := hc_ HB G
    replace I := hc_ HB I
    replace J := hc_ HB J
    replace K := hc_ HB K
    replace L := hc_ HB L
    replace ab := eq_true ab
    replace ad := eq_true ad
    go_wp2
    repeat (go_quiet (fail); try go_wp2)
    go_roundg k2
    case measure => have := dk.out; have := dl.out; omega
    case rel => exact ⟨(wrap64 (a + 1)), (dn_), H', ⟨by have := dk.out; have := dl.out; omega⟩, ⟨vK b.out⟩, ⟨vK j.out⟩, ⟨bl_⟩⟩

end Go.Proofs.YtphboakgkmjpbaaGreatDoor.P
