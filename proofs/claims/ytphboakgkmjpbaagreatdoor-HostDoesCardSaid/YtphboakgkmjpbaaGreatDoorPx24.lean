/- pp.py and press2.py (wip/tools) wrote this text. -/
import Derived.Test.YtphboakgkmjpbaaGreatDoorJHostDoes1
import Derived.Test.YtphboakgkmjpbaaGreatDoorPx23
namespace Go.Proofs.YtphboakgkmjpbaaGreatDoor.P
open Go.RowKit Go.Proofs.YtphboakgkmjpbaaGreatDoorW.PrintWords Go.Proofs.YtphboakgkmjpbaaGreatDoorW.PrintLast Go.Proofs.YtphboakgkmjpbaaGreatDoorW.PrintMore
attribute [local go_sem] max2_int min2_int max_two min_two max_three min_three max_four min_four
attribute [local go_sem] Instr.field asAgg
set_option linter.unusedVariables false
set_option linter.unusedSimpArgs false
set_option maxHeartbeats 8000000
set_option maxRecDepth 100000

/-! ### shutterref11_Open: function 29 -/
def shutterref11_Open.f (k : Nat) (c d : Int) (a : List (S47)) (e : Int) (g h : Bool) (a1 : Int) : Option (Bool) := if 0 ≤ a1 then (if a1 < (a.length : Int) then (if ((rd_T47 a a1).f0 = true) then (some false) else ((shutterref11_Of.f k c d a e g h a1).bind fun b => (some (!b.1)))) else (none)) else (none)
theorem shutterref11_Open.mono : ∀ a0 a1 a b a4 c d k, LeO (shutterref11_Open.f k a0 a1 a b a4 c d) (shutterref11_Open.f (k + 1) a0 a1 a b a4 c d) := by
 intro a0 a1 a b a4 c d k
 unfold shutterref11_Open.f
 repeat' first
   | (with_reducible exact shutterref11_Of.mono _ _ _ _ _ _ _ _)
   | (with_reducible exact LeO.refl _)
   | (with_reducible exact LeO.none _)
   | (with_reducible refine LeO.ite ?_ ?_)
   | (with_reducible refine LeO.bind ?_ (fun _ => ?_))
   | exact shutterref11_Of.mono _ _ _ _ _ _ _ _
   | exact LeO.none _
   | refine LeO.ite ?_ ?_
   | refine LeO.bind ?_ (fun _ => ?_)
theorem shutterref11_Open.calls (k : Nat) (m n : Int) (B : Option Addr) (E : Nat) (a : List (S47)) (o : Int) (p q : Bool) (a1 : Int) (r : Bool) (w : World) (L : Kd.C k47 w B a.length a) (K : a.length ≤ E) (h : shutterref11_Open.f k m n a o p q a1 = some r) :
  Calls Tryz.prog 29 #[.agg #[.int .i64 m, .int .i64 n, .slice B a.length E, .int .i64 o, .bool p, .bool q], .int .i64 a1] w fun e w' => e = .returned (.bool r) ∧ Below w.heap.size w w' := by
 have aB := Tryz.underlying24
 have aC := Tryz.underlying45
 have D := Z L
 have Q := Z K
 clear L K
 have HB := Z (Below.refl w.heap.size w)
 unfold shutterref11_Open.f at h
 have H := h
 clear h
 obtain ⟨c3, H⟩ := gt_ H
 have az := decide_eq_true c3
 clear c3
 obtain ⟨c4, H⟩ := gt_ H
 have aA := decide_eq_true c4
 clear c4
 obtain ⟨T, J⟩ : ∃ b_ : Bool, b_ = ((rd_T47 a a1).f0) := ⟨_, rfl⟩
 replace H : (if (T = true) then (some false) else ((shutterref11_Of.f k m n a o p q a1).bind fun x => (some (!x.1)))) = some r := by rw [← J] at H; exact H
 have l := Z J
 clear J
 by_cases c6 : (T = true)
 ·subst c6
  rw [if_pos rfl] at H
  obtain rfl := Option.some.inj H
  go_enter Tryz.func29, Tryz.ntmps29
  go_wp2_with (first | ((with_reducible refine gD_ 2 rfl ?_); refine bx_ 2 24 #[.int .i64 m, .int .i64 n, .slice B a.length E, .int .i64 o, .bool p, .bool q] ?_; intro y hg w7 hbox hb; have s := Z hbox; have P := ln' w hg; replace HB := bs_ hb; clear hb hbox hg; have ak := cells6 s.out; have u : 0 ≤ (a1 : Int) := od_; have v : a1 < (a.length : Int) := od_; obtain ⟨R, I, b, c, d, i, g, j⟩ := at_T47 D.out a1 u v; (try rw [← l.out] at b); (try rw [← l.out] at c); (try rw [← l.out] at d); (try rw [← l.out] at g); cases I; replace b := hc_ HB b; replace c := hc_ HB c; replace d := hc_ HB d; replace i := hc_ HB i; replace g := hc_ HB g; replace j := hc_ HB j; replace u := eq_true u; replace v := eq_true v))
  go_ret
  exact ⟨er_, bl_⟩
 replace c6 := Bool.eq_false_iff.mpr c6
 subst c6
 rw [iF_] at H
 replace H := bn_ H
 obtain ⟨⟨M, U, V, W⟩, A9, H⟩ := H
 try dsimp only at H
 obtain rfl := Option.some.inj H
 go_enter Tryz.func29, Tryz.ntmps29
 go_wp2_with (first | ((with_reducible refine gD_ 2 rfl ?_); refine bx_ 2 24 #[.int .i64 m, .int .i64 n, .slice B a.length E, .int .i64 o, .bool p, .bool q] ?_; intro y hg aE hbox hb; have s := Z hbox; have P := ln' w hg; replace HB := bs_ hb; clear hb hbox hg; have X := cells6 s.out; have u : 0 ≤ (a1 : Int) := od_; have v : a1 < (a.length : Int) := od_; obtain ⟨R, I, b, c, d, i, g, j⟩ := at_T47 D.out a1 u v; (try rw [← l.out] at b); (try rw [← l.out] at c); (try rw [← l.out] at d); (try rw [← l.out] at g); cases I; replace b := hc_ HB b; replace c := hc_ HB c; replace d := hc_ HB d; replace i := hc_ HB i; replace g := hc_ HB g; replace j := hc_ HB j; replace u := eq_true u; replace v := eq_true v) | (go_at_call 52; (with_reducible refine (shutterref11_Of.calls k m n _ _ a o p q a1 M U V W _ ?side1 ?side2 A9.out).mono ?_); (case side1 => repeat (first | exact (Kd.C_below D.out HB.out) | (with_reducible apply pC))); (case side2 => exact Q.out); rintro e aF ⟨rfl, hb⟩; replace s := kb' s hb; replace HB := bs_ hb; (try clear hb)))
 go_ret
 exact ⟨er_, bl_⟩

/-! ### shutterref11_first: function 53 -/
def shutterref11_first.f (k : Nat) (c d : Int) (a : List (S47)) (e : Int) (g h : Bool) (a1 : Int) : Option (Int) := (shutterref11_mod.f k (wrap64 (a1 + 1)) (a.length : Int)).bind fun b => (if 0 ≤ a1 then (if a1 < (a.length : Int) then (if (rd_T47 a a1).f0 = true then (if ((rd_T47 a a1).f1.f0 = true) then (some (-1)) else (if 0 ≤ b then (if b < (a.length : Int) then (if ((rd_T47 a b).f0 = true) then (some (-1)) else (some b)) else (none)) else (none))) else (some (-1))) else (none)) else (none))
theorem shutterref11_first.mono : ∀ a0 a1 a b a4 c d k, LeO (shutterref11_first.f k a0 a1 a b a4 c d) (shutterref11_first.f (k + 1) a0 a1 a b a4 c d) := by
 intro a0 a1 a b a4 c d k
 unfold shutterref11_first.f
 repeat' first
   | (with_reducible exact shutterref11_mod.mono _ _ _)
   | (with_reducible exact LeO.refl _)
   | (with_reducible exact LeO.none _)
   | (with_reducible refine LeO.ite ?_ ?_)
   | (with_reducible refine LeO.bind ?_ (fun _ => ?_))
   | exact shutterref11_mod.mono _ _ _
   | exact LeO.none _
   | refine LeO.ite ?_ ?_
   | refine LeO.bind ?_ (fun _ => ?_)
theorem shutterref11_first.calls (k : Nat) (Y aa : Int) (X : Option Addr) (ae : Nat) (a : List (S47)) (ab : Int) (ac ad : Bool) (a1 r : Int) (w : World) (ar : Kd.C k47 w X a.length a) (aq : a.length ≤ ae) (h : shutterref11_first.f k Y aa a ab ac ad a1 = some r) :
  Calls Tryz.prog 53 #[.agg #[.int .i64 Y, .int .i64 aa, .slice X a.length ae, .int .i64 ab, .bool ac, .bool ad], .int .i64 a1] w fun e w' => e = .returned (.int .i64 r) ∧ Below w.heap.size w w' := by
 have br := Tryz.underlying24
 have J := Z ar
 have bm := Z aq
 clear ar aq
 have HB := Z (Below.refl w.heap.size w)
 unfold shutterref11_first.f at h
 have H := h
 clear h
 replace H := bn_ H
 obtain ⟨i, A3, H⟩ := H
 obtain ⟨c4, H⟩ := gt_ H
 have bp := decide_eq_true c4
 clear c4
 obtain ⟨c5, H⟩ := gt_ H
 have bq := decide_eq_true c5
 clear c5
 obtain ⟨ax, al⟩ : ∃ b_ : Bool, b_ = ((rd_T47 a a1).f0) := ⟨_, rfl⟩
 replace H : (if ax = true then (if ((rd_T47 a a1).f1.f0 = true) then (some (-1)) else (if 0 ≤ i then (if i < (a.length : Int) then (if ((rd_T47 a i).f0 = true) then (some (-1)) else (some i)) else (none)) else (none))) else (some (-1))) = some r := by rw [← al] at H; exact H
 have j := Z al
 clear al
 cases ax
 ·rw [iF_] at H
  obtain rfl := Option.some.inj H
  go_enter Tryz.func53, Tryz.ntmps53
  go_wp2_with (first | ((with_reducible refine gD_ 2 rfl ?_); refine bx_ 2 24 #[.int .i64 Y, .int .i64 aa, .slice X a.length ae, .int .i64 ab, .bool ac, .bool ad] ?_; intro F hg GA hbox hb; have O := Z hbox; have ah := ln' w hg; replace HB := bs_ hb; clear hb hbox hg; have aR := cells6 O.out) | ((with_reducible refine gF_ 54 rfl ?_); refine gd_ (some 11) Tryz.func54 (shutterref11_mod.calls k (wrap64 (a1 + 1)) (a.length : Int) i _ A3.out) ?_; rintro e w' ⟨rfl, ⟨nd, rfl⟩⟩; refine ⟨_, rfl, ?_⟩; have D : 0 ≤ (a1 : Int) := od_; have E : a1 < (a.length : Int) := od_; obtain ⟨M, T, b, c, d, s, g, u⟩ := at_T47 J.out a1 D E; (try rw [← j.out] at b); (try rw [← j.out] at c); (try rw [← j.out] at d); (try rw [← j.out] at g); cases T; replace b := hc_ HB b; replace c := hc_ HB c; replace d := hc_ HB d; replace s := hc_ HB s; replace g := hc_ HB g; replace u := hc_ HB u; replace D := eq_true D; replace E := eq_true E))
  go_ret
  exact ⟨er_, bl_⟩
 rw [if_pos rfl] at H
 obtain ⟨ay, am⟩ : ∃ b_ : Bool, b_ = ((rd_T47 a a1).f1.f0) := ⟨_, rfl⟩
 replace H : (if (ay = true) then (some (-1)) else (if 0 ≤ i then (if i < (a.length : Int) then (if ((rd_T47 a i).f0 = true) then (some (-1)) else (some i)) else (none)) else (none))) = some r := by rw [← am] at H; exact H
 have p := Z am
 clear am
 by_cases c9 : (ay = true)
 ·subst c9
  rw [if_pos rfl] at H
  obtain rfl := Option.some.inj H
  go_enter Tryz.func53, Tryz.ntmps53
  go_wp2_with (first | ((with_reducible refine gD_ 2 rfl ?_); refine bx_ 2 24 #[.int .i64 Y, .int .i64 aa, .slice X a.length ae, .int .i64 ab, .bool ac, .bool ad] ?_; intro F hg bs hbox hb; have O := Z hbox; have ah := ln' w hg; replace HB := bs_ hb; clear hb hbox hg; have az := cells6 O.out) | ((with_reducible refine gF_ 54 rfl ?_); refine gd_ (some 11) Tryz.func54 (shutterref11_mod.calls k (wrap64 (a1 + 1)) (a.length : Int) i _ A3.out) ?_; rintro e w' ⟨rfl, ⟨nd, rfl⟩⟩; refine ⟨_, rfl, ?_⟩; have D : 0 ≤ (a1 : Int) := od_; have E : a1 < (a.length : Int) := od_; obtain ⟨M, T, b, c, d, s, g, u⟩ := at_T47 J.out a1 D E; (try rw [← j.out] at b); (try rw [← p.out] at b); (try rw [← j.out] at c); (try rw [← p.out] at c); (try rw [← j.out] at d); (try rw [← p.out] at d); (try rw [← j.out] at g); (try rw [← p.out] at g); cases T; replace b := hc_ HB b; replace c := hc_ HB c; replace d := hc_ HB d; replace s := hc_ HB s; replace g := hc_ HB g; replace u := hc_ HB u; replace D := eq_true D; replace E := eq_true E; have K : 0 ≤ (a1 : Int) := od_; have L : a1 < (a.length : Int) := od_; obtain ⟨W, af, l, m, n, A, o, B⟩ := at_T47 J.out a1 K L; (try rw [← j.out] at l); (try rw [← p.out] at l); (try rw [← j.out] at m); (try rw [← p.out] at m); (try rw [← j.out] at n); (try rw [← p.out] at n); (try rw [← j.out] at o); (try rw [← p.out] at o); obtain rfl : M = W := (by injection af); replace l := hc_ HB l; replace m := hc_ HB m; replace n := hc_ HB n; replace A := hc_ HB A; replace o := hc_ HB o; replace B := hc_ HB B; replace K := eq_true K; replace L := eq_true L))
  go_ret
  exact ⟨er_, bl_⟩
 replace c9 := Bool.eq_false_iff.mpr c9
 subst c9
 rw [iF_] at H
 obtain ⟨an, H⟩ := gt_ H
 have bn := decide_eq_true an
 clear an
 obtain ⟨ao, H⟩ := gt_ H
 have bo := decide_eq_true ao
 clear ao
 obtain ⟨au, aj⟩ : ∃ b_ : Bool, b_ = ((rd_T47 a i).f0) := ⟨_, rfl⟩
 replace H : (if (au = true) then (some (-1)) else (some i)) = some r := by rw [← aj] at H; exact H
 have q := Z aj
 clear aj
 by_cases ap : (au = true)
 ·subst ap
  rw [if_pos rfl] at H
  obtain rfl := Option.some.inj H
  go_enter Tryz.func53, Tryz.ntmps53
  go_wp2_with (first | ((with_reducible refine gD_ 2 rfl ?_); refine bx_ 2 24 #[.int .i64 Y, .int .i64 aa, .slice X a.length ae, .int .i64 ab, .bool ac, .bool ad] ?_; intro F hg bt hbox hb; have O := Z hbox; have ah := ln' w hg; replace HB := bs_ hb; clear hb hbox hg; have aF := cells6 O.out) | ((with_reducible refine gF_ 54 rfl ?_); refine gd_ (some 11) Tryz.func54 (shutterref11_mod.calls k (wrap64 (a1 + 1)) (a.length : Int) i _ A3.out) ?_; rintro e w' ⟨rfl, ⟨nd, rfl⟩⟩; refine ⟨_, rfl, ?_⟩; have D : 0 ≤ (a1 : Int) := od_; have E : a1 < (a.length : Int) := od_; obtain ⟨M, T, b, c, d, s, g, u⟩ := at_T47 J.out a1 D E; (try rw [← j.out] at b); (try rw [← p.out] at b); (try rw [← q.out] at b); (try rw [← j.out] at c); (try rw [← p.out] at c); (try rw [← q.out] at c); (try rw [← j.out] at d); (try rw [← p.out] at d); (try rw [← q.out] at d); (try rw [← j.out] at g); (try rw [← p.out] at g); (try rw [← q.out] at g); cases T; replace b := hc_ HB b; replace c := hc_ HB c; replace d := hc_ HB d; replace s := hc_ HB s; replace g := hc_ HB g; replace u := hc_ HB u; replace D := eq_true D; replace E := eq_true E; have K : 0 ≤ (a1 : Int) := od_; have L : a1 < (a.length : Int) := od_; obtain ⟨W, af, l, m, n, A, o, B⟩ := at_T47 J.out a1 K L; (try rw [← j.out] at l); (try rw [← p.out] at l); (try rw [← q.out] at l); (try rw [← j.out] at m); (try rw [← p.out] at m); (try rw [← q.out] at m); (try rw [← j.out] at n); (try rw [← p.out] at n); (try rw [← q.out] at n); (try rw [← j.out] at o); (try rw [← p.out] at o); (try rw [← q.out] at o); obtain rfl : M = W := (by injection af); replace l := hc_ HB l; replace m := hc_ HB m; replace n := hc_ HB n; replace A := hc_ HB A; replace o := hc_ HB o; replace B := hc_ HB B; replace K := eq_true K; replace L := eq_true L; have U : 0 ≤ (i : Int) := od_; have V : i < (a.length : Int) := od_; obtain ⟨ai, ak, v, x, y, G, z, I⟩ := at_T47 J.out i U V; (try rw [← j.out] at v); (try rw [← p.out] at v); (try rw [← q.out] at v); (try rw [← j.out] at x); (try rw [← p.out] at x); (try rw [← q.out] at x); (try rw [← j.out] at y); (try rw [← p.out] at y); (try rw [← q.out] at y); (try rw [← j.out] at z); (try rw [← p.out] at z); (try rw [← q.out] at z); obtain rfl : M = ai := (by injection ak); replace v := hc_ HB v; replace x := hc_ HB x; replace y := hc_ HB y; replace G := hc_ HB G; replace z := hc_ HB z; replace I := hc_ HB I; replace U := eq_true U; replace V := eq_true V))
  go_ret
  exact ⟨er_, bl_⟩
 replace ap := Bool.eq_false_iff.mpr ap
 subst ap
 rw [iF_] at H
 obtain rfl := Option.some.inj H
 go_enter Tryz.func53, Tryz.ntmps53
 go_wp2_with (first | ((with_reducible refine gD_ 2 rfl ?_); refine bx_ 2 24 #[.int .i64 Y, .int .i64 aa, .slice X a.length ae, .int .i64 ab, .bool ac, .bool ad] ?_; intro F hg bu hbox hb; have O := Z hbox; have ah := ln' w hg; replace HB := bs_ hb; clear hb hbox hg; have aL := cells6 O.out) | ((with_reducible refine gF_ 54 rfl ?_); refine gd_ (some 11) Tryz.func54 (shutterref11_mod.calls k (wrap64 (a1 + 1)) (a.length : Int) i _ A3.out) ?_; rintro e w' ⟨rfl, ⟨nd, rfl⟩⟩; refine ⟨_, rfl, ?_⟩; have D : 0 ≤ (a1 : Int) := od_; have E : a1 < (a.length : Int) := od_; obtain ⟨M, T, b, c, d, s, g, u⟩ := at_T47 J.out a1 D E; (try rw [← j.out] at b); (try rw [← p.out] at b); (try rw [← q.out] at b); (try rw [← j.out] at c); (try rw [← p.out] at c); (try rw [← q.out] at c); (try rw [← j.out] at d); (try rw [← p.out] at d); (try rw [← q.out] at d); (try rw [← j.out] at g); (try rw [← p.out] at g); (try rw [← q.out] at g); cases T; replace b := hc_ HB b; replace c := hc_ HB c; replace d := hc_ HB d; replace s := hc_ HB s; replace g := hc_ HB g; replace u := hc_ HB u; replace D := eq_true D; replace E := eq_true E; have K : 0 ≤ (a1 : Int) := od_; have L : a1 < (a.length : Int) := od_; obtain ⟨W, af, l, m, n, A, o, B⟩ := at_T47 J.out a1 K L; (try rw [← j.out] at l); (try rw [← p.out] at l); (try rw [← q.out] at l); (try rw [← j.out] at m); (try rw [← p.out] at m); (try rw [← q.out] at m); (try rw [← j.out] at n); (try rw [← p.out] at n); (try rw [← q.out] at n); (try rw [← j.out] at o); (try rw [← p.out] at o); (try rw [← q.out] at o); obtain rfl : M = W := (by injection af); replace l := hc_ HB l; replace m := hc_ HB m; replace n := hc_ HB n; replace A := hc_ HB A; replace o := hc_ HB o; replace B := hc_ HB B; replace K := eq_true K; replace L := eq_true L; have U : 0 ≤ (i : Int) := od_; have V : i < (a.length : Int) := od_; obtain ⟨ai, ak, v, x, y, G, z, I⟩ := at_T47 J.out i U V; (try rw [← j.out] at v); (try rw [← p.out] at v); (try rw [← q.out] at v); (try rw [← j.out] at x); (try rw [← p.out] at x); (try rw [← q.out] at x); (try rw [← j.out] at y); (try rw [← p.out] at y); (try rw [← q.out] at y); (try rw [← j.out] at z); (try rw [← p.out] at z); (try rw [← q.out] at z); obtain rfl : M = ai := (by injection ak); replace v := hc_ HB v; replace x := hc_ HB x; replace y := hc_ HB y; replace G := hc_ HB G; replace z := hc_ HB z; replace I := hc_ HB I; replace U := eq_true U; replace V := eq_true V))
 go_ret
 exact ⟨er_, bl_⟩

/-! ### shutterref11_Next: function 30 -/
def shutterref11_Next.l0 : Nat → Int → Int → Int → Int → List (S47) → Int → Bool → Bool → Option (Int)
 | 0, _, _, _, _, _, _, _, _ => none
 | k + 1, l, j, b, c, a, d, e, g => if j ≤ (a.length : Int) then ((shutterref11_mod.f k (wrap64 (l + j)) (a.length : Int)).bind fun i => ((shutterref11_first.f k b c a d e g i).bind fun h => (if h ≥ 0 then (some h) else (shutterref11_Next.l0 k l (wrap64 (j + 1)) b c a d e g)))) else (some (-1))
def shutterref11_Next.f (k : Nat) (a b : Int) (g : List (S47)) (c : Int) (d e : Bool) (a1 : Int) : Option (Int) := shutterref11_Next.l0 k a1 1 a b g c d e
theorem shutterref11_Next.mono_l : ∀ k, (∀ b c d e f g i j, LeO (shutterref11_Next.l0 k b c d e f g i j) (shutterref11_Next.l0 (k + 1) b c d e f g i j))
 | 0 => fun _ _ _ _ _ _ _ _ r h => by simp [shutterref11_Next.l0] at h
 | k + 1 => by
  have a := shutterref11_Next.mono_l k
  ·intro b c d e f g i j
   unfold shutterref11_Next.l0
   repeat' first
   | (with_reducible exact a _ _ _ _ _ _ _ _)
   | (with_reducible exact shutterref11_first.mono _ _ _ _ _ _ _ _)
   | (with_reducible exact shutterref11_mod.mono _ _ _)
   | (with_reducible exact LeO.refl _)
   | (with_reducible exact LeO.none _)
   | (with_reducible refine LeO.ite ?_ ?_)
   | (with_reducible refine LeO.bind ?_ (fun _ => ?_))
   | exact a _ _ _ _ _ _ _ _
   | exact shutterref11_first.mono _ _ _ _ _ _ _ _
   | exact shutterref11_mod.mono _ _ _
   | exact LeO.none _
   | refine LeO.ite ?_ ?_
   | refine LeO.bind ?_ (fun _ => ?_)
theorem shutterref11_Next.mono : ∀ a0 a1 b c a4 d e k, LeO (shutterref11_Next.f k a0 a1 b c a4 d e) (shutterref11_Next.f (k + 1) a0 a1 b c a4 d e) := by
 intro a0 a1 b c a4 d e k
 have a := shutterref11_Next.mono_l k
 unfold shutterref11_Next.f
 repeat' first
   | (with_reducible exact a _ _ _ _ _ _ _ _)
   | (with_reducible exact shutterref11_first.mono _ _ _ _ _ _ _ _)
   | (with_reducible exact shutterref11_mod.mono _ _ _)
   | (with_reducible exact LeO.refl _)
   | (with_reducible exact LeO.none _)
   | (with_reducible refine LeO.ite ?_ ?_)
   | (with_reducible refine LeO.bind ?_ (fun _ => ?_))
   | exact a _ _ _ _ _ _ _ _
   | exact shutterref11_first.mono _ _ _ _ _ _ _ _
   | exact shutterref11_mod.mono _ _ _
   | exact LeO.none _
   | refine LeO.ite ?_ ?_
   | refine LeO.bind ?_ (fun _ => ?_)
def shutterref11_Next.T4 : Bool × List (List Nat × List Nat) := (true, [([], []), ([], []), ([], []), ([1, 2], [1, 2]), ([], []), ([4], [4]), ([5], [5]), ([3, 6], [3, 6]), ([0, 7, 7], [0, 7]), ([8, 8, 0, 1, 2, 3, 4, 5, 6, 7, 8], [8])])
def shutterref11_Next.B4 : List Nat := [0, 0, 0, 6, 0, 16, 48, 126, 255, 511]
theorem shutterref11_Next.tab4 : rtab .any (opsOf Tryz.f30 4) = shutterref11_Next.T4 := by kernel_rfl
theorem shutterref11_Next.bits4 : waitsOk shutterref11_Next.T4.2 shutterref11_Next.B4 = true := by kernel_rfl
theorem shutterref11_Next.calls (k : Nat) (d g : Int) (u : Option Addr) (x : Nat) (b : List (S47)) (j : Int) (l m : Bool) (a1 r : Int) (w : World) (D : Kd.C k47 w u b.length b) (B : b.length ≤ x) (h : shutterref11_Next.f k d g b j l m a1 = some r) :
  Calls Tryz.prog 30 #[.agg #[.int .i64 d, .int .i64 g, .slice u b.length x, .int .i64 j, .bool l, .bool m], .int .i64 a1] w fun e w' => e = .returned (.int .i64 r) ∧ Below w.heap.size w w' := by
 have aN := Tryz.underlying24
 have A := Z D
 have z := Z B
 clear D B
 have HB := Z (Below.refl w.heap.size w)
 unfold shutterref11_Next.f at h
 have H := h
 clear h
 have H' := Z H
 clear H
 go_enter Tryz.func30, Tryz.ntmps30
 go_wp2_with (first | ((with_reducible refine gD_ 2 rfl ?_); refine bx_ 2 24 #[.int .i64 d, .int .i64 g, .slice u b.length x, .int .i64 j, .bool l, .bool m] ?_; intro c hg w3 hbox hb; have a := Z hbox; have aM := ln' w hg; replace HB := bs_ hb; clear hb hbox hg))
 go_loopg [5] k (fun kq v5 w' => ∃ (o : Int), v5 = .int .i64 o ∧ Aside0 (shutterref11_Next.l0 kq a1 o d g b j l m = some r) ∧ Aside0 (kq ≤ k) ∧ Aside0 (w'.heap[c]? = some (.cells #[.int .i64 d, .int .i64 g, (.slice u b.length x), .int .i64 j, .bool l, .bool m] 24 (0, 0))) ∧ Aside0 (Below w.heap.size w w'))
 case atStart => exact ⟨(1), (dn_), H', ⟨Nat.le_refl _⟩, ⟨vK a.out⟩, ⟨bl_⟩⟩
 case round =>
  clear H'
  obtain ⟨o, rfl, HA, G, a, HB⟩ := hrel
  cases gk with
  | zero => exact absurd HA.out (by simp [shutterref11_Next.l0])
  | succ k1 =>
   have H := HA.out
   clear HA
   simp only [shutterref11_Next.l0] at H
   by_cases c4 : o ≤ (b.length : Int)
   rotate_left
   ·rw [if_neg c4] at H
    have L := decide_eq_false c4
    clear c4
    obtain rfl := Option.some.inj H
    have ac := cells6 a.out
    go_wp2
    go_ret
    exact ⟨er_, bl_⟩
   rw [if_pos c4] at H
   have L := decide_eq_true c4
   clear c4
   replace H := bn_ H
   obtain ⟨y, A5, H⟩ := H
   replace H := bn_ H
   obtain ⟨s, A6, H⟩ := H
   by_cases c7 : s ≥ 0
   ·rw [if_pos c7] at H
    have M : decide (0 ≤ s) = true := decide_eq_true c7
    clear c7
    obtain rfl := Option.some.inj H
    have az := cells6 a.out
    try go_wp2
    replace a := Z (blk_drew a.out)
    replace HB := Z (below_drew1 HB.out)
    refine start_ (n := 10) (S := fun w' => w'.cell? ⟨c, 0, none⟩ = some (.int .i64 d) ∧ w'.cell? ⟨c, 1, none⟩ = some (.int .i64 g) ∧ w'.cell? ⟨c, 2, none⟩ = some (.slice u b.length x) ∧ w'.cell? ⟨c, 3, none⟩ = some (.int .i64 j) ∧ w'.cell? ⟨c, 4, none⟩ = some (.bool l) ∧ w'.cell? ⟨c, 5, none⟩ = some (.bool m)) (ds := []) (bv 10 0) (by kernel_rfl) rfl rfl hd_ (fun hHeld => ?_); refine with_tabW shutterref11_Next.tab4 shutterref11_Next.bits4 (fun HT_ HW_ => ?_)
    generalize wr.drew = w9 at a HB hHeld ⊢
    refine pT_ HT_ 1 10 2 (some 15) ?_
    refine pT_ HT_ 2 10 6 (some 16) ?_
    refine pT_ HT_ 3 10 14 (some 17) ?_
    refine pT_ HT_ 4 10 30 (some 18) ?_
    refine tT_ HT_ HW_ hHeld 0 10 31 (some 14) ?_
    refine tT_ HT_ HW_ hHeld 5 10 63 (some 19) ?_
    refine pT_ HT_ 6 10 127 (some 20) ?_
    refine oT_ HT_ 7 10 255 (some 21) (fun K hK => ?_)
    refine goes_ Tryz.func54 (by kernel_rfl) rfl #[.int .i64 (wrap64 (a1 + o)), .int .i64 (b.length : Int)] (by rfl) rfl rfl ag_ ?_
    with_reducible refine (shutterref11_mod.calls k1 (wrap64 (a1 + o)) (b.length : Int) y _ A5.out).mono ?_
    rintro e w' ⟨rfl, ⟨nd, rfl⟩⟩
    refine ⟨_, rfl, ?_⟩
    refine hK.out _ _ hd_ (fun hHeld => ?_)
    clear hK K
    refine nA_ (some 21) ?_
    refine oT_ HT_ 8 10 511 (some 22) (fun K hK => ?_)
    refine goes_ Tryz.func53 (by kernel_rfl) rfl #[.agg #[.int .i64 d, .int .i64 g, .slice u b.length x, .int .i64 j, .bool l, .bool m], .int .i64 y] (by rfl) rfl rfl ag_ ?_
    with_reducible refine (shutterref11_first.calls k1 d g _ _ b j l m y s _ ?side1 ?side2 A6.out).mono ?_
    (case side1 => repeat (first | exact (Kd.C_below A.out bl_) | (with_reducible apply pC)))
    (case side2 => exact z.out)
    rintro e aP ⟨rfl, hb⟩
    refine ⟨_, rfl, ?_⟩
    replace a := kb' a hb
    replace HB := bs_ hb
    (try clear hb)
    (try clear ay)
    (try clear hk)
    (try clear hi)
    refine hK.out _ _ hd_ (fun hHeld => ?_)
    clear hK K
    refine nA_ (some 22) ?_
    refine pT_ HT_ 9 10 1023 (some 6) ?_
    refine done_ (done_of HT_.out (by kernel_rfl)) ?_
    try go_wp2
    go_ret
    exact ⟨er_, bl_⟩
   rw [if_neg c7] at H
   have M : decide (0 ≤ s) = false := decide_eq_false c7
   clear c7
   have H' := Z H
   clear H
   have V := cells6 a.out
   try go_wp2
   replace a := Z (blk_drew a.out)
   replace HB := Z (below_drew1 HB.out)
   refine start_ (n := 10) (S := fun w' => w'.cell? ⟨c, 0, none⟩ = some (.int .i64 d) ∧ w'.cell? ⟨c, 1, none⟩ = some (.int .i64 g) ∧ w'.cell? ⟨c, 2, none⟩ = some (.slice u b.length x) ∧ w'.cell? ⟨c, 3, none⟩ = some (.int .i64 j) ∧ w'.cell? ⟨c, 4, none⟩ = some (.bool l) ∧ w'.cell? ⟨c, 5, none⟩ = some (.bool m)) (ds := []) (bv 10 0) (by kernel_rfl) rfl rfl hd_ (fun hHeld => ?_); refine with_tabW shutterref11_Next.tab4 shutterref11_Next.bits4 (fun HT_ HW_ => ?_)
   generalize wr.drew = aQ at a HB hHeld ⊢
   refine pT_ HT_ 1 10 2 (some 15) ?_
   refine pT_ HT_ 2 10 6 (some 16) ?_
   refine pT_ HT_ 3 10 14 (some 17) ?_
   refine pT_ HT_ 4 10 30 (some 18) ?_
   refine tT_ HT_ HW_ hHeld 0 10 31 (some 14) ?_
   refine tT_ HT_ HW_ hHeld 5 10 63 (some 19) ?_
   refine pT_ HT_ 6 10 127 (some 20) ?_
   refine oT_ HT_ 7 10 255 (some 21) (fun K hK => ?_)
   refine goes_ Tryz.func54 (by kernel_rfl) rfl #[.int .i64 (wrap64 (a1 + o)), .int .i64 (b.length : Int)] (by rfl) rfl rfl ag_ ?_
   with_reducible refine (shutterref11_mod.calls k1 (wrap64 (a1 + o)) (b.length : Int) y _ A5.out).mono ?_
   rintro e w' ⟨rfl, ⟨nd, rfl⟩⟩
   refine ⟨_, rfl, ?_⟩
   refine hK.out _ _ hd_ (fun hHeld => ?_)
   clear hK K
   refine nA_ (some 21) ?_
   refine oT_ HT_ 8 10 511 (some 22) (fun K hK => ?_)
   refine goes_ Tryz.func53 (by kernel_rfl) rfl #[.agg #[.int .i64 d, .int .i64 g, .slice u b.length x, .int .i64 j, .bool l, .bool m], .int .i64 y] (by rfl) rfl rfl ag_ ?_
   with_reducible refine (shutterref11_first.calls k1 d g _ _ b j l m y s _ ?side1 ?side2 A6.out).mono ?_
   (case side1 => repeat (first | exact (Kd.C_below A.out bl_) | (with_reducible apply pC)))
   (case side2 => exact z.out)
   rintro e aR ⟨rfl, hb⟩
   refine ⟨_, rfl, ?_⟩
   replace a := kb' a hb
   replace HB := bs_ hb
   (try clear hb)
   (try clear ay)
   (try clear hk)
   (try clear hi)
   refine hK.out _ _ hd_ (fun hHeld => ?_)
   clear hK K
   refine nA_ (some 22) ?_
   refine pT_ HT_ 9 10 1023 (some 6) ?_
   refine done_ (done_of HT_.out (by kernel_rfl)) ?_
   try go_wp2
   go_roundg k1
   case measure => have := G.out; omega
   case rel => exact ⟨(wrap64 (o + 1)), (dn_), H', ⟨by have := G.out; omega⟩, ⟨vK a.out⟩, ⟨bl_⟩⟩

/-! ### shutterref10_Next: function 78 -/
def shutterref10_Next.f (b c : Int) (a : List (S47)) (d : Int) (e g : Bool) (a1 : Int) : Option (Int) := if (wrap64 (a1 + 1)) = (a.length : Int) then (some 0) else (some (wrap64 (a1 + 1)))
theorem shutterref10_Next.calls (g i : Int) (c : Option Addr) (m : Nat) (a : List (S47)) (j : Int) (k l : Bool) (a1 r : Int) (w : World) (u : Kd.C k47 w c a.length a) (s : a.length ≤ m) (h : shutterref10_Next.f g i a j k l a1 = some r) :
  Calls Tryz.prog 78 #[.agg #[.int .i64 g, .int .i64 i, .slice c a.length m, .int .i64 j, .bool k, .bool l], .int .i64 a1] w fun e w' => e = .returned (.int .i64 r) ∧ Below w.heap.size w w' := by
 have ae := Tryz.underlying24
 have ad := Z u
 have ac := Z s
 clear u s
 have HB := Z (Below.refl w.heap.size w)
 unfold shutterref10_Next.f at h
 have H := h
 clear h
 by_cases c3 : (wrap64 (a1 + 1)) = (a.length : Int)
 ·rw [if_pos c3] at H
  obtain ⟨y, z⟩ := eT_ c3
  clear c3
  obtain rfl := Option.some.inj H
  go_enter Tryz.func78, Tryz.ntmps78
  go_wp2_with (first | ((with_reducible refine gD_ 2 rfl ?_); refine bx_ 2 24 #[.int .i64 g, .int .i64 i, .slice c a.length m, .int .i64 j, .bool k, .bool l] ?_; intro b hg w4 hbox hb; have d := Z hbox; have x := ln' w hg; replace HB := bs_ hb; clear hb hbox hg; have A := cells6 d.out))
  go_ret
  exact ⟨er_, bl_⟩
 rw [if_neg c3] at H
 obtain ⟨y, z⟩ := eF_ c3
 obtain rfl := Option.some.inj H
 go_enter Tryz.func78, Tryz.ntmps78
 go_wp2_with (first | ((with_reducible refine gD_ 2 rfl ?_); refine bx_ 2 24 #[.int .i64 g, .int .i64 i, .slice c a.length m, .int .i64 j, .bool k, .bool l] ?_; intro b hg w6 hbox hb; have d := Z hbox; have x := ln' w hg; replace HB := bs_ hb; clear hb hbox hg; have I := cells6 d.out))
 go_ret
 exact ⟨er_, bl_⟩

/-! ### shutterref10_Span: function 79 -/
def shutterref10_Span.l0 : Nat → Int → Int → List Int → Int → Int → Int → List (S47) → Int → Bool → Bool → Option (List Int)
 | 0, _, _, _, _, _, _, _, _, _, _ => none
 | k + 1, l, m, h, i, a, b, c, d, e, g => if i = m then (some h) else (if i = l then (some h) else (if h.length < 17592186044416 then ((shutterref10_Next.f a b c d e g i).bind fun j => (shutterref10_Span.l0 k l m (h ++ [i]) j a b c d e g)) else (none)))
def shutterref10_Span.f (k : Nat) (a b : Int) (g : List (S47)) (c : Int) (d e : Bool) (a1 i : Int) : Option (List Int) := (shutterref10_Next.f a b g c d e a1).bind fun h => (shutterref10_Span.l0 k a1 i (([a1] : List Int)) h a b g c d e)
theorem shutterref10_Span.mono_l : ∀ k, (∀ b c d e f g i j l m, LeO (shutterref10_Span.l0 k b c d e f g i j l m) (shutterref10_Span.l0 (k + 1) b c d e f g i j l m))
 | 0 => fun _ _ _ _ _ _ _ _ _ _ r h => by simp [shutterref10_Span.l0] at h
 | k + 1 => by
  have a := shutterref10_Span.mono_l k
  ·intro b c d e f g i j l m
   unfold shutterref10_Span.l0
   repeat' first
   | (with_reducible exact a _ _ _ _ _ _ _ _ _ _)
   | (with_reducible exact LeO.refl _)
   | (with_reducible exact LeO.none _)
   | (with_reducible refine LeO.ite ?_ ?_)
   | (with_reducible refine LeO.bind ?_ (fun _ => ?_))
   | exact a _ _ _ _ _ _ _ _ _ _
   | exact LeO.none _
   | refine LeO.ite ?_ ?_
   | refine LeO.bind ?_ (fun _ => ?_)
theorem shutterref10_Span.mono : ∀ a0 a1 b c a4 d e g k, LeO (shutterref10_Span.f k a0 a1 b c a4 d e g) (shutterref10_Span.f (k + 1) a0 a1 b c a4 d e g) := by
 intro a0 a1 b c a4 d e g k
 have a := shutterref10_Span.mono_l k
 unfold shutterref10_Span.f
 repeat' first
   | (with_reducible exact a _ _ _ _ _ _ _ _ _ _)
   | (with_reducible exact LeO.refl _)
   | (with_reducible exact LeO.none _)
   | (with_reducible refine LeO.ite ?_ ?_)
   | (with_reducible refine LeO.bind ?_ (fun _ => ?_))
   | exact a _ _ _ _ _ _ _ _ _ _
   | exact LeO.none _
   | refine LeO.ite ?_ ?_
   | refine LeO.bind ?_ (fun _ => ?_)
theorem shutterref10_Span.calls (k : Nat) (i j : Int) (u : Option Addr) (v : Nat) (c : List (S47)) (l : Int) (m n : Bool) (a1 A : Int) (r : List Int) (w : World) (V : Kd.C k47 w u c.length c) (U : c.length ≤ v) (h : shutterref10_Span.f k i j c l m n a1 A = some r) :
  Calls Tryz.prog 79 #[.agg #[.int .i64 i, .int .i64 j, .slice u c.length v, .int .i64 l, .bool m, .bool n], .int .i64 a1, .int .i64 A] w fun e w' => ∃ av : Value, e = .returned (av) ∧ Kd.R (Kd.int .i64) 3 w' w.heap.size (fun _ => True) av r ∧ Below w.heap.size w w' := by
 have aT := Tryz.underlying24
 have Q := Z V
 have P := Z U
 clear V U
 have HB := Z (Below.refl w.heap.size w)
 unfold shutterref10_Span.f at h
 have H := h
 clear h
 obtain ⟨L, y⟩ : ∃ y_ : List Int, y_ = (([a1] : List Int)) := ⟨_, rfl⟩
 rw [← y] at H
 try replace H := sb_ H
 have S := Z y
 clear y
 replace H := bn_ H
 obtain ⟨x, A4, H⟩ := H
 have H' := Z H
 clear H
 go_enter Tryz.func79, Tryz.ntmps79
 go_wp2_with (first | ((with_reducible refine gD_ 3 rfl ?_); refine bx_ 3 24 #[.int .i64 i, .int .i64 j, .slice u c.length v, .int .i64 l, .bool m, .bool n] ?_; intro F hg w5 hbox hb; have a := Z hbox; have aQ := ln' w hg; replace HB := bs_ hb; clear hb hbox hg) | ((with_reducible refine gD_ 10 rfl ?_); refine Kd.R_lit (Kd.int .i64) _ 3 ?hg (N := 10) ?hd (xs := ([a1] : List Int)) (inner := [.int .i64 a1]) (ok := fun _ => True) (okp := fun _ => True) ?hr ?hp (fun _ hk => hk) trivial (Below.refl _ _) (Nat.le_refl _) (by simp) ?_; (case hd => rfl); (case hg => rfl); (case hr => first | (go_simp; done) | (go_simp; rfl)); (case hp => exact (Reps.one (show Kd.M (Kd.int .i64) _ _ _ a1 [.int .i64 a1] from rfl) (Reps.none _ _))); intro aU w6 K hb hg_ hnew_; clear hg_ hnew_; (first | rw [← S.out] at K | (simp only [Int.reduceToNat] at K; rw [← S.out] at K)); have D := Z (Kd.R_lower K (below_size bl_)); replace a := kb' a hb; replace HB := bs_ hb; clear hb K; have X := cells6 a.out) | ((with_reducible refine gF_ 78 rfl ?_); refine gd_ (some 13) Tryz.func78 (shutterref10_Next.calls i j _ _ c l m n a1 x _ (cB_ Q HB) P.out A4.out) ?_; rintro e w9 ⟨rfl, hb⟩; refine ⟨_, rfl, ?_⟩; replace D := rb' D hb; replace a := kb' a hb; replace HB := bs_ hb; (try clear hb); (try clear hk)))
 go_loopg [7, 8] k (fun kq v7 v8 w' => ∃ (B : List Int) (d : Int), v8 = .int .i64 d ∧ Aside0 (shutterref10_Span.l0 kq a1 A B d i j c l m n = some r) ∧ Aside0 (kq ≤ k) ∧ Aside0 (Kd.R (Kd.int .i64) 3 w' w.heap.size (fun _ => True) v7 B) ∧ Aside0 (w'.heap[F]? = some (.cells #[.int .i64 i, .int .i64 j, (.slice u c.length v), .int .i64 l, .bool m, .bool n] 24 (0, 0))) ∧ Aside0 (Below w.heap.size w w'))
 case atStart => exact ⟨(L), (x), (dn_), H', ⟨Nat.le_refl _⟩, ⟨vR_ D.out⟩, ⟨vK a.out⟩, ⟨bl_⟩⟩
 case round =>
  clear H'
  try clear X
  obtain ⟨B, d, rfl, HA, ar, GA, a, HB⟩ := hrel
  cases gk with
  | zero => exact absurd HA.out (by simp [shutterref10_Span.l0])
  | succ k1 =>
   have H := HA.out
   clear HA
   simp only [shutterref10_Span.l0] at H
   by_cases c10 : d = A
   ·rw [if_pos c10] at H
    obtain ⟨am, an⟩ := eT_ c10
    clear c10
    obtain rfl := Option.some.inj H
    go_wp2
    go_ret
    exact ⟨_, er_, by (with_reducible repeat apply pR); exact GA.out, bl_⟩
   rw [if_neg c10] at H
   obtain ⟨am, an⟩ := eF_ c10
   by_cases I : d = a1
   ·rw [if_pos I] at H
    obtain ⟨ao, ap⟩ := eT_ I
    clear I
    obtain rfl := Option.some.inj H
    go_wp2
    go_ret
    exact ⟨_, er_, by (with_reducible repeat apply pR); exact GA.out, bl_⟩
   rw [if_neg I] at H
   obtain ⟨ao, ap⟩ := eF_ I
   by_cases T : B.length < 17592186044416
   ·rw [if_pos T] at H
    have ak := Z T
    clear T
    obtain ⟨O, z⟩ : ∃ y_ : List Int, y_ = (B ++ [d]) := ⟨_, rfl⟩
    rw [← z] at H
    try replace H := sb_ H
    have al := Z z
    clear z
    replace H := bn_ H
    obtain ⟨J, aK, H⟩ := H
    have H' := Z H
    clear H
    go_wp2_with (first | ((with_reducible refine gate_builtin (b := .append) (xs := #[.tmp 22, .tmp 24]) rfl ?_); at_builtin; refine Kd.R_append (Kd.int .i64) (w0 := w) w.heap.size rfl (.tmp 22) (.tmp 24) 113 3 (.int .i64 0) 8 rfl Tryz.underlying113 info3 rfl (by decide) (by omega) u7 B d [.int .i64 d] (fun _ => True) (fun _ => False) rfl rfl ?aP (fun _ hk => hk.elim) ?aF ?aO ?aB ?aS ?aL ?_; (case aP => exact rfl); (case aB => exact bl_); (case aF => exact (fun _ _ => trivial)); (case aO => exact (by (with_reducible repeat apply pR); exact GA.out)); (case aS => exact (below_size bl_)); (case aL => have := ak.out; omega); intro aV aY ho hb hg hat; rw [← al.out] at ho; replace a := gw_ ⟨vK a.out⟩ hg (Kd.R_ne GA.out a.out (by decide)); replace HB := Z (hb); have E := Z (ho); clear GA; clear ho hb hg hat; have aw := cells6 a.out) | ((with_reducible refine gF_ 78 rfl ?_); refine gd_ (some 28) Tryz.func78 (shutterref10_Next.calls i j _ _ c l m n d J _ (cB_ Q HB) P.out aK.out) ?_; rintro e aZ ⟨rfl, hb⟩; refine ⟨_, rfl, ?_⟩; replace E := rb' E hb; replace a := kb' a hb; replace HB := bs_ hb; (try clear hb); (try clear hk)))
    go_roundg k1
    case measure => have := ar.out; omega
    case rel => exact ⟨(O), (J), (dn_), H', ⟨by have := ar.out; omega⟩, ⟨vR_ E.out⟩, ⟨vK a.out⟩, ⟨bl_⟩⟩
   rw [if_neg T] at H
   exact absurd H (by simp)

end Go.Proofs.YtphboakgkmjpbaaGreatDoor.P
