/- pp.py and press2.py (wip/tools) wrote this text. -/
import Derived.Test.YtphboakgkmjpbaaGreatDoorJHostDoes1
import Derived.Test.YtphboakgkmjpbaaGreatDoorPx8
import Derived.Test.YtphboakgkmjpbaaGreatDoorPx9
namespace Go.Proofs.YtphboakgkmjpbaaGreatDoor.P
open Go.RowKit Go.Proofs.YtphboakgkmjpbaaGreatDoorW.PrintWords Go.Proofs.YtphboakgkmjpbaaGreatDoorW.PrintLast Go.Proofs.YtphboakgkmjpbaaGreatDoorW.PrintMore
attribute [local go_sem] max2_int min2_int max_two min_two max_three min_three max_four min_four
attribute [local go_sem] Instr.field asAgg
set_option linter.unusedVariables false
set_option linter.unusedSimpArgs false
set_option maxHeartbeats 8000000
set_option maxRecDepth 100000

/-! ### grid_Span: function 68 -/
def grid_Span.l0 : Nat → Int → List Int → Int → Int → Int → List (S47) → Int → Bool → Bool → Option (List Int)
 | 0, _, _, _, _, _, _, _, _, _ => none
 | k + 1, l, h, j, b, c, a, d, e, g => if j = l then (some h) else (if (h.length : Int) < (a.length : Int) then (if h.length < 17592186044416 then ((grid_On.f b c a d e g j 1).bind fun i => (grid_Span.l0 k l (h ++ [j]) i b c a d e g)) else (none)) else (some h))
def grid_Span.f (k : Nat) (a b : Int) (g : List (S47)) (c : Int) (d e : Bool) (a1 i : Int) : Option (List Int) := (grid_On.f a b g c d e a1 1).bind fun h => (grid_Span.l0 k i (([a1] : List Int)) h a b g c d e)
theorem grid_Span.mono_l : ∀ k, (∀ b c d e f g i j l, LeO (grid_Span.l0 k b c d e f g i j l) (grid_Span.l0 (k + 1) b c d e f g i j l))
 | 0 => fun _ _ _ _ _ _ _ _ _ r h => by simp [grid_Span.l0] at h
 | k + 1 => by
  have a := grid_Span.mono_l k
  ·intro b c d e f g i j l
   unfold grid_Span.l0
   repeat' first
   | (with_reducible exact a _ _ _ _ _ _ _ _ _)
   | (with_reducible exact LeO.refl _)
   | (with_reducible exact LeO.none _)
   | (with_reducible refine LeO.ite ?_ ?_)
   | (with_reducible refine LeO.bind ?_ (fun _ => ?_))
   | exact a _ _ _ _ _ _ _ _ _
   | exact LeO.none _
   | refine LeO.ite ?_ ?_
   | refine LeO.bind ?_ (fun _ => ?_)
theorem grid_Span.mono : ∀ a0 a1 b c a4 d e g k, LeO (grid_Span.f k a0 a1 b c a4 d e g) (grid_Span.f (k + 1) a0 a1 b c a4 d e g) := by
 intro a0 a1 b c a4 d e g k
 have a := grid_Span.mono_l k
 unfold grid_Span.f
 repeat' first
   | (with_reducible exact a _ _ _ _ _ _ _ _ _)
   | (with_reducible exact LeO.refl _)
   | (with_reducible exact LeO.none _)
   | (with_reducible refine LeO.ite ?_ ?_)
   | (with_reducible refine LeO.bind ?_ (fun _ => ?_))
   | exact a _ _ _ _ _ _ _ _ _
   | exact LeO.none _
   | refine LeO.ite ?_ ?_
   | refine LeO.bind ?_ (fun _ => ?_)
theorem grid_Span.calls (k : Nat) (d i : Int) (v : Option Addr) (x : Nat) (a : List (S47)) (j : Int) (l m : Bool) (a1 B : Int) (r : List Int) (w : World) (V : Kd.C k47 w v a.length a) (U : a.length ≤ x) (h : grid_Span.f k d i a j l m a1 B = some r) :
  Calls Tryz.prog 68 #[.agg #[.int .i64 d, .int .i64 i, .slice v a.length x, .int .i64 j, .bool l, .bool m], .int .i64 a1, .int .i64 B] w fun e w' => ∃ av : Value, e = .returned (av) ∧ Kd.R (Kd.int .i64) 3 w' w.heap.size (fun _ => True) av r ∧ Below w.heap.size w w' := by
 have bp := Tryz.underlying24
 have Q := Z V
 have P := Z U
 clear V U
 have HB := Z (Below.refl w.heap.size w)
 unfold grid_Span.f at h
 have H := h
 clear h
 obtain ⟨L, z⟩ : ∃ y_ : List Int, y_ = (([a1] : List Int)) := ⟨_, rfl⟩
 rw [← z] at H
 try replace H := sb_ H
 have S := Z z
 clear z
 replace H := bn_ H
 obtain ⟨y, A4, H⟩ := H
 have H' := Z H
 clear H
 go_enter Tryz.func68, Tryz.ntmps68
 go_wp2_with (first | ((with_reducible refine gD_ 3 rfl ?_); (try (refine gate_guard (by rfl) ?_; dsimp only)); refine bx_ 3 24 #[.int .i64 d, .int .i64 i, .slice v a.length x, .int .i64 j, .bool l, .bool m] ?_; intro G hg w5 hbox hb; have c := Z hbox; have bl := ln' w hg; replace HB := bs_ hb; clear hb hbox hg) | ((with_reducible refine gD_ 10 rfl ?_); (try (refine gate_guard (by rfl) ?_; dsimp only)); refine Kd.R_lit (Kd.int .i64) _ 3 ?hg (N := 10) ?hd (xs := ([a1] : List Int)) (inner := [.int .i64 a1]) (ok := fun _ => True) (okp := fun _ => True) ?hr ?hp (fun _ hk => hk) trivial (Below.refl _ _) (Nat.le_refl _) (by simp) ?_; (case hd => rfl); (case hg => rfl); (case hr => first | (go_simp; done) | (go_simp; rfl)); (case hp => exact (Reps.one (show Kd.M (Kd.int .i64) _ _ _ a1 [.int .i64 a1] from rfl) (Reps.none _ _))); intro bq w6 K hb hg_ hnew_; clear hg_ hnew_; (first | rw [← S.out] at K | (simp only [Int.reduceToNat] at K; rw [← S.out] at K)); have E := Z (Kd.R_lower K (below_size bl_)); replace c := kb' c hb; replace HB := bs_ hb; clear hb K; have X := cells6 c.out) | ((with_reducible refine gF_ 85 rfl ?_); refine gd_ (some 13) Tryz.func85 (grid_On.calls d i _ _ a j l m a1 1 y _ (cB_ Q HB) P.out A4.out) ?_; rintro e w9 ⟨rfl, hb⟩; refine ⟨_, rfl, ?_⟩; replace E := rb' E hb; replace c := kb' c hb; replace HB := bs_ hb; (try clear hb); (try clear hk)))
 go_loopg [7, 8] k (fun kq v7 v8 w' => ∃ (p : List Int) (n : Int), v8 = .int .i64 n ∧ Aside0 (grid_Span.l0 kq B p n d i a j l m = some r) ∧ Aside0 (kq ≤ k) ∧ Aside0 (Kd.R (Kd.int .i64) 3 w' w.heap.size (fun _ => True) v7 p) ∧ Aside0 (w'.heap[G]? = some (.cells #[.int .i64 d, .int .i64 i, (.slice v a.length x), .int .i64 j, .bool l, .bool m] 24 (0, 0))) ∧ Aside0 (Below w.heap.size w w'))
 case atStart => exact ⟨(L), (y), (dn_), H', ⟨Nat.le_refl _⟩, ⟨vR_ E.out⟩, ⟨vK c.out⟩, ⟨bl_⟩⟩
 case round =>
  clear H'
  try clear X
  obtain ⟨p, n, rfl, HA, ar, GB, c, HB⟩ := hrel
  cases gk with
  | zero => exact absurd HA.out (by simp [grid_Span.l0])
  | succ k1 =>
   have H := HA.out
   clear HA
   simp only [grid_Span.l0] at H
   by_cases c10 : n = B
   ·rw [if_pos c10] at H
    obtain ⟨am, an⟩ := eT_ c10
    clear c10
    obtain rfl := Option.some.inj H
    go_wp2
    go_ret
    exact ⟨_, er_, by (with_reducible repeat apply pR); exact GB.out, bl_⟩
   rw [if_neg c10] at H
   obtain ⟨am, an⟩ := eF_ c10
   by_cases D : (p.length : Int) < (a.length : Int)
   rotate_left
   ·rw [if_neg D] at H
    have ao := decide_eq_false D
    have ap : decide (p.length < a.length) = false := decide_eq_false (fun h => D (Int.ofNat_lt.mpr h))
    clear D
    obtain rfl := Option.some.inj H
    obtain ⟨bn, bo, az⟩ := Kd.R_slice GB.out
    subst az
    have aR := cells6 c.out
    go_wp2
    go_ret
    exact ⟨_, er_, by (with_reducible repeat apply pR); exact GB.out, bl_⟩
   rw [if_pos D] at H
   have ao := decide_eq_true D
   have ap : decide (p.length < a.length) = true := decide_eq_true (Int.ofNat_lt.mp D)
   clear D
   obtain ⟨T, H⟩ := gt_ H
   have ak := Z T
   clear T
   obtain ⟨O, A⟩ : ∃ y_ : List Int, y_ = (p ++ [n]) := ⟨_, rfl⟩
   rw [← A] at H
   try replace H := sb_ H
   have al := Z A
   clear A
   replace H := bn_ H
   obtain ⟨J, bi, H⟩ := H
   have H' := Z H
   clear H
   obtain ⟨aw, ax, ay⟩ := Kd.R_slice GB.out
   subst ay
   have aA := cells6 c.out
   go_wp2_with (first | ((with_reducible refine gate_builtin (b := .append) (xs := #[.tmp 28, .tmp 30]) rfl ?_); (try (refine gate_guard (by rfl) ?_; dsimp only)); at_builtin; refine Kd.R_append (Kd.int .i64) (w0 := w) w.heap.size rfl (.tmp 28) (.tmp 30) 113 3 (.int .i64 0) 8 rfl Tryz.underlying113 info3 rfl (by decide) (by omega) (.slice aw p.length ax) p n [.int .i64 n] (fun _ => True) (fun _ => False) rfl rfl ?aP (fun _ hk => hk.elim) ?aF ?aO ?aB ?aS ?aL ?_; (case aP => exact rfl); (case aB => exact bl_); (case aF => exact (fun _ _ => trivial)); (case aO => exact (by (with_reducible repeat apply pR); exact GB.out)); (case aS => exact (below_size bl_)); (case aL => have := ak.out; omega); intro br bu ho hb hg hat; rw [← al.out] at ho; replace c := gw_ ⟨vK c.out⟩ hg (Kd.R_ne GB.out c.out (by decide)); replace HB := Z (hb); have F := Z (ho); clear GB; clear ho hb hg hat; have aI := cells6 c.out) | ((with_reducible refine gF_ 85 rfl ?_); refine gd_ (some 27) Tryz.func85 (grid_On.calls d i _ _ a j l m n 1 J _ (cB_ Q HB) P.out bi.out) ?_; rintro e GA ⟨rfl, hb⟩; refine ⟨_, rfl, ?_⟩; replace F := rb' F hb; replace c := kb' c hb; replace HB := bs_ hb; (try clear hb); (try clear hk)))
   go_roundg k1
   case measure => have := ar.out; omega
   case rel => exact ⟨(O), (J), (dn_), H', ⟨by have := ar.out; omega⟩, ⟨vR_ F.out⟩, ⟨vK c.out⟩, ⟨bl_⟩⟩

end Go.Proofs.YtphboakgkmjpbaaGreatDoor.P
