/- pp.py and press2.py (wip/tools) wrote this text. -/
import Derived.Test.YtphboakgkmjpbaaGreatDoorJHostDoes1
import Derived.Test.YtphboakgkmjpbaaGreatDoorPx4
import Derived.Test.YtphboakgkmjpbaaGreatDoorPx17
import Derived.Test.YtphboakgkmjpbaaGreatDoorPx18
import Derived.Test.YtphboakgkmjpbaaGreatDoorPx20
namespace Go.Proofs.YtphboakgkmjpbaaGreatDoor.P
open Go.RowKit Go.Proofs.YtphboakgkmjpbaaGreatDoorW.PrintWords Go.Proofs.YtphboakgkmjpbaaGreatDoorW.PrintLast Go.Proofs.YtphboakgkmjpbaaGreatDoorW.PrintMore
attribute [local go_sem] max2_int min2_int max_two min_two max_three min_three max_four min_four
attribute [local go_sem] Instr.field asAgg
set_option linter.unusedVariables false
set_option linter.unusedSimpArgs false
set_option maxHeartbeats 8000000
set_option maxRecDepth 100000

attribute [local go_sem high] eqA26
/-! ### shutterref08_Write: function 8 -/
mutual
def shutterref08_Write.l0 : Nat → Int → List Int → Int → Int → Bool → Bool → Bool → List (S49) → Option (List Int × Int × Int)
 | 0, _, _, _, _, _, _, _, _ => none
 | k + 1, j, i, b, c, d, e, g, a => if b < (a.length : Int) then (if 0 ≤ b then ((shutterref07_Wrong.f k ((rd_T49 a b).f0) ((rd_T49 a b).f1) ((rd_T49 a b).f2.f0) ((rd_T49 a b).f2.f1) ((rd_T49 a b).f2.f2) ((rd_T49 a b).f2.f3) ((rd_T49 a b).f3) ((rd_T49 a b).f4) j).bind fun h => (if h = 0 then (if b > 0 then (if ((rd_T49 a b).f0) = 1 then (if 0 ≤ (wrap64 (b - 1)) then (if (wrap64 (b - 1)) < (a.length : Int) then (shutterref08_Write.j1 k j i b h (((rd_T49 a (wrap64 (b - 1))).f0) == 1) c d e g a) else (none)) else (none)) else (shutterref08_Write.j1 k j i b h false c d e g a)) else (shutterref08_Write.j1 k j i b h false c d e g a)) else (shutterref08_Write.j1 k j i b h false c d e g a))) else (none)) else (if (i.length : Int) > 8192 then (some (([] : List Int), 6, (-1))) else (some (i, 0, (-1))))
def shutterref08_Write.j1 : Nat → Int → List Int → Int → Int → Bool → Int → Bool → Bool → Bool → List (S49) → Option (List Int × Int × Int)
 | 0, _, _, _, _, _, _, _, _, _, _ => none
 | k + 1, j, l, b, n, m, c, d, e, g, a => if m = true then (if 1 = 0 then (if 0 ≤ b then (if b < (a.length : Int) then ((shutterref07_Put.f k ((rd_T49 a b).f0) ((rd_T49 a b).f1) ((rd_T49 a b).f2.f0) ((rd_T49 a b).f2.f1) ((rd_T49 a b).f2.f2) ((rd_T49 a b).f2.f3) ((rd_T49 a b).f3) ((rd_T49 a b).f4) j).bind fun h => (if l.length + h.length < 140737488355328 then (shutterref08_Write.l0 k j (l ++ h) (wrap64 (b + 1)) c d e g a) else (none))) else (none)) else (none)) else (some (([] : List Int), 1, b))) else (if n = 0 then (if 0 ≤ b then (if b < (a.length : Int) then ((shutterref07_Put.f k ((rd_T49 a b).f0) ((rd_T49 a b).f1) ((rd_T49 a b).f2.f0) ((rd_T49 a b).f2.f1) ((rd_T49 a b).f2.f2) ((rd_T49 a b).f2.f3) ((rd_T49 a b).f3) ((rd_T49 a b).f4) j).bind fun i => (if l.length + i.length < 140737488355328 then (shutterref08_Write.l0 k j (l ++ i) (wrap64 (b + 1)) c d e g a) else (none))) else (none)) else (none)) else (some (([] : List Int), n, b)))
end
def shutterref08_Write.f (k : Nat) (a : Int) (b c d : Bool) (g : List (S49)) (a1 : Int) : Option (List Int × Int × Int) := (shutterref08_Known.f a).bind fun h => (if h = true then ((some (([(a) % 256] : List Int) : List Int)).bind fun e => ((shutterref08_Writes.f a).bind fun i => (if i = true then ((shutterref05_PutWcc.f k b c d).bind fun j => (if e.length < 140737488355328 then (shutterref08_Write.l0 k a1 (e ++ [j]) 0 a b c d g) else (none))) else (if (b || (c || (d))) = true then (some (([] : List Int), 1, (-1))) else (if (g.length : Int) > 0 then (some (([] : List Int), 1, (-1))) else (some (e, 0, (-1)))))))) else (some (([] : List Int), 5, (-1))))
theorem shutterref08_Write.mono_l : ∀ k, (∀ a b c d e f g i, LeO (shutterref08_Write.l0 k a b c d e f g i) (shutterref08_Write.l0 (k + 1) a b c d e f g i)) ∧ (∀ a b c d e f g i m n, LeO (shutterref08_Write.j1 k a b c d e f g i m n) (shutterref08_Write.j1 (k + 1) a b c d e f g i m n))
 | 0 => ⟨fun _ _ _ _ _ _ _ _ r h => by simp [shutterref08_Write.l0] at h, fun _ _ _ _ _ _ _ _ _ _ r h => by simp [shutterref08_Write.j1] at h⟩
 | k + 1 => by
  obtain ⟨j, l⟩ := shutterref08_Write.mono_l k
  refine ⟨?_, ?_⟩
  ·intro a b c d e f g i
   unfold shutterref08_Write.l0
   repeat' first
   | (with_reducible exact j _ _ _ _ _ _ _ _)
   | (with_reducible exact l _ _ _ _ _ _ _ _ _ _)
   | (with_reducible exact shutterref05_PutWcc.mono _ _ _ _)
   | (with_reducible exact shutterref07_Put.mono _ _ _ _ _ _ _ _ _ _)
   | (with_reducible exact shutterref07_Wrong.mono _ _ _ _ _ _ _ _ _ _)
   | (with_reducible exact LeO.refl _)
   | (with_reducible exact LeO.none _)
   | (with_reducible refine LeO.ite ?_ ?_)
   | (with_reducible refine LeO.bind ?_ (fun _ => ?_))
   | exact j _ _ _ _ _ _ _ _
   | exact l _ _ _ _ _ _ _ _ _ _
   | exact shutterref05_PutWcc.mono _ _ _ _
   | exact shutterref07_Put.mono _ _ _ _ _ _ _ _ _ _
   | exact shutterref07_Wrong.mono _ _ _ _ _ _ _ _ _ _
   | exact LeO.none _
   | refine LeO.ite ?_ ?_
   | refine LeO.bind ?_ (fun _ => ?_)
  ·intro a b c d e f g i m n
   unfold shutterref08_Write.j1
   repeat' first
   | (with_reducible exact j _ _ _ _ _ _ _ _)
   | (with_reducible exact l _ _ _ _ _ _ _ _ _ _)
   | (with_reducible exact shutterref05_PutWcc.mono _ _ _ _)
   | (with_reducible exact shutterref07_Put.mono _ _ _ _ _ _ _ _ _ _)
   | (with_reducible exact shutterref07_Wrong.mono _ _ _ _ _ _ _ _ _ _)
   | (with_reducible exact LeO.refl _)
   | (with_reducible exact LeO.none _)
   | (with_reducible refine LeO.ite ?_ ?_)
   | (with_reducible refine LeO.bind ?_ (fun _ => ?_))
   | exact j _ _ _ _ _ _ _ _
   | exact l _ _ _ _ _ _ _ _ _ _
   | exact shutterref05_PutWcc.mono _ _ _ _
   | exact shutterref07_Put.mono _ _ _ _ _ _ _ _ _ _
   | exact shutterref07_Wrong.mono _ _ _ _ _ _ _ _ _ _
   | exact LeO.none _
   | refine LeO.ite ?_ ?_
   | refine LeO.bind ?_ (fun _ => ?_)
theorem shutterref08_Write.mono : ∀ a0 a1 c d a4 e k, LeO (shutterref08_Write.f k a0 a1 c d a4 e) (shutterref08_Write.f (k + 1) a0 a1 c d a4 e) := by
 intro a0 a1 c d a4 e k
 obtain ⟨a, b⟩ := shutterref08_Write.mono_l k
 unfold shutterref08_Write.f
 repeat' first
   | (with_reducible exact a _ _ _ _ _ _ _ _)
   | (with_reducible exact b _ _ _ _ _ _ _ _ _ _)
   | (with_reducible exact shutterref05_PutWcc.mono _ _ _ _)
   | (with_reducible exact shutterref07_Put.mono _ _ _ _ _ _ _ _ _ _)
   | (with_reducible exact shutterref07_Wrong.mono _ _ _ _ _ _ _ _ _ _)
   | (with_reducible exact LeO.refl _)
   | (with_reducible exact LeO.none _)
   | (with_reducible refine LeO.ite ?_ ?_)
   | (with_reducible refine LeO.bind ?_ (fun _ => ?_))
   | exact a _ _ _ _ _ _ _ _
   | exact b _ _ _ _ _ _ _ _ _ _
   | exact shutterref05_PutWcc.mono _ _ _ _
   | exact shutterref07_Put.mono _ _ _ _ _ _ _ _ _ _
   | exact shutterref07_Wrong.mono _ _ _ _ _ _ _ _ _ _
   | exact LeO.none _
   | refine LeO.ite ?_ ?_
   | refine LeO.bind ?_ (fun _ => ?_)
theorem shutterref08_Write.calls (k : Nat) (i : Int) (j l m : Bool) (ac : Option Addr) (K : Nat) (a : List (S49)) (a1 : Int) (Q : List Int) (S T : Int) (w : World) (ci : Kd.C k49 w ac a.length a) (ch : a.length ≤ K) (h : shutterref08_Write.f k i j l m a a1 = some (Q, S, T)) :
  Calls Tryz.prog 8 #[.agg #[.int .i64 i, .bool j, .bool l, .bool m, .slice ac a.length K], .int .i64 a1] w fun e w' => ∃ dK : Value, e = .returned (.tuple #[dK, .int .i64 S, .int .i64 T]) ∧ Kd.R (Kd.int .u8) 5 w' w.heap.size (fun _ => True) dK Q ∧ Below w.heap.size w w' := by
 have ge := Tryz.underlying29
 have gd := Tryz.underlying26
 have gf := Tryz.underlying49
 have ah := Z ci
 have fT := Z ch
 clear ci ch
 have HB := Z (Below.refl w.heap.size w)
 unfold shutterref08_Write.f at h
 have H := h
 clear h
 replace H := bn_ H
 obtain ⟨bU, A3, H⟩ := H
 cases bU
 ·rw [iF_] at H
  obtain ⟨rfl, rfl, rfl⟩ := ij3_ H
  go_enter Tryz.func8, Tryz.ntmps8
  go_wp2_with (first | ((with_reducible refine gD_ 2 rfl ?_); (try (refine gate_guard (by rfl) ?_; dsimp only)); refine bx_ 2 29 #[.int .i64 i, .bool j, .bool l, .bool m, .slice ac a.length K] ?_; intro u hg gE hbox hb; have d := Z hbox; have a8 := ln' w hg; replace HB := bs_ hb; clear hb hbox hg; have eO := cells5 d.out) | ((with_reducible refine gF_ 21 rfl ?_); refine gd_ (some 12) Tryz.func21 (shutterref08_Known.calls i false _ A3.out) ?_; rintro e w' ⟨rfl, ⟨nd, rfl⟩⟩; refine ⟨_, rfl, ?_⟩))
  go_ret3
  exact ⟨_, er_, by first | exact Kd.R_nil _ _ _ _ _ | exact Kd.N_nil _ _ _ _ _ | exact Kd.V_nil _ _ _ _ _ | exact Kd.Q_nil _ _ _ _ _ | exact Kd.S_nil _ _ _ _ _, bl_⟩
 rw [if_pos rfl] at H
 obtain ⟨s, aD⟩ : ∃ y_ : List Int, y_ = (([(i) % 256] : List Int)) := ⟨_, rfl⟩
 rw [← aD] at H
 try replace H := sb_ H
 have U := Z aD
 clear aD
 replace H := bn_ H
 obtain ⟨W, A5, H⟩ := H
 cases W
 ·rw [iF_] at H
  by_cases bj : (j || (l || (m))) = true
  ·rw [if_pos bj] at H
   have dE : (j || (l || (m))) = true := bj
   clear bj
   obtain ⟨rfl, rfl, rfl⟩ := ij3_ H
   go_enter Tryz.func8, Tryz.ntmps8
   go_wp2_with (first | ((with_reducible refine gD_ 2 rfl ?_); (try (refine gate_guard (by rfl) ?_; dsimp only)); refine bx_ 2 29 #[.int .i64 i, .bool j, .bool l, .bool m, .slice ac a.length K] ?_; intro u hg gy hbox hb; have d := Z hbox; have a8 := ln' w hg; replace HB := bs_ hb; clear hb hbox hg; have ek := cells5 d.out) | ((with_reducible refine gF_ 21 rfl ?_); refine gd_ (some 12) Tryz.func21 (shutterref08_Known.calls i true _ A3.out) ?_; rintro e w' ⟨rfl, ⟨nd, rfl⟩⟩; refine ⟨_, rfl, ?_⟩) | ((with_reducible refine gD_ 17 rfl ?_); (try (refine gate_guard (by rfl) ?_; dsimp only)); refine Kd.R_lit (Kd.int .u8) _ 5 ?hg (N := 17) ?hd (xs := ([(i) % 256] : List Int)) (inner := [.int .u8 ((i) % 256)]) (ok := fun _ => True) (okp := fun _ => True) ?hr ?hp (fun _ hk => hk) trivial (Below.refl _ _) (Nat.le_refl _) (by simp) ?_; (case hd => rfl); (case hg => rfl); (case hr => first | (go_simp; done) | (go_simp; rfl)); (case hp => exact (Reps.one (show Kd.M (Kd.int .u8) _ _ _ ((i) % 256) [.int .u8 ((i) % 256)] from rfl) (Reps.none _ _))); intro bV gz bf hb hg_ hnew_; clear hg_ hnew_; (first | rw [← U.out] at bf | (simp only [Int.reduceToNat] at bf; rw [← U.out] at bf)); have J := Z (Kd.R_lower bf (below_size bl_)); replace d := kb' d hb; replace HB := bs_ hb; clear hb bf; have ep := cells5 d.out) | ((with_reducible refine gF_ 22 rfl ?_); refine gd_ (some 20) Tryz.func22 (shutterref08_Writes.calls i false _ A5.out) ?_; rintro e w' ⟨rfl, ⟨nd, rfl⟩⟩; refine ⟨_, rfl, ?_⟩))
   go_ret3
   exact ⟨_, er_, by first | exact Kd.R_nil _ _ _ _ _ | exact Kd.N_nil _ _ _ _ _ | exact Kd.V_nil _ _ _ _ _ | exact Kd.Q_nil _ _ _ _ _ | exact Kd.S_nil _ _ _ _ _, bl_⟩
  rw [if_neg bj] at H
  have dE : (j || (l || (m))) = false := by simpa using bj
  clear bj
  by_cases bk : (a.length : Int) > 0
  ·rw [if_pos bk] at H
   have dF : decide (0 < (a.length : Int)) = true := decide_eq_true bk
   have dG : decide (0 < a.length) = true := decide_eq_true (by omega)
   clear bk
   obtain ⟨rfl, rfl, rfl⟩ := ij3_ H
   go_enter Tryz.func8, Tryz.ntmps8
   go_wp2_with (first | ((with_reducible refine gD_ 2 rfl ?_); (try (refine gate_guard (by rfl) ?_; dsimp only)); refine bx_ 2 29 #[.int .i64 i, .bool j, .bool l, .bool m, .slice ac a.length K] ?_; intro u hg gA hbox hb; have d := Z hbox; have a8 := ln' w hg; replace HB := bs_ hb; clear hb hbox hg; have eu := cells5 d.out) | ((with_reducible refine gF_ 21 rfl ?_); refine gd_ (some 12) Tryz.func21 (shutterref08_Known.calls i true _ A3.out) ?_; rintro e w' ⟨rfl, ⟨nd, rfl⟩⟩; refine ⟨_, rfl, ?_⟩) | ((with_reducible refine gD_ 17 rfl ?_); (try (refine gate_guard (by rfl) ?_; dsimp only)); refine Kd.R_lit (Kd.int .u8) _ 5 ?hg (N := 17) ?hd (xs := ([(i) % 256] : List Int)) (inner := [.int .u8 ((i) % 256)]) (ok := fun _ => True) (okp := fun _ => True) ?hr ?hp (fun _ hk => hk) trivial (Below.refl _ _) (Nat.le_refl _) (by simp) ?_; (case hd => rfl); (case hg => rfl); (case hr => first | (go_simp; done) | (go_simp; rfl)); (case hp => exact (Reps.one (show Kd.M (Kd.int .u8) _ _ _ ((i) % 256) [.int .u8 ((i) % 256)] from rfl) (Reps.none _ _))); intro bV gB bg hb hg_ hnew_; clear hg_ hnew_; (first | rw [← U.out] at bg | (simp only [Int.reduceToNat] at bg; rw [← U.out] at bg)); have J := Z (Kd.R_lower bg (below_size bl_)); replace d := kb' d hb; replace HB := bs_ hb; clear hb bg; have ez := cells5 d.out) | ((with_reducible refine gF_ 22 rfl ?_); refine gd_ (some 20) Tryz.func22 (shutterref08_Writes.calls i false _ A5.out) ?_; rintro e w' ⟨rfl, ⟨nd, rfl⟩⟩; refine ⟨_, rfl, ?_⟩))
   go_ret3
   exact ⟨_, er_, by first | exact Kd.R_nil _ _ _ _ _ | exact Kd.N_nil _ _ _ _ _ | exact Kd.V_nil _ _ _ _ _ | exact Kd.Q_nil _ _ _ _ _ | exact Kd.S_nil _ _ _ _ _, bl_⟩
  rw [if_neg bk] at H
  have dF : decide (0 < (a.length : Int)) = false := decide_eq_false bk
  have dG : decide (0 < a.length) = false := decide_eq_false (by omega)
  clear bk
  obtain ⟨rfl, rfl, rfl⟩ := ij3_ H
  go_enter Tryz.func8, Tryz.ntmps8
  go_wp2_with (first | ((with_reducible refine gD_ 2 rfl ?_); (try (refine gate_guard (by rfl) ?_; dsimp only)); refine bx_ 2 29 #[.int .i64 i, .bool j, .bool l, .bool m, .slice ac a.length K] ?_; intro u hg gC hbox hb; have d := Z hbox; have a8 := ln' w hg; replace HB := bs_ hb; clear hb hbox hg; have eE := cells5 d.out) | ((with_reducible refine gF_ 21 rfl ?_); refine gd_ (some 12) Tryz.func21 (shutterref08_Known.calls i true _ A3.out) ?_; rintro e w' ⟨rfl, ⟨nd, rfl⟩⟩; refine ⟨_, rfl, ?_⟩) | ((with_reducible refine gD_ 17 rfl ?_); (try (refine gate_guard (by rfl) ?_; dsimp only)); refine Kd.R_lit (Kd.int .u8) _ 5 ?hg (N := 17) ?hd (xs := ([(i) % 256] : List Int)) (inner := [.int .u8 ((i) % 256)]) (ok := fun _ => True) (okp := fun _ => True) ?hr ?hp (fun _ hk => hk) trivial (Below.refl _ _) (Nat.le_refl _) (by simp) ?_; (case hd => rfl); (case hg => rfl); (case hr => first | (go_simp; done) | (go_simp; rfl)); (case hp => exact (Reps.one (show Kd.M (Kd.int .u8) _ _ _ ((i) % 256) [.int .u8 ((i) % 256)] from rfl) (Reps.none _ _))); intro bV gD bh hb hg_ hnew_; clear hg_ hnew_; (first | rw [← U.out] at bh | (simp only [Int.reduceToNat] at bh; rw [← U.out] at bh)); have J := Z (Kd.R_lower bh (below_size bl_)); replace d := kb' d hb; replace HB := bs_ hb; clear hb bh; have eJ := cells5 d.out) | ((with_reducible refine gF_ 22 rfl ?_); refine gd_ (some 20) Tryz.func22 (shutterref08_Writes.calls i false _ A5.out) ?_; rintro e w' ⟨rfl, ⟨nd, rfl⟩⟩; refine ⟨_, rfl, ?_⟩))
  go_ret3
  exact ⟨_, er_, by (with_reducible repeat apply pR); exact J.out, bl_⟩
 rw [if_pos rfl] at H
 replace H := bn_ H
 obtain ⟨y, A7, H⟩ := H
 obtain ⟨c8, H⟩ := gt_ H
 have dN := Z c8
 clear c8
 obtain ⟨df, aE⟩ : ∃ y_ : List Int, y_ = (s ++ [y]) := ⟨_, rfl⟩
 rw [← aE] at H
 try replace H := sb_ H
 have dp := Z aE
 clear aE
 have H' := Z H
 clear H
 go_enter Tryz.func8, Tryz.ntmps8
 go_wp2_with (first | ((with_reducible refine gD_ 2 rfl ?_); (try (refine gate_guard (by rfl) ?_; dsimp only)); refine bx_ 2 29 #[.int .i64 i, .bool j, .bool l, .bool m, .slice ac a.length K] ?_; intro u hg w9 hbox hb; have d := Z hbox; have a8 := ln' w hg; replace HB := bs_ hb; clear hb hbox hg; have bl := cells5 d.out) | ((with_reducible refine gF_ 21 rfl ?_); refine gd_ (some 12) Tryz.func21 (shutterref08_Known.calls i true _ A3.out) ?_; rintro e w' ⟨rfl, ⟨nd, rfl⟩⟩; refine ⟨_, rfl, ?_⟩) | ((with_reducible refine gD_ 17 rfl ?_); (try (refine gate_guard (by rfl) ?_; dsimp only)); refine Kd.R_lit (Kd.int .u8) _ 5 ?hg (N := 17) ?hd (xs := ([(i) % 256] : List Int)) (inner := [.int .u8 ((i) % 256)]) (ok := fun _ => True) (okp := fun _ => True) ?hr ?hp (fun _ hk => hk) trivial (Below.refl _ _) (Nat.le_refl _) (by simp) ?_; (case hd => rfl); (case hg => rfl); (case hr => first | (go_simp; done) | (go_simp; rfl)); (case hp => exact (Reps.one (show Kd.M (Kd.int .u8) _ _ _ ((i) % 256) [.int .u8 ((i) % 256)] from rfl) (Reps.none _ _))); intro bV gq be hb hg_ hnew_; clear hg_ hnew_; (first | rw [← U.out] at be | (simp only [Int.reduceToNat] at be; rw [← U.out] at be)); have J := Z (Kd.R_lower be (below_size bl_)); replace d := kb' d hb; replace HB := bs_ hb; clear hb be; have bq := cells5 d.out) | ((with_reducible refine gF_ 22 rfl ?_); refine gd_ (some 20) Tryz.func22 (shutterref08_Writes.calls i true _ A5.out) ?_; rintro e w' ⟨rfl, ⟨nd, rfl⟩⟩; refine ⟨_, rfl, ?_⟩) | ((with_reducible refine gF_ 23 rfl ?_); refine gd_ (some 36) Tryz.func23 (shutterref05_PutWcc.calls k j l m y _ A7.out) ?_; rintro e gr ⟨rfl, hb⟩; refine ⟨_, rfl, ?_⟩; replace J := rb' J hb; replace d := kb' d hb; replace HB := bs_ hb; (try clear hb); (try clear hk)) | ((with_reducible refine gate_builtin (b := .append) (xs := #[.tmp 33, .tmp 37]) rfl ?_); (try (refine gate_guard (by rfl) ?_; dsimp only)); at_builtin; refine Kd.R_append (Kd.int .u8) (w0 := w) w.heap.size rfl (.tmp 33) (.tmp 37) 37 5 (.int .u8 0) 1 rfl Tryz.underlying37 info5 rfl (by decide) (by omega) bV s y [.int .u8 y] (fun _ => True) (fun _ => False) rfl rfl ?aP (fun _ hk => hk.elim) ?aF ?aO ?aB ?aS ?aL ?_; (case aP => exact rfl); (case aB => exact bl_); (case aF => exact (fun _ _ => trivial)); (case aO => exact (by (with_reducible repeat apply pR); exact J.out)); (case aS => exact (below_size bl_)); (case aL => have := dN.out; omega); intro gg gs ho hb hg hat; rw [← dp.out] at ho; replace d := gw_ ⟨vK d.out⟩ hg (Kd.R_ne J.out d.out (by decide)); replace HB := Z (hb); have dj := Z (ho); clear J; clear ho hb hg hat))
 go_loopg [7, 8] k (fun kq v7 v8 w' => ∃ (r : List Int) (c : Int), v8 = .int .i64 c ∧ Aside0 (shutterref08_Write.l0 kq a1 r c i j l m a = some (Q, S, T)) ∧ Aside0 (kq ≤ k) ∧ Aside0 (Kd.R (Kd.int .u8) 5 w' w.heap.size (fun _ => True) v7 r) ∧ Aside0 (w'.heap[u]? = some (.cells #[.int .i64 i, .bool j, .bool l, .bool m, (.slice ac a.length K)] 29 (0, 0))) ∧ Aside0 (Below w.heap.size w w'))
 case atStart => exact ⟨(df), (0), (dn_), H', ⟨Nat.le_refl _⟩, ⟨vR_ dj.out⟩, ⟨vK d.out⟩, ⟨bl_⟩⟩
 case round =>
  clear H'
  try clear c4
  try clear c6
  try clear c8
  try clear bl
  try clear bq
  obtain ⟨r, c, rfl, HA, a5, GA, d, HB⟩ := hrel
  cases gk with
  | zero => exact absurd HA.out (by simp [shutterref08_Write.l0])
  | succ k1 =>
   have H := HA.out
   clear HA
   simp only [shutterref08_Write.l0] at H
   by_cases a9 : c < (a.length : Int)
   rotate_left
   ·rw [if_neg a9] at H
    have b5 := decide_eq_false a9
    clear a9
    by_cases bi : (r.length : Int) > 8192
    ·rw [if_pos bi] at H
     have dC : decide (8192 < (r.length : Int)) = true := decide_eq_true bi
     have dD : decide (8192 < r.length) = true := decide_eq_true (by omega)
     clear bi
     obtain ⟨rfl, rfl, rfl⟩ := ij3_ H
     have ea := cells5 d.out
     obtain ⟨fZ, gb, dW⟩ := Kd.R_slice GA.out
     subst dW
     go_wp2
     go_ret3
     exact ⟨_, er_, by first | exact Kd.R_nil _ _ _ _ _ | exact Kd.N_nil _ _ _ _ _ | exact Kd.V_nil _ _ _ _ _ | exact Kd.Q_nil _ _ _ _ _ | exact Kd.S_nil _ _ _ _ _, bl_⟩
    rw [if_neg bi] at H
    have dC : decide (8192 < (r.length : Int)) = false := decide_eq_false bi
    have dD : decide (8192 < r.length) = false := decide_eq_false (by omega)
    clear bi
    obtain ⟨rfl, rfl, rfl⟩ := ij3_ H
    have ef := cells5 d.out
    obtain ⟨ga, gc, dX⟩ := Kd.R_slice GA.out
    subst dX
    go_wp2
    go_ret3
    exact ⟨_, er_, by (with_reducible repeat apply pR); exact GA.out, bl_⟩
   rw [if_pos a9] at H
   have b5 := decide_eq_true a9
   clear a9
   obtain ⟨bW, H⟩ := gt_ H
   have dv := decide_eq_true bW
   clear bW
   replace H := bn_ H
   obtain ⟨v, fM, H⟩ := H
   have bZ := Z H
   clear H
   have cr := cells5 d.out
   have bQ : 0 ≤ (c : Int) := od_
   have bS : c < (a.length : Int) := od_
   obtain ⟨V, c0, da, dQ, aj, ak, al, am, an, ao, ap, aq, bK, bG⟩ := at_T49 ah.out c bQ bS
   cases dQ
   replace aj := hc_ HB aj
   replace ak := hc_ HB ak
   replace al := hc_ HB al
   replace am := hc_ HB am
   replace an := hc_ HB an
   replace ao := hc_ HB ao
   replace ap := hc_ HB ap
   replace aq := hc_ HB aq
   have cn := Z bG
   have cj := Z bK
   clear bG bK
   replace bQ := eq_true bQ
   replace bS := eq_true bS
   go_upto_region 13 with (first | ((with_reducible refine gF_ 24 rfl ?_); refine gd_ (some 52) Tryz.func24 (shutterref07_Wrong.calls k1 ((rd_T49 a c).f0) _ _ ((rd_T49 a c).f1) ((rd_T49 a c).f2.f0) ((rd_T49 a c).f2.f1) ((rd_T49 a c).f2.f2) ((rd_T49 a c).f2.f3) ((rd_T49 a c).f3) ((rd_T49 a c).f4) a1 v _ (cB_ cn HB) cj.out fM.out) ?_; rintro e gt ⟨rfl, hb⟩; refine ⟨_, rfl, ?_⟩; replace GA := rb' GA hb; replace d := kb' d hb; replace HB := bs_ hb; (try clear hb); (try clear hk)))
   (try simp only [Act.put, sA, sB, sC])
   go_cut [77] (fun fS wc => ∃ (kq : Nat) (aI : Bool), fS = .bool aI ∧ Aside0 (shutterref08_Write.j1 kq a1 r c v aI i j l m a = some (Q, S, T)) ∧ Aside0 (kq ≤ k1) ∧ Aside0 (Kd.R (Kd.int .u8) 5 wc w.heap.size (fun _ => True) u7 r) ∧ Aside0 (wc.heap[u]? = some (.cells #[.int .i64 i, .bool j, .bool l, .bool m, (.slice (some V) a.length K)] 29 (0, 0))) ∧ Aside0 (Below w.heap.size w wc))
   case first =>
    have H := bZ.out
    clear bZ
    by_cases a6 : v = 0
    rotate_left
    ·rw [if_neg a6] at H
     obtain ⟨ai, b6⟩ := eF_ a6
     (first | rw [ai] | (simp only [i64_w, i32_w]; rw [ai]) | skip)
     have H' := Z H
     clear H
     go_wp2
     go_meet
     case rel => exact ⟨_, (false), (dn_), H', ⟨by have := a5.out; first | omega | exact Nat.le_refl _⟩, ⟨vR_ GA.out⟩, ⟨vK d.out⟩, ⟨bl_⟩⟩
    rw [if_pos a6] at H
    obtain ⟨ai, b6⟩ := eT_ a6
    clear a6
    (first | rw [ai] | (simp only [i64_w, i32_w]; rw [ai]) | skip)
    by_cases ba : c > 0
    rotate_left
    ·rw [if_neg ba] at H
     have b7 : decide (0 < c) = false := decide_eq_false ba
     clear ba
     have H' := Z H
     clear H
     go_wp2
     go_meet
     case rel => exact ⟨_, (false), (dn_), H', ⟨by have := a5.out; first | omega | exact Nat.le_refl _⟩, ⟨vR_ GA.out⟩, ⟨vK d.out⟩, ⟨bl_⟩⟩
    rw [if_pos ba] at H
    have b7 : decide (0 < c) = true := decide_eq_true ba
    clear ba
    by_cases c24 : ((rd_T49 a c).f0) = 1
    rotate_left
    ·rw [if_neg c24] at H
     obtain ⟨b8, b9⟩ := eF_ c24
     have H' := Z H
     clear H
     have cC := cells5 d.out
     have ad : 0 ≤ (c : Int) := od_
     have ae : c < (a.length : Int) := od_
     obtain ⟨bP, c3, db, b0, z, A, B, D, E, F, G, I, ab, aa⟩ := at_T49 ah.out c ad ae
     obtain rfl : V = bP := (by injection b0)
     replace z := hc_ HB z
     replace A := hc_ HB A
     replace B := hc_ HB B
     replace D := hc_ HB D
     replace E := hc_ HB E
     replace F := hc_ HB F
     replace G := hc_ HB G
     replace I := hc_ HB I
     have co := Z aa
     have ck := Z ab
     clear aa ab
     replace ad := eq_true ad
     replace ae := eq_true ae
     go_wp2
     go_meet
     case rel => exact ⟨_, (false), (dn_), H', ⟨by have := a5.out; first | omega | exact Nat.le_refl _⟩, ⟨vR_ GA.out⟩, ⟨vK d.out⟩, ⟨bl_⟩⟩
    rw [if_pos c24] at H
    obtain ⟨b8, b9⟩ := eT_ c24
    clear c24
    obtain ⟨L, aC⟩ : ∃ j_ : Int, (wrap64 (c - 1)) = j_ := ⟨_, rfl⟩
    (first | rw [aC] at H | simp only [aC] at H)
    have fR : (IntKind.i64.wrap (c - 1)) = L := (i64_w _).trans aC
    obtain ⟨bX, H⟩ := gt_ H
    have dw := decide_eq_true bX
    clear bX
    obtain ⟨bY, H⟩ := gt_ H
    have dx := decide_eq_true bY
    clear bY
    have H' := Z H
    clear H
    have cx := cells5 d.out
    have ad : 0 ≤ (c : Int) := od_
    have ae : c < (a.length : Int) := od_
    obtain ⟨bP, c3, db, b0, z, A, B, D, E, F, G, I, ab, aa⟩ := at_T49 ah.out c ad ae
    obtain rfl : V = bP := (by injection b0)
    replace z := hc_ HB z
    replace A := hc_ HB A
    replace B := hc_ HB B
    replace D := hc_ HB D
    replace E := hc_ HB E
    replace F := hc_ HB F
    replace G := hc_ HB G
    replace I := hc_ HB I
    have co := Z aa
    have ck := Z ab
    clear aa ab
    replace ad := eq_true ad
    replace ae := eq_true ae
    have bR : 0 ≤ ((L) : Int) := od_
    have bT : (L) < (a.length : Int) := od_
    obtain ⟨ds, fP, fQ, dR, ar, au, av, aw, ax, ay, az, aA, bL, bH⟩ := at_T49 ah.out (L) bR bT
    obtain rfl : V = ds := (by injection dR)
    replace ar := hc_ HB ar
    replace au := hc_ HB au
    replace av := hc_ HB av
    replace aw := hc_ HB aw
    replace ax := hc_ HB ax
    replace ay := hc_ HB ay
    replace az := hc_ HB az
    replace aA := hc_ HB aA
    have dZ := Z bH
    have dY := Z bL
    clear bH bL
    replace bR := eq_true bR
    replace bT := eq_true bT
    go_wp2
    go_meet
    case rel => exact ⟨_, ((((rd_T49 a (L)).f0) == 1)), (by first | rfl | (simp; done) | (simp only [← aC, i64_w]; rfl) | (simp only [← aC] <;> (first | rfl | simp)) | (simp [*]; done)), H', ⟨by have := a5.out; first | omega | exact Nat.le_refl _⟩, ⟨vR_ GA.out⟩, ⟨vK d.out⟩, ⟨bl_⟩⟩
   clear bZ
   try clear c4
   try clear c6
   try clear c8
   try clear a9
   try clear b5
   try clear bW
   try clear dv
   try clear bl
   try clear bq
   try clear cr
   try clear aj
   try clear ak
   try clear al
   try clear am
   try clear an
   try clear ao
   try clear ap
   try clear aq
   try clear bQ
   try clear bS
   obtain ⟨kq, aI, rfl, HA, bO, GA, d, HB⟩ := hcut
   cases kq with
   | zero => exact absurd HA.out (by simp [shutterref08_Write.j1])
   | succ O =>
    have H := HA.out
    clear HA
    simp only [shutterref08_Write.j1] at H
    by_cases ca : aI = true
    ·subst ca
     rw [if_pos rfl] at H
     by_cases bb : 1 = 0
     ·exact absurd bb (by decide)
     rw [if_neg bb] at H
     obtain ⟨dy, dz⟩ := eF_ bb
     obtain ⟨rfl, rfl, rfl⟩ := ij3_ H
     go_wp2
     go_ret3
     exact ⟨_, er_, by first | exact Kd.R_nil _ _ _ _ _ | exact Kd.N_nil _ _ _ _ _ | exact Kd.V_nil _ _ _ _ _ | exact Kd.Q_nil _ _ _ _ _ | exact Kd.S_nil _ _ _ _ _, bl_⟩
    replace ca := Bool.eq_false_iff.mpr ca
    subst ca
    rw [iF_] at H
    by_cases bc : v = 0
    rotate_left
    ·rw [if_neg bc] at H
     obtain ⟨dA, dB⟩ := eF_ bc
     obtain ⟨rfl, rfl, rfl⟩ := ij3_ H
     go_wp2
     go_ret3
     exact ⟨_, er_, by first | exact Kd.R_nil _ _ _ _ _ | exact Kd.N_nil _ _ _ _ _ | exact Kd.V_nil _ _ _ _ _ | exact Kd.Q_nil _ _ _ _ _ | exact Kd.S_nil _ _ _ _ _, bl_⟩
    rw [if_pos bc] at H
    obtain ⟨dA, dB⟩ := eT_ bc
    clear bc
    obtain ⟨ce, H⟩ := gt_ H
    have fW := decide_eq_true ce
    clear ce
    obtain ⟨cf, H⟩ := gt_ H
    have fX := decide_eq_true cf
    clear cf
    replace H := bn_ H
    obtain ⟨Y, fO, H⟩ := H
    obtain ⟨cg, H⟩ := gt_ H
    have dn := Z cg
    clear cg
    obtain ⟨dh, aH⟩ : ∃ y_ : List Int, y_ = (r ++ Y) := ⟨_, rfl⟩
    rw [← aH] at H
    try replace H := sb_ H
    have dr := Z aH
    clear aH
    have H' := Z H
    clear H
    have d5 := cells5 d.out
    have b2 : 0 ≤ (c : Int) := od_
    have b4 : c < (a.length : Int) := od_
    obtain ⟨du, c9, dd, dT, aW, aX, aY, aZ, a0, a2, a3, a4, bN, bJ⟩ := at_T49 ah.out c b2 b4
    obtain rfl : V = du := (by injection dT)
    replace aW := hc_ HB aW
    replace aX := hc_ HB aX
    replace aY := hc_ HB aY
    replace aZ := hc_ HB aZ
    replace a0 := hc_ HB a0
    replace a2 := hc_ HB a2
    replace a3 := hc_ HB a3
    replace a4 := hc_ HB a4
    have cq := Z bJ
    have cm := Z bN
    clear bJ bN
    replace b2 := eq_true b2
    replace b4 := eq_true b4
    go_wp2_with (first | ((with_reducible refine gF_ 25 rfl ?_); refine gd_ (some 89) Tryz.func25 (shutterref07_Put.calls O ((rd_T49 a c).f0) _ _ ((rd_T49 a c).f1) ((rd_T49 a c).f2.f0) ((rd_T49 a c).f2.f1) ((rd_T49 a c).f2.f2) ((rd_T49 a c).f2.f3) ((rd_T49 a c).f3) ((rd_T49 a c).f4) a1 Y _ (cB_ cq HB) cm.out fO.out) ?_; rintro e gw ⟨gj, rfl, bd, hb⟩; refine ⟨_, rfl, ?_⟩; have ag := Z (Kd.R_lower (Kd.R_new' bd (Kd.R_lt (by (with_reducible repeat apply pR); exact GA.out))) (below_size bl_)); replace GA := Z (Kd.R_elder' (by (with_reducible repeat apply pR); exact GA.out) (Kd.R_base bd) hb); replace d := kb' d hb; replace HB := bs_ hb; (try clear hb); (try clear hk); (try clear bd); obtain ⟨dM, dP, dV⟩ := Kd.R_slice ag.out; subst dV) | ((with_reducible refine gate_builtin (b := .append) (xs := #[.tmp 82, .tmp 89]) rfl ?_); (try (refine gate_guard (by rfl) ?_; dsimp only)); at_builtin; refine Kd.R_append_rows (Kd.int .u8) (w0 := w) w.heap.size rfl (.tmp 82) (.tmp 89) 37 5 (.int .u8 0) 1 rfl Tryz.underlying37 info5 rfl (by decide) (by omega) u7 r Y _ _ _ (fun k_ => some k_ ≠ (.slice dM Y.length dP : Value).ownBlock) (fun _ => False) rfl rfl ?aO ?aR (fun _ _ h => h) (fun _ h => h.elim) ?aF ?aB ?aS ?aL ?_; (case aR => repeat (first | exact (Kd.R_reads' ag.out).2.2 | (with_reducible apply pC))); (case aB => exact bl_); (case aF => exact (fun k_ hk => Kd.fresh' (Kd.R_lt (by (with_reducible repeat apply pR); exact ag.out)) k_ hk)); (case aO => exact (by (with_reducible repeat apply pR); exact Kd.R_mono GA.out (fun _ hk => hk.2))); (case aS => exact (below_size bl_)); (case aL => have := dn.out; omega); intro gl gx ho hb hg hat; rw [← dr.out] at ho; replace d := gw_ ⟨vK d.out⟩ hg (Kd.R_ne GA.out d.out (by decide)); replace ag := Z (Kd.R_after (ok := (fun _ => True)) (by (with_reducible repeat apply pR); exact ag.out) hg hat); replace HB := Z (hb); have dl := Z (ho); clear GA; clear ho hb hg hat))
    go_roundg O
    case measure => have := a5.out; have := bO.out; omega
    case rel => exact ⟨(dh), (wrap64 (c + 1)), (dn_), H', ⟨by have := a5.out; have := bO.out; omega⟩, ⟨by (with_reducible repeat apply pR); exact Kd.R_mono dl.out im_⟩, ⟨vK d.out⟩, ⟨bl_⟩⟩

/-! ### api_Where: function 10 -/
section
/-- api.Where: a spot's place, or -1. -/
def api_Where.f (a : Option Er) (b : List S177) : Option Int :=
 match a with
 | none => some (-1)
 | some (.num _) => some (-1)
 | some .spot => match b with | [s] => some s.f0 | _ => none
theorem api_Where.calls (c : Option Er) (g : Option Addr) (d : Nat) (a : List S177) (r : Int) (w : World) (b : Kd.C k177 w g a.length a) (i : a.length ≤ d) (hG : LaidG w) (h : api_Where.f c a = some r) :
  Calls Tryz.prog 10 #[errW (.slice g a.length d) c] w fun e w' => e = .returned (.int .i64 r) ∧ Below w.heap.size w w' := by
 rcases c with _ | q
 ·obtain rfl := Option.some.inj h
  rw [errW_none]
  clear b h
  go_enter Tryz.func10, Tryz.ntmps10
  go_wp2
  go_ret
  exact ⟨rfl, below_alloc (Below.refl _ _) _⟩
 cases q with
 | num n =>
  obtain rfl := Option.some.inj h
  rw [errW_some, show (Er.num n).ty = 61 from rfl, show (Er.num n).pay _ = .int .i64 n from rfl]
  clear b h
  have HA := Z (EW.miss n ⟨w.heap.size, 0, none⟩ (.pointer none) (w.alloc (.cells #[.pointer none] 64)) (laidG_alloc hG _) (by simp) (by rw [frozen?_alloc_cells]; simp [World.frozen?]))
  go_enter Tryz.func10, Tryz.ntmps10
  go_wp2_with (go_at_call 26; refine HA.out.mono ?_; rintro e w' ⟨rfl, rfl⟩)
  go_ret
  exact ⟨rfl, below_alloc (below_alloc (below_alloc (below_alloc (Below.refl _ _) _) _) _) _⟩
 | spot =>
  match a, b, i, h with
  | [s], hr, hc, h =>
   obtain rfl := Option.some.inj h
   obtain ⟨ad, rfl, j, k⟩ := spot_at hr
   rw [errW_some, show Er.spot.ty = 64 from rfl, show Er.spot.pay (.slice (some ad) ([s] : List S177).length d) = .pointer (some ad) from rfl]
   have hlt := bk_ w ad j
   have HA := Z ((EW.hit ad ⟨w.heap.size, 0, none⟩ (.pointer none) (w.alloc (.cells #[.pointer none] 64)) (laidG_alloc hG _) (by simp) (by rw [frozen?_alloc_cells]; simp [World.frozen?])).mono (R' := fun ev w' => ev = .returned (.bool true) ∧ (w'.cell? ⟨w.heap.size, 0, none⟩ = some (.pointer (some ad)) ∧ w'.cell? ad = some (.int .i64 s.f0) ∧ Aside0 (Below w.heap.size w w'))) (fun ev w' h_ => ⟨h_.1, by
    rw [h_.2]
    refine ⟨(blk_cell (blk_put (cs' := #[.pointer (some ad)]) (pK (pK (pK (pK (blk_new w _))))) 0 _ rfl) 0).trans rfl, ?_, ⟨below_set (below_alloc (below_alloc (below_alloc (below_alloc (below_alloc (Below.refl _ _) _) _) _) _) _) (Nat.le_refl _)⟩⟩
    refine (cell_far (p := ⟨w.heap.size, 0, none⟩) (Nat.ne_of_lt hlt) _).trans ?_
    rw [World.cell?_alloc_lt _ _ ad (by simp; omega), World.cell?_alloc_lt _ _ ad (by simp; omega), World.cell?_alloc_lt _ _ ad (by simp; omega), World.cell?_alloc_lt _ _ ad (by simp; omega), World.cell?_alloc_lt _ _ ad hlt]; exact j⟩))
   have hu := Tryz.underlying67
   have l := Tryz.underlying64
   clear j k hr hlt h
   go_enter Tryz.func10, Tryz.ntmps10
   go_wp2_with (go_at_call 26; refine HA.out.mono ?_; rintro e w' ⟨rfl, hP, hA, HB⟩)
   go_ret
   exact ⟨rfl, HB.out⟩
end

end Go.Proofs.YtphboakgkmjpbaaGreatDoor.P
