/- pp.py and press2.py (wip/tools) wrote this text. -/
import Derived.Test.YtphboakgkmjpbaaGreatDoorJHostDoes1
import Derived.Test.YtphboakgkmjpbaaGreatDoorPx17
namespace Go.Proofs.YtphboakgkmjpbaaGreatDoor.P
open Go.RowKit Go.Proofs.YtphboakgkmjpbaaGreatDoorW.PrintWords Go.Proofs.YtphboakgkmjpbaaGreatDoorW.PrintLast Go.Proofs.YtphboakgkmjpbaaGreatDoorW.PrintMore
attribute [local go_sem] max2_int min2_int max_two min_two max_three min_three max_four min_four
attribute [local go_sem] Instr.field asAgg
set_option linter.unusedVariables false
set_option linter.unusedSimpArgs false
set_option maxHeartbeats 8000000
set_option maxRecDepth 100000

/-! ### shutterref05_Put: function 46 -/
def shutterref05_Put.j0 : Nat → Int → Bool → Bool → Int → Bool → Option (Int)
 | 0, _, _, _, _, _ => none
 | k + 1, c, i, b, j, a => if b = true then (if a = true then ((shutterref03_Put.f (wrap64 ((wrap64 (c + 16)) + 1))).bind fun d => (some d)) else ((shutterref03_Put.f (wrap64 (c + 16))).bind fun e => (some e))) else (if a = true then ((shutterref03_Put.f (wrap64 (c + 1))).bind fun g => (some g)) else ((shutterref03_Put.f c).bind fun h => (some h)))
def shutterref05_Put.f (k : Nat) (b c : Bool) (a : Int) (d : Bool) : Option (Int) := if b = true then (shutterref05_Put.j0 k (wrap64 ((wrap64 (4 * a)) + 32)) b c a d) else (shutterref05_Put.j0 k (wrap64 (4 * a)) b c a d)
theorem shutterref05_Put.mono_l : ∀ k, (∀ b c d e f, LeO (shutterref05_Put.j0 k b c d e f) (shutterref05_Put.j0 (k + 1) b c d e f))
 | 0 => fun _ _ _ _ _ r h => by simp [shutterref05_Put.j0] at h
 | k + 1 => by
  have a := shutterref05_Put.mono_l k
  ·intro b c d e f
   unfold shutterref05_Put.j0
   repeat' first
   | (with_reducible exact a _ _ _ _ _)
   | (with_reducible exact LeO.refl _)
   | (with_reducible exact LeO.none _)
   | (with_reducible refine LeO.ite ?_ ?_)
   | (with_reducible refine LeO.bind ?_ (fun _ => ?_))
   | exact a _ _ _ _ _
   | exact LeO.none _
   | refine LeO.ite ?_ ?_
   | refine LeO.bind ?_ (fun _ => ?_)
theorem shutterref05_Put.mono : ∀ a0 a1 b c k, LeO (shutterref05_Put.f k a0 a1 b c) (shutterref05_Put.f (k + 1) a0 a1 b c) := by
 intro a0 a1 b c k
 have a := shutterref05_Put.mono_l k
 unfold shutterref05_Put.f
 repeat' first
   | (with_reducible exact a _ _ _ _ _)
   | (with_reducible exact LeO.refl _)
   | (with_reducible exact LeO.none _)
   | (with_reducible refine LeO.ite ?_ ?_)
   | (with_reducible refine LeO.bind ?_ (fun _ => ?_))
   | exact a _ _ _ _ _
   | exact LeO.none _
   | refine LeO.ite ?_ ?_
   | refine LeO.bind ?_ (fun _ => ?_)
theorem shutterref05_Put.calls (k : Nat) (i g : Bool) (b : Int) (c : Bool) (r : Int) (w : World) (h : shutterref05_Put.f k i g b c = some r) :
  Calls Tryz.prog 46 #[.agg #[.bool i, .bool g, .int .i64 b, .bool c]] w fun e w' => e = .returned (.int .u8 r) ∧ Below w.heap.size w w' := by
 have aB := Tryz.underlying45
 have HB := Z (Below.refl w.heap.size w)
 unfold shutterref05_Put.f at h
 have H := h
 clear h
 have v := Z H
 clear H
 go_enter Tryz.func46, Tryz.ntmps46
 go_upto_if 8 with (first | ((with_reducible refine gD_ 1 rfl ?_); refine bx_ 1 45 #[.bool i, .bool g, .int .i64 b, .bool c] ?_; intro o hg w3 hbox hb; have d := Z hbox; have az := ln' w hg; replace HB := bs_ hb; clear hb hbox hg; have x := cells4 d.out))
 (try simp only [Act.put, sA, sB, sC])
 go_cut [3] (fun v3 wc => ∃ (kq : Nat) (a : Int), v3 = .int .i64 a ∧ Aside0 (shutterref05_Put.j0 kq a i g b c = some r) ∧ Aside0 (kq ≤ k) ∧ Aside0 (wc.heap[o]? = some (.cells #[.bool i, .bool g, .int .i64 b, .bool c] 45 (0, 0))) ∧ Aside0 (Below w.heap.size w wc))
 case first =>
  have H := v.out
  clear v
  by_cases c5 : i = true
  ·subst c5
   rw [if_pos rfl] at H
   have H' := Z H
   clear H
   go_wp2
   go_meet
   case rel => exact ⟨_, (wrap64 ((wrap64 (4 * b)) + 32)), (dn_), H', ⟨by first | omega | exact Nat.le_refl _⟩, ⟨vK d.out⟩, ⟨bl_⟩⟩
  replace c5 := Bool.eq_false_iff.mpr c5
  subst c5
  rw [iF_] at H
  have H' := Z H
  clear H
  go_wp2
  go_meet
  case rel => exact ⟨_, (wrap64 (4 * b)), (dn_), H', ⟨by first | omega | exact Nat.le_refl _⟩, ⟨vK d.out⟩, ⟨bl_⟩⟩
 clear v
 try clear x
 obtain ⟨kq, a, rfl, HA, aD, d, HB⟩ := hcut
 cases kq with
 | zero => exact absurd HA.out (by simp [shutterref05_Put.j0])
 | succ aE =>
  have H := HA.out
  clear HA
  simp only [shutterref05_Put.j0] at H
  by_cases c6 : g = true
  ·subst c6
   rw [if_pos rfl] at H
   by_cases c7 : c = true
   ·subst c7
    rw [if_pos rfl] at H
    replace H := bn_ H
    obtain ⟨j, A8, H⟩ := H
    obtain rfl := Option.some.inj H
    have ao := cells4 d.out
    go_wp2_with (first | ((with_reducible refine gF_ 43 rfl ?_); refine gd_ (some 20) Tryz.func43 (shutterref03_Put.calls (wrap64 ((wrap64 (a + 16)) + 1)) j _ A8.out) ?_; rintro e w' ⟨rfl, ⟨nd, rfl⟩⟩; refine ⟨_, rfl, ?_⟩))
    go_ret
    exact ⟨er_, bl_⟩
   replace c7 := Bool.eq_false_iff.mpr c7
   subst c7
   rw [iF_] at H
   replace H := bn_ H
   obtain ⟨l, al, H⟩ := H
   obtain rfl := Option.some.inj H
   have L := cells4 d.out
   go_wp2_with (first | ((with_reducible refine gF_ 43 rfl ?_); refine gd_ (some 20) Tryz.func43 (shutterref03_Put.calls (wrap64 (a + 16)) l _ al.out) ?_; rintro e w' ⟨rfl, ⟨nd, rfl⟩⟩; refine ⟨_, rfl, ?_⟩))
   go_ret
   exact ⟨er_, bl_⟩
  replace c6 := Bool.eq_false_iff.mpr c6
  subst c6
  rw [iF_] at H
  by_cases p : c = true
  ·subst p
   rw [if_pos rfl] at H
   replace H := bn_ H
   obtain ⟨m, am, H⟩ := H
   obtain rfl := Option.some.inj H
   have Q := cells4 d.out
   go_wp2_with (first | ((with_reducible refine gF_ 43 rfl ?_); refine gd_ (some 20) Tryz.func43 (shutterref03_Put.calls (wrap64 (a + 1)) m _ am.out) ?_; rintro e w' ⟨rfl, ⟨nd, rfl⟩⟩; refine ⟨_, rfl, ?_⟩))
   go_ret
   exact ⟨er_, bl_⟩
  replace p := Bool.eq_false_iff.mpr p
  subst p
  rw [iF_] at H
  replace H := bn_ H
  obtain ⟨n, an, H⟩ := H
  obtain rfl := Option.some.inj H
  have U := cells4 d.out
  go_wp2_with (first | ((with_reducible refine gF_ 43 rfl ?_); refine gd_ (some 20) Tryz.func43 (shutterref03_Put.calls a n _ an.out) ?_; rintro e w' ⟨rfl, ⟨nd, rfl⟩⟩; refine ⟨_, rfl, ?_⟩))
  go_ret
  exact ⟨er_, bl_⟩

/-! ### shutterref04_Put: function 47 -/
def shutterref04_Put.f (a0 a1 : Int) : Option (List Int) := if a1 > 4096 then (some (([(wrap64 (Int.tdiv a0 256)) % 256, (Int.tmod a0 256) % 256] : List Int))) else ((shutterref03_Put.f (wrap64 (Int.tdiv a0 64))).bind fun a => ((shutterref03_Put.f (Int.tmod a0 64)).bind fun b => (some (([a, b] : List Int)))))
theorem shutterref04_Put.calls (a0 a1 : Int) (r : List Int) (w : World) (h : shutterref04_Put.f a0 a1 = some r) :
  Calls Tryz.prog 47 #[.int .i64 a0, .int .i64 a1] w fun e w' => ∃ t : Value, e = .returned (t) ∧ Kd.R (Kd.int .u8) 5 w' w.heap.size (fun _ => True) t r ∧ Below w.heap.size w w' := by
 have HB := Z (Below.refl w.heap.size w)
 unfold shutterref04_Put.f at h
 have H := h
 clear h
 by_cases c3 : a1 > 4096
 ·rw [if_pos c3] at H
  have u : decide (4096 < a1) = true := decide_eq_true c3
  clear c3
  obtain ⟨v, c⟩ : ∃ y_ : List Int, y_ = (([(wrap64 (Int.tdiv a0 256)) % 256, (Int.tmod a0 256) % 256] : List Int)) := ⟨_, rfl⟩
  rw [← c] at H
  try replace H := sb_ H
  have m := Z c
  clear c
  obtain rfl := Option.some.inj H
  go_enter Tryz.func47, Tryz.ntmps47
  go_wp2_with (first | ((with_reducible refine gD_ 13 rfl ?_); refine Kd.R_lit (Kd.int .u8) _ 5 ?hg (N := 13) ?hd (xs := ([(wrap64 (Int.tdiv a0 256)) % 256, (Int.tmod a0 256) % 256] : List Int)) (inner := [.int .u8 ((wrap64 (Int.tdiv a0 256)) % 256), .int .u8 ((Int.tmod a0 256) % 256)]) (ok := fun _ => True) (okp := fun _ => True) ?hr ?hp (fun _ hk => hk) trivial (Below.refl _ _) (Nat.le_refl _) (by simp) ?_; (case hd => rfl); (case hg => rfl); (case hr => first | (go_simp; done) | (go_simp; rfl)); (case hp => exact (Reps.one (show Kd.M (Kd.int .u8) _ _ _ ((wrap64 (Int.tdiv a0 256)) % 256) [.int .u8 ((wrap64 (Int.tdiv a0 256)) % 256)] from rfl) (Reps.one (show Kd.M (Kd.int .u8) _ _ _ ((Int.tmod a0 256) % 256) [.int .u8 ((Int.tmod a0 256) % 256)] from rfl) (Reps.none _ _)))); intro A w4 i hb hg_ hnew_; clear hg_ hnew_; (first | rw [← m.out] at i | (simp only [Int.reduceToNat] at i; rw [← m.out] at i)); have o := Z (Kd.R_lower i (below_size bl_)); replace HB := bs_ hb; clear hb i))
  go_ret
  exact ⟨_, er_, by (with_reducible repeat apply pR); exact o.out, bl_⟩
 rw [if_neg c3] at H
 have u : decide (4096 < a1) = false := decide_eq_false c3
 clear c3
 replace H := bn_ H
 obtain ⟨b, y, H⟩ := H
 replace H := bn_ H
 obtain ⟨a, z, H⟩ := H
 obtain ⟨x, d⟩ : ∃ y_ : List Int, y_ = (([b, a] : List Int)) := ⟨_, rfl⟩
 rw [← d] at H
 try replace H := sb_ H
 have n := Z d
 clear d
 obtain rfl := Option.some.inj H
 go_enter Tryz.func47, Tryz.ntmps47
 go_wp2_with (first | ((with_reducible refine gF_ 43 rfl ?_); refine gd_ (some 16) Tryz.func43 (shutterref03_Put.calls (wrap64 (Int.tdiv a0 64)) b _ y.out) ?_; rintro e w' ⟨rfl, ⟨nd, rfl⟩⟩; refine ⟨_, rfl, ?_⟩) | ((with_reducible refine gF_ 43 rfl ?_); refine gd_ (some 19) Tryz.func43 (shutterref03_Put.calls (Int.tmod a0 64) a _ z.out) ?_; rintro e w' ⟨rfl, ⟨nd, rfl⟩⟩; refine ⟨_, rfl, ?_⟩) | ((with_reducible refine gD_ 20 rfl ?_); refine Kd.R_lit (Kd.int .u8) _ 5 ?hg (N := 20) ?hd (xs := ([b, a] : List Int)) (inner := [.int .u8 b, .int .u8 a]) (ok := fun _ => True) (okp := fun _ => True) ?hr ?hp (fun _ hk => hk) trivial (Below.refl _ _) (Nat.le_refl _) (by simp) ?_; (case hd => rfl); (case hg => rfl); (case hr => first | (go_simp; done) | (go_simp; rfl)); (case hp => exact (Reps.one (show Kd.M (Kd.int .u8) _ _ _ b [.int .u8 b] from rfl) (Reps.one (show Kd.M (Kd.int .u8) _ _ _ a [.int .u8 a] from rfl) (Reps.none _ _)))); intro B C j hb hg_ hnew_; clear hg_ hnew_; (first | rw [← n.out] at j | (simp only [Int.reduceToNat] at j; rw [← n.out] at j)); have p := Z (Kd.R_lower j (below_size bl_)); replace HB := bs_ hb; clear hb j))
 go_ret
 exact ⟨_, er_, by (with_reducible repeat apply pR); exact p.out, bl_⟩

end Go.Proofs.YtphboakgkmjpbaaGreatDoor.P
