/- pp.py and press2.py (wip/tools) wrote this text. -/
import Derived.Test.YtgboplhcjhlabaaDoorPx0
import Derived.Test.YtgboplhcjhlabaaDoorPxS
namespace Go.Proofs.YtgboplhcjhlabaaDoor.P
open Go.RowKit Go.Proofs.YtgboplhcjhlabaaDoorW.PrintWords Go.Proofs.YtgboplhcjhlabaaDoorW.PrintLast Go.Proofs.YtgboplhcjhlabaaDoorW.PrintMore
attribute [local go_sem] max2_int min2_int max_two min_two max_three min_three max_four min_four
attribute [local go_sem] Instr.field asAgg
set_option linter.unusedVariables false
set_option linter.unusedSimpArgs false

/-! ### shutterref10_Copy: function 25 -/
def shutterref10_Copy.f (c : Int) (d : Int) (a : List (S44)) (e : Int) (g : Bool) (h : Bool) : Option (Int × Int × (List (S44)) × Int × Bool × Bool) := (some (([] : List (S44)) : List (S44))).bind fun b => (if b.length + a.length < 3518437208883 then (some (c, d, (b ++ a), e, g, h)) else (none))
set_option maxHeartbeats 8000000 in
set_option maxRecDepth 100000 in
theorem shutterref10_Copy.calls (c : Int) (i : Int) (I : Option Addr) (J : Nat) (d : List (S44)) (l : Int) (m : Bool) (n : Bool) (S : Int) (T : Int) (U : List (S44)) (V : Int) (W : Bool) (X : Bool) (w : World) (Q : Kd.C k44 w I d.length d) (P : d.length ≤ J) (h : shutterref10_Copy.f c i d l m n = some (S, T, U, V, W, X)) :
  Calls Tryd.prog 25 #[.agg #[.int .i64 c, .int .i64 i, .slice I d.length J, .int .i64 l, .bool m, .bool n]] w fun e w' => ∃ ae : Value, e = .returned (.agg #[.int .i64 S, .int .i64 T, ae, .int .i64 V, .bool W, .bool X]) ∧ Kd.R k44 44 w' w.heap.size (fun _ => True) ae U ∧ Below w.heap.size w w' := by
 have a7 := Tryd.underlying24
 have Y := Z Q
 have a4 := Z P
 clear Q P
 have HB := Z (Below.refl w.heap.size w)
 have H : ((some (([] : List (S44)) : List (S44))).bind fun v => (if v.length + d.length < 3518437208883 then (some (c, i, (v ++ d), l, m, n)) else (none))) = some (S, T, U, V, W, X) := h
 clear h
 obtain ⟨v, y⟩ : ∃ y_ : List (S44), y_ = (([] : List (S44))) := ⟨_, rfl⟩
 replace H : (if v.length + d.length < 3518437208883 then (some (c, i, (v ++ d), l, m, n)) else (none)) = some (S, T, U, V, W, X) := by first | (rw [y]; with_reducible exact H) | (have G := (Option.bind_some _ _).symm.trans H; rw [y]; with_reducible exact G) | (have G := (Option.bind_some _ _).symm.trans H; with_reducible exact G) | with_reducible exact H | (rw [y]; exact H) | exact H
 have O := Z y
 clear y
 by_cases c2 : v.length + d.length < 3518437208883
 ·rw [if_pos c2] at H
  have af := Z c2
  clear c2
  obtain ⟨x, z⟩ : ∃ y_ : List (S44), y_ = (v ++ d) := ⟨_, rfl⟩
  replace H : (some (c, i, x, l, m, n)) = some (S, T, U, V, W, X) := by first | (rw [z]; with_reducible exact H) | (have G := (Option.bind_some _ _).symm.trans H; rw [z]; with_reducible exact G) | (have G := (Option.bind_some _ _).symm.trans H; with_reducible exact G) | with_reducible exact H | (rw [z]; exact H) | exact H
  have aa := Z z
  clear z
  simp only [Option.some.injEq, Prod.mk.injEq] at H
  obtain ⟨rfl, rfl, rfl, rfl, rfl, rfl⟩ := H
  go_enter Tryd.func25, Tryd.ntmps25
  go_wp2_with (first | ((with_reducible refine gate_dst (N := 1) rfl ?_); refine bx_ 1 24 #[.int .i64 c, .int .i64 i, .slice I d.length J, .int .i64 l, .bool m, .bool n] ?_; intro F hg w3 hbox hb; have a := Z (hbox); have a2 := Z (ln_ hg : w.heap.size ≤ F); have a0 := Z (ln_ hg : w.heap.size ≤ F); replace HB := Z (below_step bl_ hb); clear hb hbox hg) | ((with_reducible refine gate_dst (N := 2) rfl ?_); refine bx_ 2 24 #[.int .i64 0, .int .i64 0, .slice none 0 0, .int .i64 0, .bool false, .bool false] ?_; intro k hg w4 hbox hb; have j := Z (hbox); have a3 := Z (ln_ hg : w.heap.size ≤ k); have a1 := Z (ln_ hg : w.heap.size ≤ k); replace HB := Z (below_step bl_ hb); have K := Z (nl a.out hg); have D := Z (ng a.out hg); replace a := Z (kb a.out hb); clear hb hbox hg) | ((with_reducible refine gate_dst (N := 3) rfl ?_); refine Kd.R_lit k44 _ 44 ?hg (N := 3) ?hd (xs := ([] : List (S44))) (inner := []) (ok := fun _ => True) (okp := fun _ => True) ?hr ?hp (fun _ hk => hk) trivial (Below.refl _ _) (Nat.le_refl _) (by simp) ?_; (case hd => rfl); (case hg => rfl); (case hr => first | (go_simp; done) | (go_simp; rfl)); (case hp => exact (Reps.none _ _)); intro ah w5 L hb hg_ hnew_; clear hg_ hnew_; (first | rw [← O.out] at L | (simp only [Int.reduceToNat] at L; rw [← O.out] at L)); have E := Z (Kd.R_lower L (below_size bl_)); replace a := Z (kb a.out hb); replace j := Z (kb j.out hb); replace HB := Z (below_step bl_ hb); clear hb L; have a5 := K.out; have a6 := D.out; obtain ⟨aK, aM, aN, aP, aQ, aT, aU, aV, aW, aX, aY, aZ⟩ := cells6 a.out) | ((with_reducible refine gate_builtin (b := .append) (xs := #[.tmp 3, .tmp 5]) rfl ?_); at_builtin; refine Kd.R_append_rows k44 (w0 := w) w.heap.size rfl (.tmp 3) (.tmp 5) 22 44 (.agg #[(.bool false), (.bool false), (.bool false), (.int .i64 0), (.bool false), (.int .u8 0)]) 40 rfl Tryd.underlying22 info44 rfl (by decide) (by omega) ah v d _ _ _ (fun _ => True) (fun _ => False) rfl rfl ?aO ?aR (fun _ _ h => h) (fun _ h => h.elim) ?aF ?aB ?aS ?aL ?_; (case aR => repeat (first | exact (Kd.C_below Y.out HB.out) | (with_reducible apply pC))); (case aB => exact bl_); (case aF => exact (fun _ _ => trivial)); (case aO => exact (by (with_reducible repeat apply pR); exact E.out)); (case aS => exact (below_size bl_)); (case aL => have := af.out; omega); intro a8 w9 ho hb hg hat; rw [← aa.out] at ho; replace a := Z (blk_grown (g := F) (o := .cells #[.int .i64 c, .int .i64 i, .slice I d.length J, .int .i64 l, .bool m, .bool n] 24 (0, 0)) (vK a.out) hg (Kd.R_ne E.out a.out (by decide))); replace j := Z (blk_grown (g := k) (o := .cells #[.int .i64 0, .int .i64 0, .slice none 0 0, .int .i64 0, .bool false, .bool false] 24 (0, 0)) (vK j.out) hg (Kd.R_ne E.out j.out (by decide))); replace HB := Z (hb); have M := Z (ho); clear E; clear ho hb hg hat; obtain ⟨A, B, ag⟩ := Kd.R_slice M.out; subst ag; obtain ⟨ai, aj, ak, al, am, an, aw, ax, ay, az, aA, aC⟩ := cells6 a.out; obtain ⟨ao, ap, aq, ar, au, av, aD, aE, aG, aH, aI, aJ⟩ := cells6 j.out))
  refine bodyPost_ret (results_cell_row rfl _ _ k 24 #[.int .i64 c, .int .i64 i, .slice A x.length B, .int .i64 l, .bool m, .bool n] (0, 0) _ rfl (by (with_reducible repeat apply pK); refine blk_put (cs := #[.int .i64 c, .int .i64 i, .slice A x.length B, .int .i64 l, .bool m, .bool false]) ?_ 5 _ rfl; (with_reducible repeat apply pK); refine blk_put (cs := #[.int .i64 c, .int .i64 i, .slice A x.length B, .int .i64 l, .bool false, .bool false]) ?_ 4 _ rfl; (with_reducible repeat apply pK); refine blk_put (cs := #[.int .i64 c, .int .i64 i, .slice A x.length B, .int .i64 0, .bool false, .bool false]) ?_ 3 _ rfl; (with_reducible repeat apply pK); refine blk_put (cs := #[.int .i64 c, .int .i64 i, .slice none 0 0, .int .i64 0, .bool false, .bool false]) ?_ 2 _ rfl; (with_reducible repeat apply pK); refine blk_put (cs := #[.int .i64 c, .int .i64 0, .slice none 0 0, .int .i64 0, .bool false, .bool false]) ?_ 1 _ rfl; (with_reducible repeat apply pK); refine blk_put (cs := #[.int .i64 0, .int .i64 0, .slice none 0 0, .int .i64 0, .bool false, .bool false]) ?_ 0 _ rfl; (with_reducible repeat apply pK); refine blk_far ?_ D.out _; (with_reducible repeat apply pK); exact j.out) Tryd.underlying24 rfl (by kernel_rfl)) rfl ?_
  exact ⟨_, er_, by (with_reducible repeat apply pR); exact Kd.R_mono (f6R k (Kd.R_far (p := ⟨F, 2, none⟩) (Kd.R_types (Kd.R_types M.out a.out (by decide)) j.out (by decide)) (fun _ hk => hk.1.2) (.slice A x.length B)) (fun _ hk => hk.2)) (fun _ hk => trivial), bl_⟩
 ·rw [if_neg c2] at H
  exact absurd H (by simp)

end Go.Proofs.YtgboplhcjhlabaaDoor.P
