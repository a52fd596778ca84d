/- pp.py and press2.py (wip/tools) wrote this text. -/
import Derived.Test.YtggecanpjkpkiaaDoorPx0
import Derived.Test.YtggecanpjkpkiaaDoorPxS
import Derived.Test.YtggecanpjkpkiaaDoorPx3
import Derived.Test.YtggecanpjkpkiaaDoorPx10
namespace Go.Proofs.YtggecanpjkpkiaaDoor.P
open Go.RowKit Go.Proofs.YtggecanpjkpkiaaDoorW.PrintWords Go.Proofs.YtggecanpjkpkiaaDoorW.PrintLast Go.Proofs.YtggecanpjkpkiaaDoorW.PrintMore
attribute [local go_sem] max2_int min2_int max_two min_two max_three min_three max_four min_four
attribute [local go_sem] Instr.field asAgg
set_option linter.unusedVariables false
set_option linter.unusedSimpArgs false

/-! ### api_Where: function 28 -/
section
/-- api.Where: a spot's place, or -1. -/
def api_Where.f (a : Option Er) (b : List S164) : Option Int :=
 match a with
 | none => some (-1)
 | some (.num _) => some (-1)
 | some .spot => match b with | [s] => some s.f0 | _ => none
set_option maxRecDepth 100000 in
set_option maxHeartbeats 4000000 in
theorem api_Where.calls (c : Option Er) (g : Option Addr) (d : Nat) (a : List S164) (r : Int) (w : World) (b : Kd.C k164 w g a.length a) (i : a.length ≤ d) (hG : LaidG w) (h : api_Where.f c a = some r) :
  Calls Tryd.prog 28 #[errW (.slice g a.length d) c] w fun e w' => e = .returned (.int .i64 r) ∧ Below w.heap.size w w' := by
 rcases c with _ | q
 ·obtain rfl := Option.some.inj h
  rw [errW_none]
  clear b h
  go_enter Tryd.func28, Tryd.ntmps28
  go_wp2
  go_ret
  exact ⟨rfl, below_alloc (Below.refl _ _) _⟩
 ·cases q with
  | num n =>
   obtain rfl := Option.some.inj h
   rw [errW_some, show (Er.num n).ty = 52 from rfl, show (Er.num n).pay _ = .int .i64 n from rfl]
   clear b h
   have HA := Z (EW.miss n ⟨w.heap.size, 0, none⟩ (.pointer none) (w.alloc (.cells #[.pointer none] 76)) (laidG_alloc hG _) (by simp) (by rw [frozen?_alloc_cells]; simp [World.frozen?]))
   go_enter Tryd.func28, Tryd.ntmps28
   go_wp2_with (go_at_call 49; refine HA.out.mono ?_; rintro e w' ⟨rfl, rfl⟩)
   go_ret
   exact ⟨rfl, below_alloc (below_alloc (below_alloc (below_alloc (Below.refl _ _) _) _) _) _⟩
  | spot =>
   match a, b, i, h with
   | [s], hr, hc, h =>
    obtain rfl := Option.some.inj h
    obtain ⟨ad, rfl, j, k⟩ := spot_at hr
    rw [errW_some, show Er.spot.ty = 76 from rfl, show Er.spot.pay (.slice (some ad) ([s] : List S164).length d) = .pointer (some ad) from rfl]
    have hlt := bk_ w ad j
    have HA := Z ((EW.hit ad ⟨w.heap.size, 0, none⟩ (.pointer none) (w.alloc (.cells #[.pointer none] 76)) (laidG_alloc hG _) (by simp) (by rw [frozen?_alloc_cells]; simp [World.frozen?])).mono (R' := fun ev w' => ev = .returned (.bool true) ∧ (w'.cell? ⟨w.heap.size, 0, none⟩ = some (.pointer (some ad)) ∧ w'.cell? ad = some (.int .i64 s.f0) ∧ Aside0 (Below w.heap.size w w'))) (fun ev w' h_ => ⟨h_.1, by
     rw [h_.2]
     refine ⟨(blk_cell (blk_put (cs' := #[.pointer (some ad)]) (pK (pK (pK (pK (blk_new w _))))) 0 _ rfl) 0).trans rfl, ?_, ⟨below_set (below_alloc (below_alloc (below_alloc (below_alloc (below_alloc (Below.refl _ _) _) _) _) _) _) (Nat.le_refl _)⟩⟩
     refine (cell_far (p := ⟨w.heap.size, 0, none⟩) (Nat.ne_of_lt hlt) _).trans ?_
     rw [World.cell?_alloc_lt _ _ ad (by simp; omega), World.cell?_alloc_lt _ _ ad (by simp; omega), World.cell?_alloc_lt _ _ ad (by simp; omega), World.cell?_alloc_lt _ _ ad (by simp; omega), World.cell?_alloc_lt _ _ ad hlt]; exact j⟩))
    have hu := Tryd.underlying79
    have l := Tryd.underlying76
    clear j k hr hlt h
    go_enter Tryd.func28, Tryd.ntmps28
    go_wp2_with (go_at_call 49; refine HA.out.mono ?_; rintro e w' ⟨rfl, hP, hA, HB⟩)
    go_ret
    exact ⟨rfl, HB.out⟩
end

/-! ### shutterref10_Copy: function 23 -/
def shutterref10_Copy.f (c : Int) (d : Int) (a : List (S35)) (e : Int) (g : Bool) (h : Bool) : Option (Int × Int × (List (S35)) × Int × Bool × Bool) := (some (([] : List (S35)) : List (S35))).bind fun b => (if b.length + a.length < 3518437208883 then (some (c, d, (b ++ a), e, g, h)) else (none))
set_option maxHeartbeats 8000000 in
set_option maxRecDepth 100000 in
theorem shutterref10_Copy.calls (c : Int) (i : Int) (I : Option Addr) (J : Nat) (d : List (S35)) (l : Int) (m : Bool) (n : Bool) (S : Int) (T : Int) (U : List (S35)) (V : Int) (W : Bool) (X : Bool) (w : World) (Q : Kd.C k35 w I d.length d) (P : d.length ≤ J) (h : shutterref10_Copy.f c i d l m n = some (S, T, U, V, W, X)) :
  Calls Tryd.prog 23 #[.agg #[.int .i64 c, .int .i64 i, .slice I d.length J, .int .i64 l, .bool m, .bool n]] w fun e w' => ∃ ae : Value, e = .returned (.agg #[.int .i64 S, .int .i64 T, ae, .int .i64 V, .bool W, .bool X]) ∧ Kd.R k35 35 w' w.heap.size (fun _ => True) ae U ∧ Below w.heap.size w w' := by
 have a7 := Tryd.underlying24
 have Y := Z Q
 have a4 := Z P
 clear Q P
 have HB := Z (Below.refl w.heap.size w)
 have H : ((some (([] : List (S35)) : List (S35))).bind fun v => (if v.length + d.length < 3518437208883 then (some (c, i, (v ++ d), l, m, n)) else (none))) = some (S, T, U, V, W, X) := h
 clear h
 obtain ⟨v, y⟩ : ∃ y_ : List (S35), y_ = (([] : List (S35))) := ⟨_, rfl⟩
 replace H : (if v.length + d.length < 3518437208883 then (some (c, i, (v ++ d), l, m, n)) else (none)) = some (S, T, U, V, W, X) := by first | (rw [y]; with_reducible exact H) | (have G := (Option.bind_some _ _).symm.trans H; rw [y]; with_reducible exact G) | (have G := (Option.bind_some _ _).symm.trans H; with_reducible exact G) | with_reducible exact H | (rw [y]; exact H) | exact H
 have O := Z y
 clear y
 by_cases c2 : v.length + d.length < 3518437208883
 ·rw [if_pos c2] at H
  have af := Z c2
  clear c2
  obtain ⟨x, z⟩ : ∃ y_ : List (S35), y_ = (v ++ d) := ⟨_, rfl⟩
  replace H : (some (c, i, x, l, m, n)) = some (S, T, U, V, W, X) := by first | (rw [z]; with_reducible exact H) | (have G := (Option.bind_some _ _).symm.trans H; rw [z]; with_reducible exact G) | (have G := (Option.bind_some _ _).symm.trans H; with_reducible exact G) | with_reducible exact H | (rw [z]; exact H) | exact H
  have aa := Z z
  clear z
  simp only [Option.some.injEq, Prod.mk.injEq] at H
  obtain ⟨rfl, rfl, rfl, rfl, rfl, rfl⟩ := H
  go_enter Tryd.func23, Tryd.ntmps23
  go_wp2_with (first | ((with_reducible refine gate_dst (N := 1) rfl ?_); refine bx_ 1 24 #[.int .i64 c, .int .i64 i, .slice I d.length J, .int .i64 l, .bool m, .bool n] ?_; intro F hg w3 hbox hb; have a := Z (hbox); have a2 := Z (ln_ hg : w.heap.size ≤ F); have a0 := Z (ln_ hg : w.heap.size ≤ F); replace HB := Z (below_step bl_ hb); clear hb hbox hg) | ((with_reducible refine gate_dst (N := 2) rfl ?_); refine bx_ 2 24 #[.int .i64 0, .int .i64 0, .slice none 0 0, .int .i64 0, .bool false, .bool false] ?_; intro k hg w4 hbox hb; have j := Z (hbox); have a3 := Z (ln_ hg : w.heap.size ≤ k); have a1 := Z (ln_ hg : w.heap.size ≤ k); replace HB := Z (below_step bl_ hb); have K := Z (nl a.out hg); have D := Z (ng a.out hg); replace a := Z (kb a.out hb); clear hb hbox hg) | ((with_reducible refine gate_dst (N := 3) rfl ?_); refine Kd.R_lit k35 _ 35 ?hg (N := 3) ?hd (xs := ([] : List (S35))) (inner := []) (ok := fun _ => True) (okp := fun _ => True) ?hr ?hp (fun _ hk => hk) trivial (Below.refl _ _) (Nat.le_refl _) (by simp) ?_; (case hd => rfl); (case hg => rfl); (case hr => first | (go_simp; done) | (go_simp; rfl)); (case hp => exact (Reps.none _ _)); intro ah w5 L hb hg_ hnew_; clear hg_ hnew_; (first | rw [← O.out] at L | (simp only [Int.reduceToNat] at L; rw [← O.out] at L)); have E := Z (Kd.R_lower L (below_size bl_)); replace a := Z (kb a.out hb); replace j := Z (kb j.out hb); replace HB := Z (below_step bl_ hb); clear hb L; have a5 := K.out; have a6 := D.out; obtain ⟨aK, aM, aN, aP, aQ, aT, aU, aV, aW, aX, aY, aZ⟩ := cells6 a.out) | ((with_reducible refine gate_builtin (b := .append) (xs := #[.tmp 3, .tmp 5]) rfl ?_); at_builtin; refine Kd.R_append_rows k35 (w0 := w) w.heap.size rfl (.tmp 3) (.tmp 5) 22 35 (.agg #[(.bool false), (.bool false), (.bool false), (.int .i64 0), (.bool false), (.int .u8 0)]) 40 rfl Tryd.underlying22 info35 rfl (by decide) (by omega) ah v d _ _ _ (fun _ => True) (fun _ => False) rfl rfl ?aO ?aR (fun _ _ h => h) (fun _ h => h.elim) ?aF ?aB ?aS ?aL ?_; (case aR => repeat (first | exact (Kd.C_below Y.out HB.out) | (with_reducible apply pC))); (case aB => exact bl_); (case aF => exact (fun _ _ => trivial)); (case aO => exact (by (with_reducible repeat apply pR); exact E.out)); (case aS => exact (below_size bl_)); (case aL => have := af.out; omega); intro a8 w9 ho hb hg hat; rw [← aa.out] at ho; replace a := Z (blk_grown (g := F) (o := .cells #[.int .i64 c, .int .i64 i, .slice I d.length J, .int .i64 l, .bool m, .bool n] 24 (0, 0)) (vK a.out) hg (Kd.R_ne E.out a.out (by decide))); replace j := Z (blk_grown (g := k) (o := .cells #[.int .i64 0, .int .i64 0, .slice none 0 0, .int .i64 0, .bool false, .bool false] 24 (0, 0)) (vK j.out) hg (Kd.R_ne E.out j.out (by decide))); replace HB := Z (hb); have M := Z (ho); clear E; clear ho hb hg hat; obtain ⟨A, B, ag⟩ := Kd.R_slice M.out; subst ag; obtain ⟨ai, aj, ak, al, am, an, aw, ax, ay, az, aA, aC⟩ := cells6 a.out; obtain ⟨ao, ap, aq, ar, au, av, aD, aE, aG, aH, aI, aJ⟩ := cells6 j.out))
  refine bodyPost_ret (results_cell_row rfl _ _ k 24 #[.int .i64 c, .int .i64 i, .slice A x.length B, .int .i64 l, .bool m, .bool n] (0, 0) _ rfl (by (with_reducible repeat apply pK); refine blk_put (cs := #[.int .i64 c, .int .i64 i, .slice A x.length B, .int .i64 l, .bool m, .bool false]) ?_ 5 _ rfl; (with_reducible repeat apply pK); refine blk_put (cs := #[.int .i64 c, .int .i64 i, .slice A x.length B, .int .i64 l, .bool false, .bool false]) ?_ 4 _ rfl; (with_reducible repeat apply pK); refine blk_put (cs := #[.int .i64 c, .int .i64 i, .slice A x.length B, .int .i64 0, .bool false, .bool false]) ?_ 3 _ rfl; (with_reducible repeat apply pK); refine blk_put (cs := #[.int .i64 c, .int .i64 i, .slice none 0 0, .int .i64 0, .bool false, .bool false]) ?_ 2 _ rfl; (with_reducible repeat apply pK); refine blk_put (cs := #[.int .i64 c, .int .i64 0, .slice none 0 0, .int .i64 0, .bool false, .bool false]) ?_ 1 _ rfl; (with_reducible repeat apply pK); refine blk_put (cs := #[.int .i64 0, .int .i64 0, .slice none 0 0, .int .i64 0, .bool false, .bool false]) ?_ 0 _ rfl; (with_reducible repeat apply pK); refine blk_far ?_ D.out _; (with_reducible repeat apply pK); exact j.out) Tryd.underlying24 rfl (by kernel_rfl)) rfl ?_
  exact ⟨_, er_, by (with_reducible repeat apply pR); exact Kd.R_mono (f6R k (Kd.R_far (p := ⟨F, 2, none⟩) (Kd.R_types (Kd.R_types M.out a.out (by decide)) j.out (by decide)) (fun _ hk => hk.1.2) (.slice A x.length B)) (fun _ hk => hk.2)) (fun _ hk => trivial), bl_⟩
 ·rw [if_neg c2] at H
  exact absurd H (by simp)

/-! ### shutterref14_Modify: function 37 -/
def shutterref14_Modify.f (k : Nat) (c : Int) (d : Int) (i : List (S35)) (e : Int) (g : Bool) (h : Bool) (a1 : Int) : Option (Int × Int × (List (S35)) × Int × Bool × Bool) := (shutterref10_Copy.f c d i e g h).bind fun a => ((shutterref11_Begin.f k c d i e g h a1).bind fun b => (if b ≥ 0 then (if 0 ≤ b then (if b < (a.2.2.1.length : Int) then (some (a.1, a.2.1, (a.2.2.1.set (b : Int).toNat (⟨(rd_T35 a.2.2.1 b).f0, (⟨(rd_T35 a.2.2.1 b).f1.f0, (rd_T35 a.2.2.1 b).f1.f1, (rd_T35 a.2.2.1 b).f1.f2, true⟩ : S33), (rd_T35 a.2.2.1 b).f2⟩ : S35)), a.2.2.2.1, a.2.2.2.2.1, a.2.2.2.2.2)) else (none)) else (none)) else (some (a.1, a.2.1, a.2.2.1, a.2.2.2.1, a.2.2.2.2.1, a.2.2.2.2.2))))
theorem shutterref14_Modify.mono : ∀ a0 a1 a b a4 c d k, LeO (shutterref14_Modify.f k a0 a1 a b a4 c d) (shutterref14_Modify.f (k + 1) a0 a1 a b a4 c d) := by
 intro a0 a1 a b a4 c d k
 unfold shutterref14_Modify.f
 repeat' first
   | (with_reducible exact shutterref11_Begin.mono _ _ _ _ _ _ _ _)
   | (with_reducible exact LeO.refl _)
   | (with_reducible exact LeO.none _)
   | (with_reducible refine LeO.ite ?_ ?_)
   | (with_reducible refine LeO.bind ?_ (fun _ => ?_))
   | exact shutterref11_Begin.mono _ _ _ _ _ _ _ _
   | exact LeO.none _
   | refine LeO.ite ?_ ?_
   | refine LeO.bind ?_ (fun _ => ?_)
set_option maxHeartbeats 8000000 in
set_option maxRecDepth 100000 in
theorem shutterref14_Modify.calls (k : Nat) (z : Int) (A : Int) (Q : Option Addr) (S : Nat) (y : List (S35)) (B : Int) (D : Bool) (E : Bool) (a1 : Int) (r1 : Int) (r2 : Int) (r3 : List (S35)) (r4 : Int) (r5 : Bool) (r6 : Bool) (w : World) (aw : Kd.C k35 w Q y.length y) (ar : y.length ≤ S) (h : shutterref14_Modify.f k z A y B D E a1 = some (r1, r2, r3, r4, r5, r6)) :
  Calls Tryd.prog 37 #[.agg #[.int .i64 z, .int .i64 A, .slice Q y.length S, .int .i64 B, .bool D, .bool E], .int .i64 a1] w fun e w' => ∃ aZ : Value, e = .returned (.agg #[.int .i64 r1, .int .i64 r2, aZ, .int .i64 r4, .bool r5, .bool r6]) ∧ Kd.R k35 35 w' w.heap.size (fun _ => True) aZ r3 ∧ Below w.heap.size w w' := by
 have dQ := Tryd.underlying24
 have ah := Z aw
 have ag := Z ar
 clear aw ar
 have HB := Z (Below.refl w.heap.size w)
 have H : ((shutterref10_Copy.f z A y B D E).bind fun x => ((shutterref11_Begin.f k z A y B D E a1).bind fun a => (if a ≥ 0 then (if 0 ≤ a then (if a < (x.2.2.1.length : Int) then (some (x.1, x.2.1, (x.2.2.1.set (a : Int).toNat (⟨(rd_T35 x.2.2.1 a).f0, (⟨(rd_T35 x.2.2.1 a).f1.f0, (rd_T35 x.2.2.1 a).f1.f1, (rd_T35 x.2.2.1 a).f1.f2, true⟩ : S33), (rd_T35 x.2.2.1 a).f2⟩ : S35)), x.2.2.2.1, x.2.2.2.2.1, x.2.2.2.2.2)) else (none)) else (none)) else (some (x.1, x.2.1, x.2.2.1, x.2.2.2.1, x.2.2.2.2.1, x.2.2.2.2.2))))) = some (r1, r2, r3, r4, r5, r6) := h
 clear h
 replace H := Option.bind_eq_some_iff.mp H
 obtain ⟨⟨F, G, b, I, J, K⟩, aT, H⟩ := H
 replace H : ((shutterref11_Begin.f k z A y B D E a1).bind fun a => (if a ≥ 0 then (if 0 ≤ a then (if a < (b.length : Int) then (some (F, G, (b.set (a : Int).toNat (⟨(rd_T35 b a).f0, (⟨(rd_T35 b a).f1.f0, (rd_T35 b a).f1.f1, (rd_T35 b a).f1.f2, true⟩ : S33), (rd_T35 b a).f2⟩ : S35)), I, J, K)) else (none)) else (none)) else (some (F, G, b, I, J, K)))) = some (r1, r2, r3, r4, r5, r6) := H
 have A3 := Z aT
 clear aT
 replace H := Option.bind_eq_some_iff.mp H
 obtain ⟨a, aU, H⟩ := H
 replace H : (if a ≥ 0 then (if 0 ≤ a then (if a < (b.length : Int) then (some (F, G, (b.set (a : Int).toNat (⟨(rd_T35 b a).f0, (⟨(rd_T35 b a).f1.f0, (rd_T35 b a).f1.f1, (rd_T35 b a).f1.f2, true⟩ : S33), (rd_T35 b a).f2⟩ : S35)), I, J, K)) else (none)) else (none)) else (some (F, G, b, I, J, K))) = some (r1, r2, r3, r4, r5, r6) := H
 have A4 := Z aU
 clear aU
 by_cases c5 : a ≥ 0
 ·rw [if_pos c5] at H
  have a0 : decide (0 ≤ a) = true := decide_eq_true c5
  clear c5
  by_cases c6 : 0 ≤ a
  ·rw [if_pos c6] at H
   have dN : decide (0 ≤ a) = true := decide_eq_true c6
   clear c6
   by_cases c7 : a < (b.length : Int)
   ·rw [if_pos c7] at H
    have dO : decide (a < (b.length : Int)) = true := decide_eq_true c7
    clear c7
    obtain ⟨aL, af⟩ : ∃ y_ : List (S35), y_ = (b.set (a : Int).toNat (⟨(rd_T35 b a).f0, (⟨(rd_T35 b a).f1.f0, (rd_T35 b a).f1.f1, (rd_T35 b a).f1.f2, true⟩ : S33), (rd_T35 b a).f2⟩ : S35)) := ⟨_, rfl⟩
    replace H : (some (F, G, aL, I, J, K)) = some (r1, r2, r3, r4, r5, r6) := by first | (rw [af]; with_reducible exact H) | (have aE := (Option.bind_some _ _).symm.trans H; rw [af]; with_reducible exact aE) | (have aE := (Option.bind_some _ _).symm.trans H; with_reducible exact aE) | with_reducible exact H | (rw [af]; exact H) | exact H
    have aS := Z af
    clear af
    simp only [Option.some.injEq, Prod.mk.injEq] at H
    obtain ⟨rfl, rfl, rfl, rfl, rfl, rfl⟩ := H
    go_enter Tryd.func37, Tryd.ntmps37
    go_wp2_with (first | ((with_reducible refine gate_dst (N := 2) rfl ?_); refine bx_ 2 24 #[.int .i64 z, .int .i64 A, .slice Q y.length S, .int .i64 B, .bool D, .bool E] ?_; intro U hg w9 hbox hb; have c := Z (hbox); have aP := Z (ln_ hg : w.heap.size ≤ U); have aM := Z (ln_ hg : w.heap.size ≤ U); replace HB := Z (below_step bl_ hb); clear hb hbox hg) | ((with_reducible refine gate_dst (N := 4) rfl ?_); refine bx_ 4 24 #[.int .i64 0, .int .i64 0, .slice none 0 0, .int .i64 0, .bool false, .bool false] ?_; intro l hg dV hbox hb; have d := Z (hbox); have aQ := Z (ln_ hg : w.heap.size ≤ l); have aN := Z (ln_ hg : w.heap.size ≤ l); replace HB := Z (below_step bl_ hb); have V := Z (nl c.out hg); have W := Z (ng c.out hg); replace c := Z (kb c.out hb); clear hb hbox hg; have dv := V.out; have dB := W.out; obtain ⟨a7, a8, a9, ba, bb, bc, cc, cd, ce, cf, cg, ch⟩ := cells6 c.out) | ((with_reducible refine gate_callee (f := 23) rfl ?_); refine goesL_ (some 8) rfl rfl Tryd.func23 (by kernel_rfl) rfl #[.agg #[.int .i64 z, .int .i64 A, .slice Q y.length S, .int .i64 B, .bool D, .bool E]] rfl ag_ ?_; (with_reducible refine (shutterref10_Copy.calls z A _ _ y B D E F G b I J K _ ?side1 ?side2 A3.out).mono ?_); (case side1 => repeat (first | exact (Kd.C_below ah.out HB.out) | (with_reducible apply pC))); (case side2 => exact ag.out); rintro e dW ⟨a6, rfl, am, hb⟩; refine ⟨_, rfl, ?_⟩; have i := Z (Kd.R_lower am (below_size bl_)); replace c := Z (kb c.out hb); replace d := Z (kb d.out hb); replace HB := Z (below_step bl_ hb); (try clear hb); (try clear aH); (try clear hk); (try clear hi); (try clear am)) | ((with_reducible refine gate_dst (N := 5) rfl ?_); refine bx_ 5 24 #[.int .i64 0, .int .i64 0, .slice none 0 0, .int .i64 0, .bool false, .bool false] ?_; intro m hg dX hbox hb; replace i := Z (rb i.out hb); have u := Z (hbox); have aR := Z (ln_ hg : w.heap.size ≤ m); have aO := Z (ln_ hg : w.heap.size ≤ m); replace HB := Z (below_step bl_ hb); have O := Z (nl c.out hg); have X := Z (ng c.out hg); replace c := Z (kb c.out hb); have P := Z (nl d.out hg); have Y := Z (ng d.out hg); replace d := Z (kb d.out hb); clear hb hbox hg; have dw := X.out; have dC := O.out; have dx := Y.out; have dD := P.out; obtain ⟨bd, be, bf, bg, bh, bi, ci, cj, ck, cl, cm, cn⟩ := cells6 u.out; obtain ⟨aD, ac, a2⟩ := Kd.R_slice i.out; subst a2; obtain ⟨bj, bk, bl, bm, bn, bo, co, cp, cq, cr, ct, cu⟩ := cells6 c.out) | ((with_reducible refine gate_callee (f := 21) rfl ?_); refine goesL_ (some 11) rfl rfl Tryd.func21 (by kernel_rfl) rfl #[.agg #[.int .i64 z, .int .i64 A, .slice Q y.length S, .int .i64 B, .bool D, .bool E], .int .i64 a1] rfl ag_ ?_; (with_reducible refine (shutterref11_Begin.calls k z A _ _ y B D E a1 a _ ?side1 ?side2 A4.out).mono ?_); (case side1 => exact Kd.C_below ah.out bl_); (case side2 => exact ag.out); rintro e T ⟨rfl, hb⟩; refine ⟨_, rfl, ?_⟩; replace i := Z (Kd.R_below (by (with_reducible repeat apply pR); exact (Kd.R_mono (f6R m (Kd.R_types i.out u.out (by decide)) (fun _ hk => hk.2)) (fun _ h_ => h_.1))) hb); replace c := Z (blk_below (g := U) (o := .cells #[.int .i64 z, .int .i64 A, .slice Q y.length S, .int .i64 B, .bool D, .bool E] 24 (0, 0)) (blk_off c.out O.out off2_) hb); replace d := Z (blk_below (g := l) (o := .cells #[.int .i64 0, .int .i64 0, .slice none 0 0, .int .i64 0, .bool false, .bool false] 24 (0, 0)) (blk_off d.out P.out off2_) hb); replace u := Z (blk_below (g := m) (o := .cells #[.int .i64 F, .int .i64 G, .slice aD b.length ac, .int .i64 I, .bool J, .bool K] 24 (0, 0)) (put6 u.out) hb); replace HB := Z (below_step bl_ hb); (try clear hb); (try clear aH); (try clear hk); (try clear hi); obtain ⟨bp, bq, br, bs, bt, bu, cv, cw, cx, cy, cz, cA⟩ := cells6 u.out; have p8 : 0 ≤ (a : Int) := od_; have q8 : (a : Int) < ((b.length : Int) : Int) := od_; obtain ⟨M, dU, aW, aX, dn, dT, aV⟩ := Kd.R_form i.out (by omega); (first | cases aW | (injection aW with ea_ en_ ec_; (first | subst ea_ | (injection ea_ with ea_; subst ea_)); subst ec_; clear en_)); have dm := Z aX; have dR := Z aV; clear aX dn aV; obtain ⟨dS, a4, aY, ad, ae⟩ := Kd.R_elem i.out z35 (a : Int) p8 q8; obtain rfl := k35_openM aY; have dH : T.cell? ⟨M, (a : Int).toNat * 6, none⟩ = some (.bool ((rd_T35 b a).f0)) := ad 0 _ rfl; have dI : T.cell? ⟨M, (a : Int).toNat * 6 + 1, none⟩ = some (.bool ((rd_T35 b a).f1.f0)) := ad 1 _ rfl; have dJ : T.cell? ⟨M, (a : Int).toNat * 6 + 2, none⟩ = some (.bool ((rd_T35 b a).f1.f1)) := ad 2 _ rfl; have dK : T.cell? ⟨M, (a : Int).toNat * 6 + 3, none⟩ = some (.int .i64 ((rd_T35 b a).f1.f2)) := ad 3 _ rfl; have dL : T.cell? ⟨M, (a : Int).toNat * 6 + 4, none⟩ = some (.bool ((rd_T35 b a).f1.f3)) := ad 4 _ rfl; have dM : T.cell? ⟨M, (a : Int).toNat * 6 + 5, none⟩ = some (.int .u8 ((rd_T35 b a).f2)) := ad 5 _ rfl; have dp : T.frozen? ⟨M, (a : Int).toNat * 6, none⟩ = false := ae 0; have dq : T.frozen? ⟨M, (a : Int).toNat * 6 + 1, none⟩ = false := ae 1; have dr : T.frozen? ⟨M, (a : Int).toNat * 6 + 2, none⟩ = false := ae 2; have ds : T.frozen? ⟨M, (a : Int).toNat * 6 + 3, none⟩ = false := ae 3; have dt : T.frozen? ⟨M, (a : Int).toNat * 6 + 4, none⟩ = false := ae 4; have du : T.frozen? ⟨M, (a : Int).toNat * 6 + 5, none⟩ = false := ae 5; clear a4 ad ae aY; replace p8 := eq_true p8; replace q8 := eq_true q8; have aF := Z (show Kd.R k35 35 T w.heap.size (fun _ => True) (.slice (some ⟨M, 0, none⟩) b.length ac) b from (by (with_reducible repeat apply pR); exact i.out)); obtain ⟨dP, au, aG, al, av⟩ := Kd.R_elem aF.out z35 (a : Int) (od_) (by have h_ : (a : Int) < ((b.length : Int) : Int) := od_; first | exact h_ | (have e_ := (Kd.R_reads' i.out).1; omega) | simpa using h_); obtain rfl := k35_openM aG; have aq := Kd.R_seg aF.out (a : Int) (od_) (by have h_ : (a : Int) < ((b.length : Int) : Int) := od_; first | exact h_ | (have e_ := (Kd.R_reads' i.out).1; omega) | simpa using h_) (seg := [.bool true]) (j := 4) au al (show 5 ≤ 6 from by decide) (x' := (⟨(rd_T35 b a).f0, (⟨(rd_T35 b a).f1.f0, (rd_T35 b a).f1.f1, (rd_T35 b a).f1.f2, true⟩ : S33), (rd_T35 b a).f2⟩ : S35)) (k35_mkM _ _ _ (⟨(rd_T35 b a).f0, (⟨(rd_T35 b a).f1.f0, (rd_T35 b a).f1.f1, (rd_T35 b a).f1.f2, true⟩ : S33), (rd_T35 b a).f2⟩ : S35) ) (fun _ hk => hk); have aJ := al 4 _ rfl; (try simp only [show (k35).sz = 6 from rfl, Nat.mul_one, Nat.add_zero] at aJ); have aI := av 4; (try simp only [show (k35).sz = 6 from rfl, Nat.mul_one, Nat.add_zero] at aI); clear au al av aG) | ((with_reducible refine gate_store (t := 4) (p := 19) rfl ?_); refine sx_ 4 19 (T.setCell ⟨M, (a : Int).toNat * 6 + 4, none⟩ (.bool true)) ?_; intro aK hw; have hg : T.grownBy aK (some M) := (by rw [hw]; exact aq.2); have hp_ : Kd.R k35 35 aK w.heap.size (fun _ => True) (.slice (some ⟨M, 0, none⟩) b.length ac) aL := (by rw [hw, aS.out]; exact aq.1); clear aq; replace c := Z (blk_grown (g := U) (o := .cells #[.int .i64 z, .int .i64 A, .slice Q y.length S, .int .i64 B, .bool D, .bool E] 24 (0, 0)) (vK c.out) hg (Kd.R_ne i.out c.out (by decide))); replace d := Z (blk_grown (g := l) (o := .cells #[.int .i64 0, .int .i64 0, .slice none 0 0, .int .i64 0, .bool false, .bool false] 24 (0, 0)) (vK d.out) hg (Kd.R_ne i.out d.out (by decide))); replace u := Z (blk_grown (g := m) (o := .cells #[.int .i64 F, .int .i64 G, .slice (some ⟨M, 0, none⟩) b.length ac, .int .i64 I, .bool J, .bool K] 24 (0, 0)) (vK u.out) hg (Kd.R_ne i.out u.out (by decide))); replace i := Z (hp_); replace HB := Z ((by rw [hw]; exact below_set (HB.out) dm.out : Below w.heap.size w aK)); clear hg hw hp_; obtain ⟨bv, bw, bx, bz, bA, bB, cB, cC, cD, cE, cF, cG⟩ := cells6 u.out; obtain ⟨bC, bD, bE, bF, bG, bH, cH, cI, cJ, cK, cL, cM⟩ := cells6 d.out))
    refine bodyPost_ret (results_cell_row rfl _ _ l 24 #[.int .i64 F, .int .i64 G, .slice (some ⟨M, 0, none⟩) b.length ac, .int .i64 I, .bool J, .bool K] (0, 0) _ rfl (put6 d.out) Tryd.underlying24 rfl (by kernel_rfl)) rfl ?_
    exact ⟨_, er_, by (with_reducible repeat apply pR); exact Kd.R_mono (f6R l (Kd.R_types i.out d.out (by decide)) (fun _ hk => hk.2)) (fun _ hk => trivial), bl_⟩
   ·rw [if_neg c7] at H
    exact absurd H (by simp)
  ·rw [if_neg c6] at H
   exact absurd H (by simp)
 ·rw [if_neg c5] at H
  have a0 : decide (0 ≤ a) = false := decide_eq_false c5
  clear c5
  simp only [Option.some.injEq, Prod.mk.injEq] at H
  obtain ⟨rfl, rfl, rfl, rfl, rfl, rfl⟩ := H
  go_enter Tryd.func37, Tryd.ntmps37
  go_wp2_with (first | ((with_reducible refine gate_dst (N := 2) rfl ?_); refine bx_ 2 24 #[.int .i64 z, .int .i64 A, .slice Q y.length S, .int .i64 B, .bool D, .bool E] ?_; intro U hg dY hbox hb; have c := Z (hbox); have aP := Z (ln_ hg : w.heap.size ≤ U); have aM := Z (ln_ hg : w.heap.size ≤ U); replace HB := Z (below_step bl_ hb); clear hb hbox hg) | ((with_reducible refine gate_dst (N := 4) rfl ?_); refine bx_ 4 24 #[.int .i64 0, .int .i64 0, .slice none 0 0, .int .i64 0, .bool false, .bool false] ?_; intro l hg dZ hbox hb; have d := Z (hbox); have aQ := Z (ln_ hg : w.heap.size ≤ l); have aN := Z (ln_ hg : w.heap.size ≤ l); replace HB := Z (below_step bl_ hb); have V := Z (nl c.out hg); have W := Z (ng c.out hg); replace c := Z (kb c.out hb); clear hb hbox hg; have dy := V.out; have dE := W.out; obtain ⟨bI, bJ, bK, bL, bM, bN, cN, cO, cP, cQ, cR, cS⟩ := cells6 c.out) | ((with_reducible refine gate_callee (f := 23) rfl ?_); refine goesL_ (some 8) rfl rfl Tryd.func23 (by kernel_rfl) rfl #[.agg #[.int .i64 z, .int .i64 A, .slice Q y.length S, .int .i64 B, .bool D, .bool E]] rfl ag_ ?_; (with_reducible refine (shutterref10_Copy.calls z A _ _ y B D E F G b I J K _ ?side1 ?side2 A3.out).mono ?_); (case side1 => repeat (first | exact (Kd.C_below ah.out HB.out) | (with_reducible apply pC))); (case side2 => exact ag.out); rintro e d0 ⟨a6, rfl, am, hb⟩; refine ⟨_, rfl, ?_⟩; have i := Z (Kd.R_lower am (below_size bl_)); replace c := Z (kb c.out hb); replace d := Z (kb d.out hb); replace HB := Z (below_step bl_ hb); (try clear hb); (try clear aH); (try clear hk); (try clear hi); (try clear am)) | ((with_reducible refine gate_dst (N := 5) rfl ?_); refine bx_ 5 24 #[.int .i64 0, .int .i64 0, .slice none 0 0, .int .i64 0, .bool false, .bool false] ?_; intro m hg d1 hbox hb; replace i := Z (rb i.out hb); have u := Z (hbox); have aR := Z (ln_ hg : w.heap.size ≤ m); have aO := Z (ln_ hg : w.heap.size ≤ m); replace HB := Z (below_step bl_ hb); have O := Z (nl c.out hg); have X := Z (ng c.out hg); replace c := Z (kb c.out hb); have P := Z (nl d.out hg); have Y := Z (ng d.out hg); replace d := Z (kb d.out hb); clear hb hbox hg; have dz := X.out; have dF := O.out; have dA := Y.out; have dG := P.out; obtain ⟨bO, bP, bQ, bR, bS, bT, cT, cU, cV, cW, cX, cY⟩ := cells6 u.out; obtain ⟨aj, ak, a3⟩ := Kd.R_slice i.out; subst a3; obtain ⟨bU, bV, bW, bX, bY, bZ, cZ, c0, c1, c2, c3, c4⟩ := cells6 c.out) | ((with_reducible refine gate_callee (f := 21) rfl ?_); refine goesL_ (some 11) rfl rfl Tryd.func21 (by kernel_rfl) rfl #[.agg #[.int .i64 z, .int .i64 A, .slice Q y.length S, .int .i64 B, .bool D, .bool E], .int .i64 a1] rfl ag_ ?_; (with_reducible refine (shutterref11_Begin.calls k z A _ _ y B D E a1 a _ ?side1 ?side2 A4.out).mono ?_); (case side1 => exact Kd.C_below ah.out bl_); (case side2 => exact ag.out); rintro e d2 ⟨rfl, hb⟩; refine ⟨_, rfl, ?_⟩; replace i := Z (Kd.R_below (by (with_reducible repeat apply pR); exact (Kd.R_mono (f6R m (Kd.R_types i.out u.out (by decide)) (fun _ hk => hk.2)) (fun _ h_ => h_.1))) hb); replace c := Z (blk_below (g := U) (o := .cells #[.int .i64 z, .int .i64 A, .slice Q y.length S, .int .i64 B, .bool D, .bool E] 24 (0, 0)) (blk_off c.out O.out off2_) hb); replace d := Z (blk_below (g := l) (o := .cells #[.int .i64 0, .int .i64 0, .slice none 0 0, .int .i64 0, .bool false, .bool false] 24 (0, 0)) (blk_off d.out P.out off2_) hb); replace u := Z (blk_below (g := m) (o := .cells #[.int .i64 F, .int .i64 G, .slice aj b.length ak, .int .i64 I, .bool J, .bool K] 24 (0, 0)) (put6 u.out) hb); replace HB := Z (below_step bl_ hb); (try clear hb); (try clear aH); (try clear hk); (try clear hi); obtain ⟨b0, b1, b2, b3, b4, b5, c8, c9, da, db, dc, dd⟩ := cells6 u.out; obtain ⟨b6, b7, b8, b9, ca, cb, de, df, dg, dh, di, dj⟩ := cells6 d.out))
  refine bodyPost_ret (results_cell_row rfl _ _ l 24 #[.int .i64 F, .int .i64 G, .slice aj b.length ak, .int .i64 I, .bool J, .bool K] (0, 0) _ rfl (put6 d.out) Tryd.underlying24 rfl (by kernel_rfl)) rfl ?_
  exact ⟨_, er_, by (with_reducible repeat apply pR); exact Kd.R_mono (f6R l (Kd.R_types i.out d.out (by decide)) (fun _ hk => hk.2)) (fun _ hk => trivial), bl_⟩

/-! ### shutterref14_Digit: function 39 -/
def shutterref14_Digit.f (a0 : Int) : Option (Bool) := if a0 ≥ 240 then (if a0 ≤ 249 then (some true) else (if a0 = 96 then (some true) else (some (a0 == 75)))) else (if a0 = 96 then (some true) else (some (a0 == 75)))
set_option maxHeartbeats 8000000 in
set_option maxRecDepth 100000 in
theorem shutterref14_Digit.calls (a0 : Int) (r : Bool) (w : World) (h : shutterref14_Digit.f a0 = some r) :
  Calls Tryd.prog 39 #[.int .u8 a0] w fun e w' => e = .returned (.bool r) ∧ Drawn0 w w' := by
 have H : (if a0 ≥ 240 then (if a0 ≤ 249 then (some true) else (if a0 = 96 then (some true) else (some (a0 == 75)))) else (if a0 = 96 then (some true) else (some (a0 == 75)))) = some r := h
 clear h
 by_cases c2 : a0 ≥ 240
 ·rw [if_pos c2] at H
  have a : decide (240 ≤ a0) = true := decide_eq_true c2
  clear c2
  by_cases c3 : a0 ≤ 249
  ·rw [if_pos c3] at H
   have b : decide (a0 ≤ 249) = true := decide_eq_true c3
   clear c3
   obtain rfl := Option.some.inj H
   go_enter Tryd.func39, Tryd.ntmps39
   go_wp2
   go_ret
   exact ⟨dn_, dr_⟩
  ·rw [if_neg c3] at H
   have b : decide (a0 ≤ 249) = false := decide_eq_false c3
   clear c3
   by_cases c4 : a0 = 96
   ·rw [if_pos c4] at H
    have c : (a0 == 96) = true := beq_iff_eq.mpr c4
    have d : (a0 != 96) = false := bne_eq_false_iff_eq.mpr c4
    clear c4
    obtain rfl := Option.some.inj H
    go_enter Tryd.func39, Tryd.ntmps39
    go_wp2
    go_ret
    exact ⟨dn_, dr_⟩
   ·rw [if_neg c4] at H
    have c : (a0 == 96) = false := beq_eq_false_iff_ne.mpr c4
    have d : (a0 != 96) = true := bne_iff_ne.mpr c4
    obtain rfl := Option.some.inj H
    go_enter Tryd.func39, Tryd.ntmps39
    go_wp2
    go_ret
    exact ⟨dn_, dr_⟩
 ·rw [if_neg c2] at H
  have a : decide (240 ≤ a0) = false := decide_eq_false c2
  clear c2
  by_cases c5 : a0 = 96
  ·rw [if_pos c5] at H
   have g : (a0 == 96) = true := beq_iff_eq.mpr c5
   have i : (a0 != 96) = false := bne_eq_false_iff_eq.mpr c5
   clear c5
   obtain rfl := Option.some.inj H
   go_enter Tryd.func39, Tryd.ntmps39
   go_wp2
   go_ret
   exact ⟨dn_, dr_⟩
  ·rw [if_neg c5] at H
   have g : (a0 == 96) = false := beq_eq_false_iff_ne.mpr c5
   have i : (a0 != 96) = true := bne_iff_ne.mpr c5
   obtain rfl := Option.some.inj H
   go_enter Tryd.func39, Tryd.ntmps39
   go_wp2
   go_ret
   exact ⟨dn_, dr_⟩

/-! ### shutterref14_Deny: function 40 -/
def shutterref14_Deny.f (b : Int) (c : Int) (h : List (S35)) (d : Int) (e : Bool) (g : Bool) : Option (Int × Int × (List (S35)) × Int × Bool × Bool) := (shutterref10_Copy.f b c h d e g).bind fun a => (some (a.1, a.2.1, a.2.2.1, a.2.2.2.1, true, a.2.2.2.2.2))
set_option maxHeartbeats 8000000 in
set_option maxRecDepth 100000 in
theorem shutterref14_Deny.calls (E : Int) (F : Int) (M : Option Addr) (O : Nat) (z : List (S35)) (G : Int) (I : Bool) (J : Bool) (r1 : Int) (r2 : Int) (r3 : List (S35)) (r4 : Int) (r5 : Bool) (r6 : Bool) (w : World) (aa : Kd.C k35 w M z.length z) (Y : z.length ≤ O) (h : shutterref14_Deny.f E F z G I J = some (r1, r2, r3, r4, r5, r6)) :
  Calls Tryd.prog 40 #[.agg #[.int .i64 E, .int .i64 F, .slice M z.length O, .int .i64 G, .bool I, .bool J]] w fun e w' => ∃ ap : Value, e = .returned (.agg #[.int .i64 r1, .int .i64 r2, ap, .int .i64 r4, .bool r5, .bool r6]) ∧ Kd.R k35 35 w' w.heap.size (fun _ => True) ap r3 ∧ Below w.heap.size w w' := by
 have bs := Tryd.underlying24
 have ad := Z aa
 have ac := Z Y
 clear aa Y
 have HB := Z (Below.refl w.heap.size w)
 have H : ((shutterref10_Copy.f E F z G I J).bind fun L => (some (L.1, L.2.1, L.2.2.1, L.2.2.2.1, true, L.2.2.2.2.2))) = some (r1, r2, r3, r4, r5, r6) := h
 clear h
 replace H := Option.bind_eq_some_iff.mp H
 obtain ⟨⟨k, m, i, y, S, A⟩, ak, H⟩ := H
 replace H : (some (k, m, i, y, true, A)) = some (r1, r2, r3, r4, r5, r6) := H
 have A2 := Z ak
 clear ak
 simp only [Option.some.injEq, Prod.mk.injEq] at H
 obtain ⟨rfl, rfl, rfl, rfl, rfl, rfl⟩ := H
 go_enter Tryd.func40, Tryd.ntmps40
 go_wp2_with (first | ((with_reducible refine gate_dst (N := 1) rfl ?_); refine bx_ 1 24 #[.int .i64 E, .int .i64 F, .slice M z.length O, .int .i64 G, .bool I, .bool J] ?_; intro P hg w3 hbox hb; have a := Z (hbox); have bi := Z (ln_ hg : w.heap.size ≤ P); have bf := Z (ln_ hg : w.heap.size ≤ P); replace HB := Z (below_step bl_ hb); clear hb hbox hg) | ((with_reducible refine gate_dst (N := 2) rfl ?_); refine bx_ 2 24 #[.int .i64 0, .int .i64 0, .slice none 0 0, .int .i64 0, .bool false, .bool false] ?_; intro c hg w4 hbox hb; have b := Z (hbox); have bj := Z (ln_ hg : w.heap.size ≤ c); have bg := Z (ln_ hg : w.heap.size ≤ c); replace HB := Z (below_step bl_ hb); have d := Z (nl a.out hg); have T := Z (ng a.out hg); replace a := Z (kb a.out hb); clear hb hbox hg; have bo := d.out; have bq := T.out; obtain ⟨a3, a4, a5, a6, a7, a8, a9, ba, bb, bc, bd, be⟩ := cells6 a.out) | ((with_reducible refine gate_callee (f := 23) rfl ?_); refine goesL_ (some 5) rfl rfl Tryd.func23 (by kernel_rfl) rfl #[.agg #[.int .i64 E, .int .i64 F, .slice M z.length O, .int .i64 G, .bool I, .bool J]] rfl ag_ ?_; (with_reducible refine (shutterref10_Copy.calls E F _ _ z G I J k m i y S A _ ?side1 ?side2 A2.out).mono ?_); (case side1 => repeat (first | exact (Kd.C_below ad.out HB.out) | (with_reducible apply pC))); (case side2 => exact ac.out); rintro e w7 ⟨bt, rfl, al, hb⟩; refine ⟨_, rfl, ?_⟩; have l := Z (Kd.R_lower al (below_size bl_)); replace a := Z (kb a.out hb); replace b := Z (kb b.out hb); replace HB := Z (below_step bl_ hb); (try clear hb); (try clear bv); (try clear hk); (try clear hi); (try clear al)) | ((with_reducible refine gate_dst (N := 3) rfl ?_); refine bx_ 3 24 #[.int .i64 0, .int .i64 0, .slice none 0 0, .int .i64 0, .bool false, .bool false] ?_; intro j hg w8 hbox hb; replace l := Z (rb l.out hb); have q := Z (hbox); have bk := Z (ln_ hg : w.heap.size ≤ j); have bh := Z (ln_ hg : w.heap.size ≤ j); replace HB := Z (below_step bl_ hb); have B := Z (nl a.out hg); have U := Z (ng a.out hg); replace a := Z (kb a.out hb); have D := Z (nl b.out hg); have g := Z (ng b.out hg); replace b := Z (kb b.out hb); clear hb hbox hg; have bp := U.out; have br := B.out; have bl := g.out; have bm := D.out; obtain ⟨ar, au, av, aw, ax, ay, aL, aM, aN, aO, aP, aQ⟩ := cells6 q.out; obtain ⟨n, o, aq⟩ := Kd.R_slice l.out; subst aq) | ((with_reducible refine gate_store (t := 24) (p := 3) rfl ?_); refine sx_ 24 3 ((((((w8.setCell ⟨j, 0, none⟩ (.int .i64 k)).setCell ⟨j, 1, none⟩ (.int .i64 m)).setCell ⟨j, 2, none⟩ (.slice n i.length o)).setCell ⟨j, 3, none⟩ (.int .i64 y)).setCell ⟨j, 4, none⟩ (.bool S)).setCell ⟨j, 5, none⟩ (.bool A)) ?_; intro Q hw; replace l : Aside0 (Kd.R k35 35 Q w.heap.size (fun _ => True) (.slice n i.length o) i) := ⟨(by rw [hw]; exact (by (with_reducible repeat apply pR); exact R_off l.out q.out (by decide) off2_))⟩; replace a := Z (sM hw (blk_off a.out B.out off2_)); replace b := Z (sM hw (blk_off b.out D.out off2_)); replace q : Aside0 (Q.heap[j]? = some (.cells #[.int .i64 k, .int .i64 m, .slice n i.length o, .int .i64 y, .bool S, .bool A] 24 (0, 0))) := ⟨by rw [hw]; exact (put6 q.out)⟩; replace HB : Aside0 (Below w.heap.size w Q) := ⟨by rw [hw]; exact bl_⟩; clear hw; obtain ⟨az, aA, aB, aC, aD, aE, aR, aS, aT, aU, aV, aW⟩ := cells6 q.out; obtain ⟨aF, aG, aH, aI, aJ, aK, aX, aY, aZ, a0, a1, a2⟩ := cells6 b.out) | ((with_reducible refine gate_store (t := 24) (p := 2) rfl ?_); refine sx_ 24 2 (((((((Q.setCell ⟨j, 4, none⟩ (.bool true)).setCell ⟨c, 0, none⟩ (.int .i64 k)).setCell ⟨c, 1, none⟩ (.int .i64 m)).setCell ⟨c, 2, none⟩ (.slice n i.length o)).setCell ⟨c, 3, none⟩ (.int .i64 y)).setCell ⟨c, 4, none⟩ (.bool true)).setCell ⟨c, 5, none⟩ (.bool A)) ?_; intro X hw; replace l : Aside0 (Kd.R k35 35 X w.heap.size (fun _ => True) (.slice n i.length o) i) := ⟨(by rw [hw]; exact (by (with_reducible repeat apply pR); exact Kd.R_mono (f6R c (Kd.R_far (p := ⟨j, 4, none⟩) (Kd.R_types (Kd.R_types l.out q.out (by decide)) b.out (by decide)) (fun _ hk => hk.1.2) (.bool true)) (fun _ hk => hk.2)) (fun _ hk => trivial)))⟩; replace a : Aside0 (X.heap[P]? = some (.cells #[.int .i64 E, .int .i64 F, .slice M z.length O, .int .i64 G, .bool I, .bool J] 24 (0, 0))) := ⟨(by rw [hw]; exact (by (with_reducible repeat apply pK); refine blk_far ?_ d.out _; (with_reducible repeat apply pK); refine blk_far ?_ d.out _; (with_reducible repeat apply pK); refine blk_far ?_ d.out _; (with_reducible repeat apply pK); refine blk_far ?_ d.out _; (with_reducible repeat apply pK); refine blk_far ?_ d.out _; (with_reducible repeat apply pK); refine blk_far ?_ d.out _; (with_reducible repeat apply pK); refine blk_far ?_ B.out _; (with_reducible repeat apply pK); exact a.out))⟩; replace b : Aside0 (X.heap[c]? = some (.cells #[.int .i64 k, .int .i64 m, .slice n i.length o, .int .i64 y, .bool true, .bool A] 24 (0, 0))) := ⟨(by rw [hw]; exact (by (with_reducible repeat apply pK); refine blk_put (cs := #[.int .i64 k, .int .i64 m, .slice n i.length o, .int .i64 y, .bool true, .bool false]) ?_ 5 _ rfl; (with_reducible repeat apply pK); refine blk_put (cs := #[.int .i64 k, .int .i64 m, .slice n i.length o, .int .i64 y, .bool false, .bool false]) ?_ 4 _ rfl; (with_reducible repeat apply pK); refine blk_put (cs := #[.int .i64 k, .int .i64 m, .slice n i.length o, .int .i64 0, .bool false, .bool false]) ?_ 3 _ rfl; (with_reducible repeat apply pK); refine blk_put (cs := #[.int .i64 k, .int .i64 m, .slice none 0 0, .int .i64 0, .bool false, .bool false]) ?_ 2 _ rfl; (with_reducible repeat apply pK); refine blk_put (cs := #[.int .i64 k, .int .i64 0, .slice none 0 0, .int .i64 0, .bool false, .bool false]) ?_ 1 _ rfl; (with_reducible repeat apply pK); refine blk_put (cs := #[.int .i64 0, .int .i64 0, .slice none 0 0, .int .i64 0, .bool false, .bool false]) ?_ 0 _ rfl; (with_reducible repeat apply pK); refine blk_far ?_ D.out _; (with_reducible repeat apply pK); exact b.out))⟩; replace q : Aside0 (X.heap[j]? = some (.cells #[.int .i64 k, .int .i64 m, .slice n i.length o, .int .i64 y, .bool true, .bool A] 24 (0, 0))) := ⟨(by rw [hw]; exact (by (with_reducible repeat apply pK); refine blk_far ?_ g.out _; (with_reducible repeat apply pK); refine blk_far ?_ g.out _; (with_reducible repeat apply pK); refine blk_far ?_ g.out _; (with_reducible repeat apply pK); refine blk_far ?_ g.out _; (with_reducible repeat apply pK); refine blk_far ?_ g.out _; (with_reducible repeat apply pK); refine blk_far ?_ g.out _; (with_reducible repeat apply pK); refine blk_put (cs := #[.int .i64 k, .int .i64 m, .slice n i.length o, .int .i64 y, .bool S, .bool A]) ?_ 4 _ rfl; (with_reducible repeat apply pK); exact q.out))⟩; replace HB : Aside0 (Below w.heap.size w X) := ⟨by rw [hw]; exact bl_⟩; clear hw))
 refine bodyPost_ret (results_cell_row rfl _ _ c 24 #[.int .i64 k, .int .i64 m, .slice n i.length o, .int .i64 y, .bool true, .bool A] (0, 0) _ rfl (vK b.out) Tryd.underlying24 rfl (by kernel_rfl)) rfl ?_
 exact ⟨_, er_, by (with_reducible repeat apply pR); exact l.out, bl_⟩

/-! ### shutterref09_Letter: function 58 -/
def shutterref09_Letter.f (a0 : Int) : Option (Bool) := if a0 = 0 then (some false) else ((shutterref05_Char.f a0).bind fun a => (some a))
set_option maxHeartbeats 8000000 in
set_option maxRecDepth 100000 in
theorem shutterref09_Letter.calls (a0 : Int) (r : Bool) (w : World) (h : shutterref09_Letter.f a0 = some r) :
  Calls Tryd.prog 58 #[.int .u8 a0] w fun e w' => e = .returned (.bool r) ∧ Drawn0 w w' := by
 have H : (if a0 = 0 then (some false) else ((shutterref05_Char.f a0).bind fun a => (some a))) = some r := h
 clear h
 by_cases c2 : a0 = 0
 ·rw [if_pos c2] at H
  have c : (a0 == 0) = true := beq_iff_eq.mpr c2
  have d : (a0 != 0) = false := bne_eq_false_iff_eq.mpr c2
  clear c2
  obtain rfl := Option.some.inj H
  go_enter Tryd.func58, Tryd.ntmps58
  go_wp2
  go_ret
  exact ⟨dn_, dr_⟩
 ·rw [if_neg c2] at H
  have c : (a0 == 0) = false := beq_eq_false_iff_ne.mpr c2
  have d : (a0 != 0) = true := bne_iff_ne.mpr c2
  replace H := Option.bind_eq_some_iff.mp H
  obtain ⟨a, b, H⟩ := H
  replace H : (some a) = some r := H
  have g := Z b
  clear b
  obtain rfl := Option.some.inj H
  go_enter Tryd.func58, Tryd.ntmps58
  go_wp2_with (first | (go_at_call 70; (with_reducible refine (shutterref05_Char.calls a0 a _ g.out).mono ?_); rintro e w' ⟨rfl, ⟨nd, rfl⟩⟩))
  go_ret
  exact ⟨dn_, dr_⟩

/-! ### shutterref10_Next: function 59 -/
def shutterref10_Next.f (b : Int) (c : Int) (a : List (S35)) (d : Int) (e : Bool) (g : Bool) (a1 : Int) : Option (Int) := if (wrap64 (a1 + 1)) = (a.length : Int) then (some 0) else (some (wrap64 (a1 + 1)))
set_option maxHeartbeats 8000000 in
set_option maxRecDepth 100000 in
theorem shutterref10_Next.calls (g : Int) (i : Int) (c : Option Addr) (m : Nat) (a : List (S35)) (j : Int) (k : Bool) (l : Bool) (a1 : Int) (r : Int) (w : World) (u : Kd.C k35 w c a.length a) (s : a.length ≤ m) (h : shutterref10_Next.f g i a j k l a1 = some r) :
  Calls Tryd.prog 59 #[.agg #[.int .i64 g, .int .i64 i, .slice c a.length m, .int .i64 j, .bool k, .bool l], .int .i64 a1] w fun e w' => e = .returned (.int .i64 r) ∧ Below w.heap.size w w' := by
 have ae := Tryd.underlying24
 have ad := Z u
 have ac := Z s
 clear u s
 have HB := Z (Below.refl w.heap.size w)
 have H : (if (wrap64 (a1 + 1)) = (a.length : Int) then (some 0) else (some (wrap64 (a1 + 1)))) = some r := h
 clear h
 by_cases c3 : (wrap64 (a1 + 1)) = (a.length : Int)
 ·rw [if_pos c3] at H
  have y : ((wrap64 (a1 + 1)) == (a.length : Int)) = true := beq_iff_eq.mpr c3
  have z : ((wrap64 (a1 + 1)) != (a.length : Int)) = false := bne_eq_false_iff_eq.mpr c3
  clear c3
  obtain rfl := Option.some.inj H
  go_enter Tryd.func59, Tryd.ntmps59
  go_wp2_with (first | ((with_reducible refine gate_dst (N := 2) rfl ?_); refine bx_ 2 24 #[.int .i64 g, .int .i64 i, .slice c a.length m, .int .i64 j, .bool k, .bool l] ?_; intro b hg w4 hbox hb; have d := Z (hbox); have x := Z (ln_ hg : w.heap.size ≤ b); have v := Z (ln_ hg : w.heap.size ≤ b); replace HB := Z (below_step bl_ hb); clear hb hbox hg; obtain ⟨A, B, D, E, F, G, P, Q, R, S, T, U⟩ := cells6 d.out))
  go_ret
  exact ⟨er_, bl_⟩
 ·rw [if_neg c3] at H
  have y : ((wrap64 (a1 + 1)) == (a.length : Int)) = false := beq_eq_false_iff_ne.mpr c3
  have z : ((wrap64 (a1 + 1)) != (a.length : Int)) = true := bne_iff_ne.mpr c3
  obtain rfl := Option.some.inj H
  go_enter Tryd.func59, Tryd.ntmps59
  go_wp2_with (first | ((with_reducible refine gate_dst (N := 2) rfl ?_); refine bx_ 2 24 #[.int .i64 g, .int .i64 i, .slice c a.length m, .int .i64 j, .bool k, .bool l] ?_; intro b hg w6 hbox hb; have d := Z (hbox); have x := Z (ln_ hg : w.heap.size ≤ b); have v := Z (ln_ hg : w.heap.size ≤ b); replace HB := Z (below_step bl_ hb); clear hb hbox hg; obtain ⟨I, J, K, L, M, O, V, W, X, Y, aa, ab⟩ := cells6 d.out))
  go_ret
  exact ⟨er_, bl_⟩

/-! ### shutterref11_first: function 81 -/
def shutterref11_first.f (k : Nat) (c : Int) (d : Int) (a : List (S35)) (e : Int) (g : Bool) (h : Bool) (a1 : Int) : Option (Int) := (shutterref11_mod.f k (wrap64 (a1 + 1)) (a.length : Int)).bind fun b => (if 0 ≤ a1 then (if a1 < (a.length : Int) then (if (rd_T35 a a1).f0 = true then (if ((rd_T35 a a1).f1.f0 = true) then (some (-1)) else (if 0 ≤ b then (if b < (a.length : Int) then (if ((rd_T35 a b).f0 = true) then (some (-1)) else (some b)) else (none)) else (none))) else (some (-1))) else (none)) else (none))
theorem shutterref11_first.mono : ∀ a0 a1 a b a4 c d k, LeO (shutterref11_first.f k a0 a1 a b a4 c d) (shutterref11_first.f (k + 1) a0 a1 a b a4 c d) := by
 intro a0 a1 a b a4 c d k
 unfold shutterref11_first.f
 repeat' first
   | (with_reducible exact shutterref11_mod.mono _ _ _)
   | (with_reducible exact LeO.refl _)
   | (with_reducible exact LeO.none _)
   | (with_reducible refine LeO.ite ?_ ?_)
   | (with_reducible refine LeO.bind ?_ (fun _ => ?_))
   | exact shutterref11_mod.mono _ _ _
   | exact LeO.none _
   | refine LeO.ite ?_ ?_
   | refine LeO.bind ?_ (fun _ => ?_)
set_option maxHeartbeats 8000000 in
set_option maxRecDepth 100000 in
theorem shutterref11_first.calls (k : Nat) (Y : Int) (aa : Int) (X : Option Addr) (ae : Nat) (a : List (S35)) (ab : Int) (ac : Bool) (ad : Bool) (a1 : Int) (r : Int) (w : World) (ar : Kd.C k35 w X a.length a) (aq : a.length ≤ ae) (h : shutterref11_first.f k Y aa a ab ac ad a1 = some r) :
  Calls Tryd.prog 81 #[.agg #[.int .i64 Y, .int .i64 aa, .slice X a.length ae, .int .i64 ab, .bool ac, .bool ad], .int .i64 a1] w fun e w' => e = .returned (.int .i64 r) ∧ Below w.heap.size w w' := by
 have br := Tryd.underlying24
 have J := Z ar
 have bm := Z aq
 clear ar aq
 have HB := Z (Below.refl w.heap.size w)
 have H : ((shutterref11_mod.f k (wrap64 (a1 + 1)) (a.length : Int)).bind fun i => (if 0 ≤ a1 then (if a1 < (a.length : Int) then (if (rd_T35 a a1).f0 = true then (if ((rd_T35 a a1).f1.f0 = true) then (some (-1)) else (if 0 ≤ i then (if i < (a.length : Int) then (if ((rd_T35 a i).f0 = true) then (some (-1)) else (some i)) else (none)) else (none))) else (some (-1))) else (none)) else (none))) = some r := h
 clear h
 replace H := Option.bind_eq_some_iff.mp H
 obtain ⟨i, aw, H⟩ := H
 replace H : (if 0 ≤ a1 then (if a1 < (a.length : Int) then (if (rd_T35 a a1).f0 = true then (if ((rd_T35 a a1).f1.f0 = true) then (some (-1)) else (if 0 ≤ i then (if i < (a.length : Int) then (if ((rd_T35 a i).f0 = true) then (some (-1)) else (some i)) else (none)) else (none))) else (some (-1))) else (none)) else (none)) = some r := H
 have A3 := Z aw
 clear aw
 by_cases c4 : 0 ≤ a1
 ·rw [if_pos c4] at H
  have bp : decide (0 ≤ a1) = true := decide_eq_true c4
  clear c4
  by_cases c5 : a1 < (a.length : Int)
  ·rw [if_pos c5] at H
   have bq : decide (a1 < (a.length : Int)) = true := decide_eq_true c5
   clear c5
   obtain ⟨ax, al⟩ : ∃ b_ : Bool, b_ = ((rd_T35 a a1).f0) := ⟨_, rfl⟩
   replace H : (if ax = true then (if ((rd_T35 a a1).f1.f0 = true) then (some (-1)) else (if 0 ≤ i then (if i < (a.length : Int) then (if ((rd_T35 a i).f0 = true) then (some (-1)) else (some i)) else (none)) else (none))) else (some (-1))) = some r := by rw [← al] at H; exact H
   have j := Z al
   clear al
   by_cases c7 : ax = true
   ·subst c7
    have H1 : (if ((rd_T35 a a1).f1.f0 = true) then (some (-1)) else (if 0 ≤ i then (if i < (a.length : Int) then (if ((rd_T35 a i).f0 = true) then (some (-1)) else (some i)) else (none)) else (none))) = some r := by rw [if_pos rfl] at H; exact H
    clear H
    have H := H1
    clear H1
    obtain ⟨ay, am⟩ : ∃ b_ : Bool, b_ = ((rd_T35 a a1).f1.f0) := ⟨_, rfl⟩
    replace H : (if (ay = true) then (some (-1)) else (if 0 ≤ i then (if i < (a.length : Int) then (if ((rd_T35 a i).f0 = true) then (some (-1)) else (some i)) else (none)) else (none))) = some r := by rw [← am] at H; exact H
    have p := Z am
    clear am
    by_cases c9 : (ay = true)
    ·subst c9
     have H1 : (some (-1)) = some r := by rw [if_pos rfl] at H; exact H
     clear H
     have H := H1
     clear H1
     obtain rfl := Option.some.inj H
     go_enter Tryd.func81, Tryd.ntmps81
     go_wp2_with (first | ((with_reducible refine gate_dst (N := 2) rfl ?_); refine bx_ 2 24 #[.int .i64 Y, .int .i64 aa, .slice X a.length ae, .int .i64 ab, .bool ac, .bool ad] ?_; intro F hg bs hbox hb; have O := Z (hbox); have ah := Z (ln_ hg : w.heap.size ≤ F); have ag := Z (ln_ hg : w.heap.size ≤ F); replace HB := Z (below_step bl_ hb); clear hb hbox hg; obtain ⟨az, aA, aB, aC, aD, aE, aX, aY, aZ, a0, a2, a3⟩ := cells6 O.out) | ((with_reducible refine gate_callee (f := 47) rfl ?_); refine goesL_ (some 11) rfl rfl Tryd.func47 (by kernel_rfl) rfl #[.int .i64 (wrap64 (a1 + 1)), .int .i64 (a.length : Int)] rfl ag_ ?_; (with_reducible refine (shutterref11_mod.calls k (wrap64 (a1 + 1)) (a.length : Int) i _ A3.out).mono ?_); rintro e w' ⟨rfl, ⟨nd, rfl⟩⟩; refine ⟨_, rfl, ?_⟩; have D : 0 ≤ (a1 : Int) := od_; have E : a1 < (a.length : Int) := od_; obtain ⟨M, T, b, c, d, s, g, u⟩ := at_T35 J.out a1 D E; (try rw [← j.out] at b); (try rw [← p.out] at b); (try rw [← j.out] at c); (try rw [← p.out] at c); (try rw [← j.out] at d); (try rw [← p.out] at d); (try rw [← j.out] at g); (try rw [← p.out] at g); cases T; replace b := (HB.out.cell (bk_ w _ b)).trans b; replace c := (HB.out.cell (bk_ w _ c)).trans c; replace d := (HB.out.cell (bk_ w _ d)).trans d; replace s := (HB.out.cell (bk_ w _ s)).trans s; replace g := (HB.out.cell (bk_ w _ g)).trans g; replace u := (HB.out.cell (bk_ w _ u)).trans u; replace D := eq_true D; replace E := eq_true E; have K : 0 ≤ (a1 : Int) := od_; have L : a1 < (a.length : Int) := od_; obtain ⟨W, af, l, m, n, A, o, B⟩ := at_T35 J.out a1 K L; (try rw [← j.out] at l); (try rw [← p.out] at l); (try rw [← j.out] at m); (try rw [← p.out] at m); (try rw [← j.out] at n); (try rw [← p.out] at n); (try rw [← j.out] at o); (try rw [← p.out] at o); obtain rfl : M = W := (by injection af); replace l := (HB.out.cell (bk_ w _ l)).trans l; replace m := (HB.out.cell (bk_ w _ m)).trans m; replace n := (HB.out.cell (bk_ w _ n)).trans n; replace A := (HB.out.cell (bk_ w _ A)).trans A; replace o := (HB.out.cell (bk_ w _ o)).trans o; replace B := (HB.out.cell (bk_ w _ B)).trans B; replace K := eq_true K; replace L := eq_true L))
     go_ret
     exact ⟨er_, bl_⟩
    ·replace c9 := Bool.eq_false_iff.mpr c9
     subst c9
     have H1 : (if 0 ≤ i then (if i < (a.length : Int) then (if ((rd_T35 a i).f0 = true) then (some (-1)) else (some i)) else (none)) else (none)) = some r := by rw [if_neg (show ¬ (false = true) by decide)] at H; exact H
     clear H
     have H := H1
     clear H1
     by_cases an : 0 ≤ i
     ·rw [if_pos an] at H
      have bn : decide (0 ≤ i) = true := decide_eq_true an
      clear an
      by_cases ao : i < (a.length : Int)
      ·rw [if_pos ao] at H
       have bo : decide (i < (a.length : Int)) = true := decide_eq_true ao
       clear ao
       obtain ⟨au, aj⟩ : ∃ b_ : Bool, b_ = ((rd_T35 a i).f0) := ⟨_, rfl⟩
       replace H : (if (au = true) then (some (-1)) else (some i)) = some r := by rw [← aj] at H; exact H
       have q := Z aj
       clear aj
       by_cases ap : (au = true)
       ·subst ap
        have H1 : (some (-1)) = some r := by rw [if_pos rfl] at H; exact H
        clear H
        have H := H1
        clear H1
        obtain rfl := Option.some.inj H
        go_enter Tryd.func81, Tryd.ntmps81
        go_wp2_with (first | ((with_reducible refine gate_dst (N := 2) rfl ?_); refine bx_ 2 24 #[.int .i64 Y, .int .i64 aa, .slice X a.length ae, .int .i64 ab, .bool ac, .bool ad] ?_; intro F hg bt hbox hb; have O := Z (hbox); have ah := Z (ln_ hg : w.heap.size ≤ F); have ag := Z (ln_ hg : w.heap.size ≤ F); replace HB := Z (below_step bl_ hb); clear hb hbox hg; obtain ⟨aF, aG, aH, aI, aJ, aK, a4, a5, a6, a7, a8, a9⟩ := cells6 O.out) | ((with_reducible refine gate_callee (f := 47) rfl ?_); refine goesL_ (some 11) rfl rfl Tryd.func47 (by kernel_rfl) rfl #[.int .i64 (wrap64 (a1 + 1)), .int .i64 (a.length : Int)] rfl ag_ ?_; (with_reducible refine (shutterref11_mod.calls k (wrap64 (a1 + 1)) (a.length : Int) i _ A3.out).mono ?_); rintro e w' ⟨rfl, ⟨nd, rfl⟩⟩; refine ⟨_, rfl, ?_⟩; have D : 0 ≤ (a1 : Int) := od_; have E : a1 < (a.length : Int) := od_; obtain ⟨M, T, b, c, d, s, g, u⟩ := at_T35 J.out a1 D E; (try rw [← j.out] at b); (try rw [← p.out] at b); (try rw [← q.out] at b); (try rw [← j.out] at c); (try rw [← p.out] at c); (try rw [← q.out] at c); (try rw [← j.out] at d); (try rw [← p.out] at d); (try rw [← q.out] at d); (try rw [← j.out] at g); (try rw [← p.out] at g); (try rw [← q.out] at g); cases T; replace b := (HB.out.cell (bk_ w _ b)).trans b; replace c := (HB.out.cell (bk_ w _ c)).trans c; replace d := (HB.out.cell (bk_ w _ d)).trans d; replace s := (HB.out.cell (bk_ w _ s)).trans s; replace g := (HB.out.cell (bk_ w _ g)).trans g; replace u := (HB.out.cell (bk_ w _ u)).trans u; replace D := eq_true D; replace E := eq_true E; have K : 0 ≤ (a1 : Int) := od_; have L : a1 < (a.length : Int) := od_; obtain ⟨W, af, l, m, n, A, o, B⟩ := at_T35 J.out a1 K L; (try rw [← j.out] at l); (try rw [← p.out] at l); (try rw [← q.out] at l); (try rw [← j.out] at m); (try rw [← p.out] at m); (try rw [← q.out] at m); (try rw [← j.out] at n); (try rw [← p.out] at n); (try rw [← q.out] at n); (try rw [← j.out] at o); (try rw [← p.out] at o); (try rw [← q.out] at o); obtain rfl : M = W := (by injection af); replace l := (HB.out.cell (bk_ w _ l)).trans l; replace m := (HB.out.cell (bk_ w _ m)).trans m; replace n := (HB.out.cell (bk_ w _ n)).trans n; replace A := (HB.out.cell (bk_ w _ A)).trans A; replace o := (HB.out.cell (bk_ w _ o)).trans o; replace B := (HB.out.cell (bk_ w _ B)).trans B; replace K := eq_true K; replace L := eq_true L; have U : 0 ≤ (i : Int) := od_; have V : i < (a.length : Int) := od_; obtain ⟨ai, ak, v, x, y, G, z, I⟩ := at_T35 J.out i U V; (try rw [← j.out] at v); (try rw [← p.out] at v); (try rw [← q.out] at v); (try rw [← j.out] at x); (try rw [← p.out] at x); (try rw [← q.out] at x); (try rw [← j.out] at y); (try rw [← p.out] at y); (try rw [← q.out] at y); (try rw [← j.out] at z); (try rw [← p.out] at z); (try rw [← q.out] at z); obtain rfl : M = ai := (by injection ak); replace v := (HB.out.cell (bk_ w _ v)).trans v; replace x := (HB.out.cell (bk_ w _ x)).trans x; replace y := (HB.out.cell (bk_ w _ y)).trans y; replace G := (HB.out.cell (bk_ w _ G)).trans G; replace z := (HB.out.cell (bk_ w _ z)).trans z; replace I := (HB.out.cell (bk_ w _ I)).trans I; replace U := eq_true U; replace V := eq_true V))
        go_ret
        exact ⟨er_, bl_⟩
       ·replace ap := Bool.eq_false_iff.mpr ap
        subst ap
        have H1 : (some i) = some r := by rw [if_neg (show ¬ (false = true) by decide)] at H; exact H
        clear H
        have H := H1
        clear H1
        obtain rfl := Option.some.inj H
        go_enter Tryd.func81, Tryd.ntmps81
        go_wp2_with (first | ((with_reducible refine gate_dst (N := 2) rfl ?_); refine bx_ 2 24 #[.int .i64 Y, .int .i64 aa, .slice X a.length ae, .int .i64 ab, .bool ac, .bool ad] ?_; intro F hg bu hbox hb; have O := Z (hbox); have ah := Z (ln_ hg : w.heap.size ≤ F); have ag := Z (ln_ hg : w.heap.size ≤ F); replace HB := Z (below_step bl_ hb); clear hb hbox hg; obtain ⟨aL, aM, aN, aO, aP, aQ, ba, bb, bc, bd, be, bf⟩ := cells6 O.out) | ((with_reducible refine gate_callee (f := 47) rfl ?_); refine goesL_ (some 11) rfl rfl Tryd.func47 (by kernel_rfl) rfl #[.int .i64 (wrap64 (a1 + 1)), .int .i64 (a.length : Int)] rfl ag_ ?_; (with_reducible refine (shutterref11_mod.calls k (wrap64 (a1 + 1)) (a.length : Int) i _ A3.out).mono ?_); rintro e w' ⟨rfl, ⟨nd, rfl⟩⟩; refine ⟨_, rfl, ?_⟩; have D : 0 ≤ (a1 : Int) := od_; have E : a1 < (a.length : Int) := od_; obtain ⟨M, T, b, c, d, s, g, u⟩ := at_T35 J.out a1 D E; (try rw [← j.out] at b); (try rw [← p.out] at b); (try rw [← q.out] at b); (try rw [← j.out] at c); (try rw [← p.out] at c); (try rw [← q.out] at c); (try rw [← j.out] at d); (try rw [← p.out] at d); (try rw [← q.out] at d); (try rw [← j.out] at g); (try rw [← p.out] at g); (try rw [← q.out] at g); cases T; replace b := (HB.out.cell (bk_ w _ b)).trans b; replace c := (HB.out.cell (bk_ w _ c)).trans c; replace d := (HB.out.cell (bk_ w _ d)).trans d; replace s := (HB.out.cell (bk_ w _ s)).trans s; replace g := (HB.out.cell (bk_ w _ g)).trans g; replace u := (HB.out.cell (bk_ w _ u)).trans u; replace D := eq_true D; replace E := eq_true E; have K : 0 ≤ (a1 : Int) := od_; have L : a1 < (a.length : Int) := od_; obtain ⟨W, af, l, m, n, A, o, B⟩ := at_T35 J.out a1 K L; (try rw [← j.out] at l); (try rw [← p.out] at l); (try rw [← q.out] at l); (try rw [← j.out] at m); (try rw [← p.out] at m); (try rw [← q.out] at m); (try rw [← j.out] at n); (try rw [← p.out] at n); (try rw [← q.out] at n); (try rw [← j.out] at o); (try rw [← p.out] at o); (try rw [← q.out] at o); obtain rfl : M = W := (by injection af); replace l := (HB.out.cell (bk_ w _ l)).trans l; replace m := (HB.out.cell (bk_ w _ m)).trans m; replace n := (HB.out.cell (bk_ w _ n)).trans n; replace A := (HB.out.cell (bk_ w _ A)).trans A; replace o := (HB.out.cell (bk_ w _ o)).trans o; replace B := (HB.out.cell (bk_ w _ B)).trans B; replace K := eq_true K; replace L := eq_true L; have U : 0 ≤ (i : Int) := od_; have V : i < (a.length : Int) := od_; obtain ⟨ai, ak, v, x, y, G, z, I⟩ := at_T35 J.out i U V; (try rw [← j.out] at v); (try rw [← p.out] at v); (try rw [← q.out] at v); (try rw [← j.out] at x); (try rw [← p.out] at x); (try rw [← q.out] at x); (try rw [← j.out] at y); (try rw [← p.out] at y); (try rw [← q.out] at y); (try rw [← j.out] at z); (try rw [← p.out] at z); (try rw [← q.out] at z); obtain rfl : M = ai := (by injection ak); replace v := (HB.out.cell (bk_ w _ v)).trans v; replace x := (HB.out.cell (bk_ w _ x)).trans x; replace y := (HB.out.cell (bk_ w _ y)).trans y; replace G := (HB.out.cell (bk_ w _ G)).trans G; replace z := (HB.out.cell (bk_ w _ z)).trans z; replace I := (HB.out.cell (bk_ w _ I)).trans I; replace U := eq_true U; replace V := eq_true V))
        go_ret
        exact ⟨er_, bl_⟩
      ·rw [if_neg ao] at H
       exact absurd H (by simp)
     ·rw [if_neg an] at H
      exact absurd H (by simp)
   ·replace c7 := Bool.eq_false_iff.mpr c7
    subst c7
    have H1 : (some (-1)) = some r := by rw [if_neg (show ¬ (false = true) by decide)] at H; exact H
    clear H
    have H := H1
    clear H1
    obtain rfl := Option.some.inj H
    go_enter Tryd.func81, Tryd.ntmps81
    go_wp2_with (first | ((with_reducible refine gate_dst (N := 2) rfl ?_); refine bx_ 2 24 #[.int .i64 Y, .int .i64 aa, .slice X a.length ae, .int .i64 ab, .bool ac, .bool ad] ?_; intro F hg bv hbox hb; have O := Z (hbox); have ah := Z (ln_ hg : w.heap.size ≤ F); have ag := Z (ln_ hg : w.heap.size ≤ F); replace HB := Z (below_step bl_ hb); clear hb hbox hg; obtain ⟨aR, aS, aT, aU, aV, aW, bg, bh, bi, bj, bk, bl⟩ := cells6 O.out) | ((with_reducible refine gate_callee (f := 47) rfl ?_); refine goesL_ (some 11) rfl rfl Tryd.func47 (by kernel_rfl) rfl #[.int .i64 (wrap64 (a1 + 1)), .int .i64 (a.length : Int)] rfl ag_ ?_; (with_reducible refine (shutterref11_mod.calls k (wrap64 (a1 + 1)) (a.length : Int) i _ A3.out).mono ?_); rintro e w' ⟨rfl, ⟨nd, rfl⟩⟩; refine ⟨_, rfl, ?_⟩; have D : 0 ≤ (a1 : Int) := od_; have E : a1 < (a.length : Int) := od_; obtain ⟨M, T, b, c, d, s, g, u⟩ := at_T35 J.out a1 D E; (try rw [← j.out] at b); (try rw [← j.out] at c); (try rw [← j.out] at d); (try rw [← j.out] at g); cases T; replace b := (HB.out.cell (bk_ w _ b)).trans b; replace c := (HB.out.cell (bk_ w _ c)).trans c; replace d := (HB.out.cell (bk_ w _ d)).trans d; replace s := (HB.out.cell (bk_ w _ s)).trans s; replace g := (HB.out.cell (bk_ w _ g)).trans g; replace u := (HB.out.cell (bk_ w _ u)).trans u; replace D := eq_true D; replace E := eq_true E))
    go_ret
    exact ⟨er_, bl_⟩
  ·rw [if_neg c5] at H
   exact absurd H (by simp)
 ·rw [if_neg c4] at H
  exact absurd H (by simp)

end Go.Proofs.YtggecanpjkpkiaaDoor.P
