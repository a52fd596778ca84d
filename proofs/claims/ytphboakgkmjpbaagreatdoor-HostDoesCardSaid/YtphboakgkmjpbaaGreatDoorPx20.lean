/- pp.py and press2.py (wip/tools) wrote this text. -/
import Derived.Test.YtphboakgkmjpbaaGreatDoorJHostDoes1
import Derived.Test.YtphboakgkmjpbaaGreatDoorPx19
namespace Go.Proofs.YtphboakgkmjpbaaGreatDoor.P
open Go.RowKit Go.Proofs.YtphboakgkmjpbaaGreatDoorW.PrintWords Go.Proofs.YtphboakgkmjpbaaGreatDoorW.PrintLast Go.Proofs.YtphboakgkmjpbaaGreatDoorW.PrintMore
attribute [local go_sem] max2_int min2_int max_two min_two max_three min_three max_four min_four
attribute [local go_sem] Instr.field asAgg
set_option linter.unusedVariables false
set_option linter.unusedSimpArgs false
set_option maxHeartbeats 8000000
set_option maxRecDepth 100000

/-! ### shutterref07_Put: function 25 -/
def shutterref07_Put.f (k : Nat) (a : Int) (c : List Int) (o p : Bool) (q : Int) (r : Bool) (b s a1 : Int) : Option (List Int) := if a = 1 then ((some (([] : List Int) : List Int)).bind fun h => (if h.length + c.length < 140737488355328 then (some (h ++ c)) else (none))) else (if a = 2 then ((shutterref05_Put.f k o p q r).bind fun t => (some (([29, t] : List Int)))) else (if a = 4 then (some (([19] : List Int))) else (if a = 5 then (some (([5] : List Int))) else (if a = 3 then ((some (([17] : List Int) : List Int)).bind fun i => ((shutterref04_Put.f b a1).bind fun d => (if i.length + d.length < 140737488355328 then (some (i ++ d)) else (none)))) else (if a = 7 then ((some (([18] : List Int) : List Int)).bind fun j => ((shutterref04_Put.f b a1).bind fun e => (if j.length + e.length < 140737488355328 then (some (j ++ e)) else (none)))) else ((some (([60] : List Int) : List Int)).bind fun l => ((shutterref04_Put.f b a1).bind fun g => (if l.length + g.length < 140737488355328 then ((some (l ++ g : List Int)).bind fun m => ((some (([s] : List Int) : List Int)).bind fun n => (if m.length + n.length < 140737488355328 then (some (m ++ n)) else (none)))) else (none)))))))))
theorem shutterref07_Put.mono : ∀ a0 a1 a b a4 c d e g k, LeO (shutterref07_Put.f k a0 a1 a b a4 c d e g) (shutterref07_Put.f (k + 1) a0 a1 a b a4 c d e g) := by
 intro a0 a1 a b a4 c d e g k
 unfold shutterref07_Put.f
 repeat' first
   | (with_reducible exact shutterref05_Put.mono _ _ _ _ _)
   | (with_reducible exact LeO.refl _)
   | (with_reducible exact LeO.none _)
   | (with_reducible refine LeO.ite ?_ ?_)
   | (with_reducible refine LeO.bind ?_ (fun _ => ?_))
   | exact shutterref05_Put.mono _ _ _ _ _
   | exact LeO.none _
   | refine LeO.ite ?_ ?_
   | refine LeO.bind ?_ (fun _ => ?_)
def shutterref07_Put.T13 : Bool × List (List Nat × List Nat) := (true, [([], []), ([], []), ([1], [1]), ([], []), ([2, 3], [2, 3]), ([0, 4, 4], [0, 4]), ([], []), ([6], [6]), ([7], [7]), ([5, 8, 5], [5, 8]), ([9, 9, 0, 1, 2, 3, 4, 5, 6, 7, 8, 9], [9])])
def shutterref07_Put.B13 : List Nat := [0, 0, 2, 0, 14, 31, 0, 64, 192, 511, 1023]
theorem shutterref07_Put.tab13 : rtab .any (opsOf Tryz.f25 13) = shutterref07_Put.T13 := by kernel_rfl
theorem shutterref07_Put.bits13 : waitsOk shutterref07_Put.T13.2 shutterref07_Put.B13 = true := by kernel_rfl
theorem shutterref07_Put.calls (k : Nat) (p : Int) (F : Option Addr) (G : Nat) (y : List Int) (A B : Bool) (D : Int) (E : Bool) (u q a1 : Int) (r : List Int) (w : World) (bG : Kd.C (Kd.int .u8) w F y.length y) (bF : y.length ≤ G) (h : shutterref07_Put.f k p y A B D E u q a1 = some r) :
  Calls Tryz.prog 25 #[.agg #[.int .i64 p, .slice F y.length G, .bool A, .bool B, .int .i64 D, .bool E, .int .i64 u, .int .u8 q], .int .i64 a1] w fun e w' => ∃ ci : Value, e = .returned (ci) ∧ Kd.R (Kd.int .u8) 5 w' w.heap.size (fun _ => True) ci r ∧ Below w.heap.size w w' := by
 have fs := Tryz.underlying49
 have fr := Tryz.underlying45
 have b0 := Z bG
 have fq := Z bF
 clear bG bF
 have HB := Z (Below.refl w.heap.size w)
 unfold shutterref07_Put.f at h
 have H := h
 clear h
 by_cases c3 : p = 1
 ·rw [if_pos c3] at H
  obtain ⟨cn, co⟩ := eT_ c3
  clear c3
  obtain ⟨aA, aI⟩ : ∃ y_ : List Int, y_ = (([] : List Int)) := ⟨_, rfl⟩
  rw [← aI] at H
  try replace H := sb_ H
  have bp := Z aI
  clear aI
  by_cases c4 : aA.length + y.length < 140737488355328
  ·rw [if_pos c4] at H
   have cm := Z c4
   clear c4
   obtain ⟨cx, aJ⟩ : ∃ y_ : List Int, y_ = (aA ++ y) := ⟨_, rfl⟩
   rw [← aJ] at H
   try replace H := sb_ H
   have b4 := Z aJ
   clear aJ
   obtain rfl := Option.some.inj H
   go_enter Tryz.func25, Tryz.ntmps25
   go_wp2_with (first | ((with_reducible refine gD_ 2 rfl ?_); refine bx_ 2 49 #[.int .i64 p, .slice F y.length G, .bool A, .bool B, .int .i64 D, .bool E, .int .i64 u, .int .u8 q] ?_; intro c hg w5 hbox hb; have a := Z hbox; have aD := ln' w hg; replace HB := bs_ hb; clear hb hbox hg; have eS := cells8 a.out) | ((with_reducible refine gD_ 8 rfl ?_); refine Kd.R_lit (Kd.int .u8) _ 5 ?hg (N := 8) ?hd (xs := ([] : List Int)) (inner := []) (ok := fun _ => True) (okp := fun _ => True) ?hr ?hp (fun _ hk => hk) trivial (Below.refl _ _) (Nat.le_refl _) (by simp) ?_; (case hd => rfl); (case hg => rfl); (case hr => first | (go_simp; done) | (go_simp; rfl)); (case hp => exact (Reps.none _ _)); intro cu w7 bk hb hg_ hnew_; clear hg_ hnew_; (first | rw [← bp.out] at bk | (simp only [Int.reduceToNat] at bk; rw [← bp.out] at bk)); have bf := Z (Kd.R_lower bk (below_size bl_)); replace a := kb' a hb; replace HB := bs_ hb; clear hb bk; have e0 := cells8 a.out) | ((with_reducible refine gate_builtin (b := .append) (xs := #[.tmp 8, .tmp 10]) rfl ?_); at_builtin; refine Kd.R_append_rows (Kd.int .u8) (w0 := w) w.heap.size rfl (.tmp 8) (.tmp 10) 37 5 (.int .u8 0) 1 rfl Tryz.underlying37 info5 rfl (by decide) (by omega) cu aA y _ _ _ (fun _ => True) (fun _ => False) rfl rfl ?aO ?aR (fun _ _ h => h) (fun _ h => h.elim) ?aF ?aB ?aS ?aL ?_; (case aR => repeat (first | exact (Kd.C_below b0.out HB.out) | (with_reducible apply pC))); (case aB => exact bl_); (case aF => exact (fun _ _ => trivial)); (case aO => exact (by (with_reducible repeat apply pR); exact bf.out)); (case aS => exact (below_size bl_)); (case aL => have := cm.out; omega); intro fB fK ho hb hg hat; rw [← b4.out] at ho; replace a := gw_ ⟨vK a.out⟩ hg (Kd.R_ne bf.out a.out (by decide)); replace HB := Z (hb); have bT := Z (ho); clear bf; clear ho hb hg hat))
   go_ret
   exact ⟨_, er_, by (with_reducible repeat apply pR); exact bT.out, bl_⟩
  rw [if_neg c4] at H
  exact absurd H (by simp)
 rw [if_neg c3] at H
 obtain ⟨cn, co⟩ := eF_ c3
 by_cases a4 : p = 2
 ·rw [if_pos a4] at H
  obtain ⟨b8, b9⟩ := eT_ a4
  clear a4
  replace H := bn_ H
  obtain ⟨ay, eM, H⟩ := H
  obtain ⟨cy, aK⟩ : ∃ y_ : List Int, y_ = (([29, ay] : List Int)) := ⟨_, rfl⟩
  rw [← aK] at H
  try replace H := sb_ H
  have bq := Z aK
  clear aK
  obtain rfl := Option.some.inj H
  go_enter Tryz.func25, Tryz.ntmps25
  go_wp2_with (first | ((with_reducible refine gD_ 2 rfl ?_); refine bx_ 2 49 #[.int .i64 p, .slice F y.length G, .bool A, .bool B, .int .i64 D, .bool E, .int .i64 u, .int .u8 q] ?_; intro c hg fL hbox hb; have a := Z hbox; have aD := ln' w hg; replace HB := bs_ hb; clear hb hbox hg; have cE := cells8 a.out) | ((with_reducible refine gF_ 46 rfl ?_); refine gd_ (some 17) Tryz.func46 (shutterref05_Put.calls k A B D E ay _ eM.out) ?_; rintro e fM ⟨rfl, hb⟩; refine ⟨_, rfl, ?_⟩; replace a := kb' a hb; replace HB := bs_ hb; (try clear hb); (try clear hk)) | ((with_reducible refine gD_ 18 rfl ?_); refine Kd.R_lit (Kd.int .u8) _ 5 ?hg (N := 18) ?hd (xs := ([29, ay] : List Int)) (inner := [.int .u8 29, .int .u8 ay]) (ok := fun _ => True) (okp := fun _ => True) ?hr ?hp (fun _ hk => hk) trivial (Below.refl _ _) (Nat.le_refl _) (by simp) ?_; (case hd => rfl); (case hg => rfl); (case hr => first | (go_simp; done) | (go_simp; rfl)); (case hp => exact (Reps.one (show Kd.M (Kd.int .u8) _ _ _ 29 [.int .u8 29] from rfl) (Reps.one (show Kd.M (Kd.int .u8) _ _ _ ay [.int .u8 ay] from rfl) (Reps.none _ _)))); intro fC fN a9 hb hg_ hnew_; clear hg_ hnew_; (first | rw [← bq.out] at a9 | (simp only [Int.reduceToNat] at a9; rw [← bq.out] at a9)); have bU := Z (Kd.R_lower a9 (below_size bl_)); replace a := kb' a hb; replace HB := bs_ hb; clear hb a9))
  go_ret
  exact ⟨_, er_, by (with_reducible repeat apply pR); exact bU.out, bl_⟩
 rw [if_neg a4] at H
 obtain ⟨b8, b9⟩ := eF_ a4
 by_cases a5 : p = 4
 ·rw [if_pos a5] at H
  obtain ⟨ca, cb⟩ := eT_ a5
  clear a5
  obtain ⟨cz, aM⟩ : ∃ y_ : List Int, y_ = (([19] : List Int)) := ⟨_, rfl⟩
  rw [← aM] at H
  try replace H := sb_ H
  have br := Z aM
  clear aM
  obtain rfl := Option.some.inj H
  go_enter Tryz.func25, Tryz.ntmps25
  go_wp2_with (first | ((with_reducible refine gD_ 2 rfl ?_); refine bx_ 2 49 #[.int .i64 p, .slice F y.length G, .bool A, .bool B, .int .i64 D, .bool E, .int .i64 u, .int .u8 q] ?_; intro c hg fO hbox hb; have a := Z hbox; have aD := ln' w hg; replace HB := bs_ hb; clear hb hbox hg; have cM := cells8 a.out) | ((with_reducible refine gD_ 22 rfl ?_); refine Kd.R_lit (Kd.int .u8) _ 5 ?hg (N := 22) ?hd (xs := ([19] : List Int)) (inner := [.int .u8 19]) (ok := fun _ => True) (okp := fun _ => True) ?hr ?hp (fun _ hk => hk) trivial (Below.refl _ _) (Nat.le_refl _) (by simp) ?_; (case hd => rfl); (case hg => rfl); (case hr => first | (go_simp; done) | (go_simp; rfl)); (case hp => exact (Reps.one (show Kd.M (Kd.int .u8) _ _ _ 19 [.int .u8 19] from rfl) (Reps.none _ _))); intro fD fP ba hb hg_ hnew_; clear hg_ hnew_; (first | rw [← br.out] at ba | (simp only [Int.reduceToNat] at ba; rw [← br.out] at ba)); have bV := Z (Kd.R_lower ba (below_size bl_)); replace a := kb' a hb; replace HB := bs_ hb; clear hb ba))
  go_ret
  exact ⟨_, er_, by (with_reducible repeat apply pR); exact bV.out, bl_⟩
 rw [if_neg a5] at H
 obtain ⟨ca, cb⟩ := eF_ a5
 by_cases a6 : p = 5
 ·rw [if_pos a6] at H
  obtain ⟨cc, cd⟩ := eT_ a6
  clear a6
  obtain ⟨cA, aN⟩ : ∃ y_ : List Int, y_ = (([5] : List Int)) := ⟨_, rfl⟩
  rw [← aN] at H
  try replace H := sb_ H
  have bs := Z aN
  clear aN
  obtain rfl := Option.some.inj H
  go_enter Tryz.func25, Tryz.ntmps25
  go_wp2_with (first | ((with_reducible refine gD_ 2 rfl ?_); refine bx_ 2 49 #[.int .i64 p, .slice F y.length G, .bool A, .bool B, .int .i64 D, .bool E, .int .i64 u, .int .u8 q] ?_; intro c hg fQ hbox hb; have a := Z hbox; have aD := ln' w hg; replace HB := bs_ hb; clear hb hbox hg; have cU := cells8 a.out) | ((with_reducible refine gD_ 26 rfl ?_); refine Kd.R_lit (Kd.int .u8) _ 5 ?hg (N := 26) ?hd (xs := ([5] : List Int)) (inner := [.int .u8 5]) (ok := fun _ => True) (okp := fun _ => True) ?hr ?hp (fun _ hk => hk) trivial (Below.refl _ _) (Nat.le_refl _) (by simp) ?_; (case hd => rfl); (case hg => rfl); (case hr => first | (go_simp; done) | (go_simp; rfl)); (case hp => exact (Reps.one (show Kd.M (Kd.int .u8) _ _ _ 5 [.int .u8 5] from rfl) (Reps.none _ _))); intro fE fR bb hb hg_ hnew_; clear hg_ hnew_; (first | rw [← bs.out] at bb | (simp only [Int.reduceToNat] at bb; rw [← bs.out] at bb)); have bW := Z (Kd.R_lower bb (below_size bl_)); replace a := kb' a hb; replace HB := bs_ hb; clear hb bb))
  go_ret
  exact ⟨_, er_, by (with_reducible repeat apply pR); exact bW.out, bl_⟩
 rw [if_neg a6] at H
 obtain ⟨cc, cd⟩ := eF_ a6
 by_cases a7 : p = 3
 ·rw [if_pos a7] at H
  obtain ⟨ce, cf⟩ := eT_ a7
  clear a7
  obtain ⟨ar, aP⟩ : ∃ y_ : List Int, y_ = (([17] : List Int)) := ⟨_, rfl⟩
  rw [← aP] at H
  try replace H := sb_ H
  have bt := Z aP
  clear aP
  replace H := bn_ H
  obtain ⟨aj, eN, H⟩ := H
  by_cases bx : ar.length + aj.length < 140737488355328
  ·rw [if_pos bx] at H
   have b1 := Z bx
   clear bx
   obtain ⟨cB, aQ⟩ : ∃ y_ : List Int, y_ = (ar ++ aj) := ⟨_, rfl⟩
   rw [← aQ] at H
   try replace H := sb_ H
   have b5 := Z aQ
   clear aQ
   obtain rfl := Option.some.inj H
   go_enter Tryz.func25, Tryz.ntmps25
   go_wp2_with (first | ((with_reducible refine gD_ 2 rfl ?_); refine bx_ 2 49 #[.int .i64 p, .slice F y.length G, .bool A, .bool B, .int .i64 D, .bool E, .int .i64 u, .int .u8 q] ?_; intro c hg fS hbox hb; have a := Z hbox; have aD := ln' w hg; replace HB := bs_ hb; clear hb hbox hg; have c2 := cells8 a.out) | ((with_reducible refine gD_ 30 rfl ?_); refine Kd.R_lit (Kd.int .u8) _ 5 ?hg (N := 30) ?hd (xs := ([17] : List Int)) (inner := [.int .u8 17]) (ok := fun _ => True) (okp := fun _ => True) ?hr ?hp (fun _ hk => hk) trivial (Below.refl _ _) (Nat.le_refl _) (by simp) ?_; (case hd => rfl); (case hg => rfl); (case hr => first | (go_simp; done) | (go_simp; rfl)); (case hp => exact (Reps.one (show Kd.M (Kd.int .u8) _ _ _ 17 [.int .u8 17] from rfl) (Reps.none _ _))); intro cv fT bc hb hg_ hnew_; clear hg_ hnew_; (first | rw [← bt.out] at bc | (simp only [Int.reduceToNat] at bc; rw [← bt.out] at bc)); have aw := Z (Kd.R_lower bc (below_size bl_)); replace a := kb' a hb; replace HB := bs_ hb; clear hb bc; have dc := cells8 a.out) | ((with_reducible refine gF_ 47 rfl ?_); refine gd_ (some 34) Tryz.func47 (shutterref04_Put.calls u a1 aj _ eN.out) ?_; rintro e fU ⟨fF, rfl, ad, hb⟩; refine ⟨_, rfl, ?_⟩; have aE := Z (Kd.R_lower (Kd.R_new' ad (Kd.R_lt (by (with_reducible repeat apply pR); exact aw.out))) (below_size bl_)); replace aw := Z (Kd.R_elder' (by (with_reducible repeat apply pR); exact aw.out) (Kd.R_base ad) hb); replace a := kb' a hb; replace HB := bs_ hb; (try clear hb); (try clear hk); (try clear ad); obtain ⟨ck, cp, cr⟩ := Kd.R_slice aE.out; subst cr) | ((with_reducible refine gate_builtin (b := .append) (xs := #[.tmp 30, .tmp 34]) rfl ?_); at_builtin; refine Kd.R_append_rows (Kd.int .u8) (w0 := w) w.heap.size rfl (.tmp 30) (.tmp 34) 37 5 (.int .u8 0) 1 rfl Tryz.underlying37 info5 rfl (by decide) (by omega) cv ar aj _ _ _ (fun k_ => some k_ ≠ (.slice ck aj.length cp : Value).ownBlock) (fun _ => False) rfl rfl ?aO ?aR (fun _ _ h => h) (fun _ h => h.elim) ?aF ?aB ?aS ?aL ?_; (case aR => repeat (first | exact (Kd.R_reads' aE.out).2.2 | (with_reducible apply pC))); (case aB => exact bl_); (case aF => exact (fun k_ hk => Kd.fresh' (Kd.R_lt (by (with_reducible repeat apply pR); exact aE.out)) k_ hk)); (case aO => exact (by (with_reducible repeat apply pR); exact Kd.R_mono aw.out (fun _ hk => hk.2))); (case aS => exact (below_size bl_)); (case aL => have := b1.out; omega); intro fG fV ho hb hg hat; rw [← b5.out] at ho; replace a := gw_ ⟨vK a.out⟩ hg (Kd.R_ne aw.out a.out (by decide)); replace aE := Z (Kd.R_after (ok := (fun _ => True)) (by (with_reducible repeat apply pR); exact aE.out) hg hat); replace HB := Z (hb); have bX := Z (ho); clear aw; clear ho hb hg hat))
   go_ret
   exact ⟨_, er_, by (with_reducible repeat apply pR); exact Kd.R_mono bX.out im_, bl_⟩
  rw [if_neg bx] at H
  exact absurd H (by simp)
 rw [if_neg a7] at H
 obtain ⟨ce, cf⟩ := eF_ a7
 by_cases a8 : p = 7
 ·rw [if_pos a8] at H
  obtain ⟨cg, ch⟩ := eT_ a8
  clear a8
  obtain ⟨au, aT⟩ : ∃ y_ : List Int, y_ = (([18] : List Int)) := ⟨_, rfl⟩
  rw [← aT] at H
  try replace H := sb_ H
  have bu := Z aT
  clear aT
  replace H := bn_ H
  obtain ⟨ak, eO, H⟩ := H
  by_cases bz : au.length + ak.length < 140737488355328
  ·rw [if_pos bz] at H
   have b2 := Z bz
   clear bz
   obtain ⟨cC, aU⟩ : ∃ y_ : List Int, y_ = (au ++ ak) := ⟨_, rfl⟩
   rw [← aU] at H
   try replace H := sb_ H
   have b6 := Z aU
   clear aU
   obtain rfl := Option.some.inj H
   go_enter Tryz.func25, Tryz.ntmps25
   go_wp2_with (first | ((with_reducible refine gD_ 2 rfl ?_); refine bx_ 2 49 #[.int .i64 p, .slice F y.length G, .bool A, .bool B, .int .i64 D, .bool E, .int .i64 u, .int .u8 q] ?_; intro c hg fW hbox hb; have a := Z hbox; have aD := ln' w hg; replace HB := bs_ hb; clear hb hbox hg; have dk := cells8 a.out) | ((with_reducible refine gD_ 39 rfl ?_); refine Kd.R_lit (Kd.int .u8) _ 5 ?hg (N := 39) ?hd (xs := ([18] : List Int)) (inner := [.int .u8 18]) (ok := fun _ => True) (okp := fun _ => True) ?hr ?hp (fun _ hk => hk) trivial (Below.refl _ _) (Nat.le_refl _) (by simp) ?_; (case hd => rfl); (case hg => rfl); (case hr => first | (go_simp; done) | (go_simp; rfl)); (case hp => exact (Reps.one (show Kd.M (Kd.int .u8) _ _ _ 18 [.int .u8 18] from rfl) (Reps.none _ _))); intro cw fX bd hb hg_ hnew_; clear hg_ hnew_; (first | rw [← bu.out] at bd | (simp only [Int.reduceToNat] at bd; rw [← bu.out] at bd)); have ax := Z (Kd.R_lower bd (below_size bl_)); replace a := kb' a hb; replace HB := bs_ hb; clear hb bd; have du := cells8 a.out) | ((with_reducible refine gF_ 47 rfl ?_); refine gd_ (some 43) Tryz.func47 (shutterref04_Put.calls u a1 ak _ eO.out) ?_; rintro e fY ⟨fH, rfl, ad, hb⟩; refine ⟨_, rfl, ?_⟩; have aG := Z (Kd.R_lower (Kd.R_new' ad (Kd.R_lt (by (with_reducible repeat apply pR); exact ax.out))) (below_size bl_)); replace ax := Z (Kd.R_elder' (by (with_reducible repeat apply pR); exact ax.out) (Kd.R_base ad) hb); replace a := kb' a hb; replace HB := bs_ hb; (try clear hb); (try clear hk); (try clear ad); obtain ⟨cl, cq, ct⟩ := Kd.R_slice aG.out; subst ct) | ((with_reducible refine gate_builtin (b := .append) (xs := #[.tmp 39, .tmp 43]) rfl ?_); at_builtin; refine Kd.R_append_rows (Kd.int .u8) (w0 := w) w.heap.size rfl (.tmp 39) (.tmp 43) 37 5 (.int .u8 0) 1 rfl Tryz.underlying37 info5 rfl (by decide) (by omega) cw au ak _ _ _ (fun k_ => some k_ ≠ (.slice cl ak.length cq : Value).ownBlock) (fun _ => False) rfl rfl ?aO ?aR (fun _ _ h => h) (fun _ h => h.elim) ?aF ?aB ?aS ?aL ?_; (case aR => repeat (first | exact (Kd.R_reads' aG.out).2.2 | (with_reducible apply pC))); (case aB => exact bl_); (case aF => exact (fun k_ hk => Kd.fresh' (Kd.R_lt (by (with_reducible repeat apply pR); exact aG.out)) k_ hk)); (case aO => exact (by (with_reducible repeat apply pR); exact Kd.R_mono ax.out (fun _ hk => hk.2))); (case aS => exact (below_size bl_)); (case aL => have := b2.out; omega); intro fI fZ ho hb hg hat; rw [← b6.out] at ho; replace a := gw_ ⟨vK a.out⟩ hg (Kd.R_ne ax.out a.out (by decide)); replace aG := Z (Kd.R_after (ok := (fun _ => True)) (by (with_reducible repeat apply pR); exact aG.out) hg hat); replace HB := Z (hb); have bY := Z (ho); clear ax; clear ho hb hg hat))
   go_ret
   exact ⟨_, er_, by (with_reducible repeat apply pR); exact Kd.R_mono bY.out im_, bl_⟩
  rw [if_neg bz] at H
  exact absurd H (by simp)
 rw [if_neg a8] at H
 obtain ⟨cg, ch⟩ := eF_ a8
 obtain ⟨ab, aV⟩ : ∃ y_ : List Int, y_ = (([60] : List Int)) := ⟨_, rfl⟩
 rw [← aV] at H
 try replace H := sb_ H
 have aq := Z aV
 clear aV
 replace H := bn_ H
 obtain ⟨L, bn, H⟩ := H
 obtain ⟨bA, H⟩ := gt_ H
 have bo := Z bA
 clear bA
 obtain ⟨W, aW⟩ : ∃ y_ : List Int, y_ = (ab ++ L) := ⟨_, rfl⟩
 rw [← aW] at H
 try replace H := sb_ H
 have bw := Z aW
 clear aW
 obtain ⟨T, aX⟩ : ∃ y_ : List Int, y_ = (([q] : List Int)) := ⟨_, rfl⟩
 rw [← aX] at H
 try replace H := sb_ H
 have al := Z aX
 clear aX
 obtain ⟨bB, H⟩ := gt_ H
 have b3 := Z bB
 clear bB
 obtain ⟨cD, aY⟩ : ∃ y_ : List Int, y_ = (W ++ T) := ⟨_, rfl⟩
 rw [← aY] at H
 try replace H := sb_ H
 have b7 := Z aY
 clear aY
 obtain rfl := Option.some.inj H
 go_enter Tryz.func25, Tryz.ntmps25
 try go_wp2_with (first | ((with_reducible refine gD_ 2 rfl ?_); refine bx_ 2 49 #[.int .i64 p, .slice F y.length G, .bool A, .bool B, .int .i64 D, .bool E, .int .i64 u, .int .u8 q] ?_; intro c hg fo hbox hb; have a := Z hbox; have aD := ln' w hg; replace HB := bs_ hb; clear hb hbox hg; have dC := cells8 a.out))
 replace a := Z (blk_drew a.out)
 replace HB := Z (below_drew1 HB.out)
 refine start_ (n := 11) (S := fun w' => w'.cell? ⟨c, 0, none⟩ = some (.int .i64 p) ∧ w'.cell? ⟨c, 1, none⟩ = some (.slice F y.length G) ∧ w'.cell? ⟨c, 2, none⟩ = some (.bool A) ∧ w'.cell? ⟨c, 3, none⟩ = some (.bool B) ∧ w'.cell? ⟨c, 4, none⟩ = some (.int .i64 D) ∧ w'.cell? ⟨c, 5, none⟩ = some (.bool E) ∧ w'.cell? ⟨c, 6, none⟩ = some (.int .i64 u) ∧ w'.cell? ⟨c, 7, none⟩ = some (.int .u8 q)) (ds := []) (bv 11 0) (by kernel_rfl) rfl rfl hd_ (fun hHeld => ?_); refine with_tabW shutterref07_Put.tab13 shutterref07_Put.bits13 (fun HT_ HW_ => ?_)
 generalize fo.drew = ga at a HB hHeld ⊢
 refine pT_ HT_ 1 11 2 (some 46) ?_
 refine pT_ HT_ 3 11 10 (some 48) ?_
 refine pT_ HT_ 6 11 74 (some 51) ?_
 refine tT_ HT_ HW_ hHeld 2 11 78 (some 47) ?_
 refine tT_ HT_ HW_ hHeld 7 11 206 (some 52) ?_
 refine join_ (σ := Value × Value × Value × Value) 2 (bv 11 511) (fun s_ => [(45, s_.1), (49, s_.2.1), (50, s_.2.2.1), (53, s_.2.2.2)]) (fun s_ w' => (w'.cell? ⟨c, 0, none⟩ = some (.int .i64 p) ∧ w'.cell? ⟨c, 1, none⟩ = some (.slice F y.length G) ∧ w'.cell? ⟨c, 2, none⟩ = some (.bool A) ∧ w'.cell? ⟨c, 3, none⟩ = some (.bool B) ∧ w'.cell? ⟨c, 4, none⟩ = some (.int .i64 D) ∧ w'.cell? ⟨c, 5, none⟩ = some (.bool E) ∧ w'.cell? ⟨c, 6, none⟩ = some (.int .i64 u) ∧ w'.cell? ⟨c, 7, none⟩ = some (.int .u8 q)) ∧ (Kd.R (Kd.int .u8) 5 w' w.heap.size (fun k_ => some k_ ≠ (s_.2.2.1 : Value).ownBlock ∧ some k_ ≠ (s_.2.2.2 : Value).ownBlock) s_.2.1 L) ∧ (Kd.R (Kd.int .u8) 5 w' w.heap.size (fun k_ => some k_ ≠ (s_.2.1 : Value).ownBlock ∧ some k_ ≠ (s_.2.2.2 : Value).ownBlock) s_.2.2.1 W) ∧ (Kd.R (Kd.int .u8) 5 w' w.heap.size (fun k_ => some k_ ≠ (s_.2.1 : Value).ownBlock ∧ some k_ ≠ (s_.2.2.1 : Value).ownBlock) s_.2.2.2 T) ∧ (w'.heap[c]? = some (.cells #[.int .i64 p, .slice F y.length G, .bool A, .bool B, .int .i64 D, .bool E, .int .i64 u, .int .u8 q] 49 (0, 0))) ∧ (Below w.heap.size w w')) ?_ ?_
 rotate_left
 ·intro a3
  refine join_ (σ := Value × Value × Value) 3 (bv 11 255) (fun s_ => [(45, s_.1), (49, s_.2.1), (50, s_.2.2)]) (fun s_ w' => (w'.cell? ⟨c, 0, none⟩ = some (.int .i64 p) ∧ w'.cell? ⟨c, 1, none⟩ = some (.slice F y.length G) ∧ w'.cell? ⟨c, 2, none⟩ = some (.bool A) ∧ w'.cell? ⟨c, 3, none⟩ = some (.bool B) ∧ w'.cell? ⟨c, 4, none⟩ = some (.int .i64 D) ∧ w'.cell? ⟨c, 5, none⟩ = some (.bool E) ∧ w'.cell? ⟨c, 6, none⟩ = some (.int .i64 u) ∧ w'.cell? ⟨c, 7, none⟩ = some (.int .u8 q)) ∧ (Kd.R (Kd.int .u8) 5 w' w.heap.size (fun k_ => some k_ ≠ (s_.2.2 : Value).ownBlock) s_.2.1 L) ∧ (Kd.R (Kd.int .u8) 5 w' w.heap.size (fun k_ => some k_ ≠ (s_.2.1 : Value).ownBlock) s_.2.2 W) ∧ (w'.heap[c]? = some (.cells #[.int .i64 p, .slice F y.length G, .bool A, .bool B, .int .i64 D, .bool E, .int .i64 u, .int .u8 q] 49 (0, 0))) ∧ (Below w.heap.size w w')) ?_ ?_
  rotate_left
  ·intro bH
   refine join_ (σ := Value × Value × Value) 3 (bv 11 479) (fun s_ => [(45, s_.1), (49, s_.2.1), (53, s_.2.2)]) (fun s_ w' => (w'.cell? ⟨c, 0, none⟩ = some (.int .i64 p) ∧ w'.cell? ⟨c, 1, none⟩ = some (.slice F y.length G) ∧ w'.cell? ⟨c, 2, none⟩ = some (.bool A) ∧ w'.cell? ⟨c, 3, none⟩ = some (.bool B) ∧ w'.cell? ⟨c, 4, none⟩ = some (.int .i64 D) ∧ w'.cell? ⟨c, 5, none⟩ = some (.bool E) ∧ w'.cell? ⟨c, 6, none⟩ = some (.int .i64 u) ∧ w'.cell? ⟨c, 7, none⟩ = some (.int .u8 q)) ∧ (Kd.R (Kd.int .u8) 5 w' w.heap.size (fun k_ => some k_ ≠ (s_.2.1 : Value).ownBlock ∧ some k_ ≠ (s_.2.2 : Value).ownBlock) s_.1 ab) ∧ (Kd.R (Kd.int .u8) 5 w' w.heap.size (fun k_ => some k_ ≠ (s_.1 : Value).ownBlock ∧ some k_ ≠ (s_.2.2 : Value).ownBlock) s_.2.1 L) ∧ (Kd.R (Kd.int .u8) 5 w' w.heap.size (fun k_ => some k_ ≠ (s_.1 : Value).ownBlock ∧ some k_ ≠ (s_.2.1 : Value).ownBlock) s_.2.2 T) ∧ (w'.heap[c]? = some (.cells #[.int .i64 p, .slice F y.length G, .bool A, .bool B, .int .i64 D, .bool E, .int .i64 u, .int .u8 q] 49 (0, 0))) ∧ (Below w.heap.size w w')) ?_ ?_
   rotate_left
   ·intro aZ
    refine join_ (σ := Value × Value) 4 (bv 11 223) (fun s_ => [(45, s_.1), (49, s_.2)]) (fun s_ w' => (w'.cell? ⟨c, 0, none⟩ = some (.int .i64 p) ∧ w'.cell? ⟨c, 1, none⟩ = some (.slice F y.length G) ∧ w'.cell? ⟨c, 2, none⟩ = some (.bool A) ∧ w'.cell? ⟨c, 3, none⟩ = some (.bool B) ∧ w'.cell? ⟨c, 4, none⟩ = some (.int .i64 D) ∧ w'.cell? ⟨c, 5, none⟩ = some (.bool E) ∧ w'.cell? ⟨c, 6, none⟩ = some (.int .i64 u) ∧ w'.cell? ⟨c, 7, none⟩ = some (.int .u8 q)) ∧ (Kd.R (Kd.int .u8) 5 w' w.heap.size (fun k_ => some k_ ≠ (s_.2 : Value).ownBlock) s_.1 ab) ∧ (Kd.R (Kd.int .u8) 5 w' w.heap.size (fun k_ => some k_ ≠ (s_.1 : Value).ownBlock) s_.2 L) ∧ (w'.heap[c]? = some (.cells #[.int .i64 p, .slice F y.length G, .bool A, .bool B, .int .i64 D, .bool E, .int .i64 u, .int .u8 q] 49 (0, 0))) ∧ (Below w.heap.size w w')) ?_ ?_
    rotate_left
    ·intro bC
     refine join_ (σ := Value × Value) 4 (bv 11 463) (fun s_ => [(45, s_.1), (53, s_.2)]) (fun s_ w' => (w'.cell? ⟨c, 0, none⟩ = some (.int .i64 p) ∧ w'.cell? ⟨c, 1, none⟩ = some (.slice F y.length G) ∧ w'.cell? ⟨c, 2, none⟩ = some (.bool A) ∧ w'.cell? ⟨c, 3, none⟩ = some (.bool B) ∧ w'.cell? ⟨c, 4, none⟩ = some (.int .i64 D) ∧ w'.cell? ⟨c, 5, none⟩ = some (.bool E) ∧ w'.cell? ⟨c, 6, none⟩ = some (.int .i64 u) ∧ w'.cell? ⟨c, 7, none⟩ = some (.int .u8 q)) ∧ (Kd.R (Kd.int .u8) 5 w' w.heap.size (fun k_ => some k_ ≠ (s_.2 : Value).ownBlock) s_.1 ab) ∧ (Kd.R (Kd.int .u8) 5 w' w.heap.size (fun k_ => some k_ ≠ (s_.1 : Value).ownBlock) s_.2 T) ∧ (w'.heap[c]? = some (.cells #[.int .i64 p, .slice F y.length G, .bool A, .bool B, .int .i64 D, .bool E, .int .i64 u, .int .u8 q] 49 (0, 0))) ∧ (Below w.heap.size w w')) ?_ ?_
     rotate_left
     ·intro bD
      refine join_ (σ := Value × Value) 4 (bv 11 478) (fun s_ => [(49, s_.1), (53, s_.2)]) (fun s_ w' => (w'.cell? ⟨c, 0, none⟩ = some (.int .i64 p) ∧ w'.cell? ⟨c, 1, none⟩ = some (.slice F y.length G) ∧ w'.cell? ⟨c, 2, none⟩ = some (.bool A) ∧ w'.cell? ⟨c, 3, none⟩ = some (.bool B) ∧ w'.cell? ⟨c, 4, none⟩ = some (.int .i64 D) ∧ w'.cell? ⟨c, 5, none⟩ = some (.bool E) ∧ w'.cell? ⟨c, 6, none⟩ = some (.int .i64 u) ∧ w'.cell? ⟨c, 7, none⟩ = some (.int .u8 q)) ∧ (Kd.R (Kd.int .u8) 5 w' w.heap.size (fun k_ => some k_ ≠ (s_.2 : Value).ownBlock) s_.1 L) ∧ (Kd.R (Kd.int .u8) 5 w' w.heap.size (fun k_ => some k_ ≠ (s_.1 : Value).ownBlock) s_.2 T) ∧ (w'.heap[c]? = some (.cells #[.int .i64 p, .slice F y.length G, .bool A, .bool B, .int .i64 D, .bool E, .int .i64 u, .int .u8 q] 49 (0, 0))) ∧ (Below w.heap.size w w')) ?_ ?_
      rotate_left
      ·intro bE
       refine join_ (σ := Value) 5 (bv 11 207) (fun s_ => [(45, s_)]) (fun s_ w' => (w'.cell? ⟨c, 0, none⟩ = some (.int .i64 p) ∧ w'.cell? ⟨c, 1, none⟩ = some (.slice F y.length G) ∧ w'.cell? ⟨c, 2, none⟩ = some (.bool A) ∧ w'.cell? ⟨c, 3, none⟩ = some (.bool B) ∧ w'.cell? ⟨c, 4, none⟩ = some (.int .i64 D) ∧ w'.cell? ⟨c, 5, none⟩ = some (.bool E) ∧ w'.cell? ⟨c, 6, none⟩ = some (.int .i64 u) ∧ w'.cell? ⟨c, 7, none⟩ = some (.int .u8 q)) ∧ (Kd.R (Kd.int .u8) 5 w' w.heap.size (fun _ => True) s_ ab) ∧ (w'.heap[c]? = some (.cells #[.int .i64 p, .slice F y.length G, .bool A, .bool B, .int .i64 D, .bool E, .int .i64 u, .int .u8 q] 49 (0, 0))) ∧ (Below w.heap.size w w')) ?_ ?_
       rotate_left
       ·intro eP
        refine join_ (σ := Value) 5 (bv 11 222) (fun s_ => [(49, s_)]) (fun s_ w' => (w'.cell? ⟨c, 0, none⟩ = some (.int .i64 p) ∧ w'.cell? ⟨c, 1, none⟩ = some (.slice F y.length G) ∧ w'.cell? ⟨c, 2, none⟩ = some (.bool A) ∧ w'.cell? ⟨c, 3, none⟩ = some (.bool B) ∧ w'.cell? ⟨c, 4, none⟩ = some (.int .i64 D) ∧ w'.cell? ⟨c, 5, none⟩ = some (.bool E) ∧ w'.cell? ⟨c, 6, none⟩ = some (.int .i64 u) ∧ w'.cell? ⟨c, 7, none⟩ = some (.int .u8 q)) ∧ (Kd.R (Kd.int .u8) 5 w' w.heap.size (fun _ => True) s_ L) ∧ (w'.heap[c]? = some (.cells #[.int .i64 p, .slice F y.length G, .bool A, .bool B, .int .i64 D, .bool E, .int .i64 u, .int .u8 q] 49 (0, 0))) ∧ (Below w.heap.size w w')) ?_ ?_
        rotate_left
        ·intro eQ
         refine join_ (σ := Value) 5 (bv 11 462) (fun s_ => [(53, s_)]) (fun s_ w' => (w'.cell? ⟨c, 0, none⟩ = some (.int .i64 p) ∧ w'.cell? ⟨c, 1, none⟩ = some (.slice F y.length G) ∧ w'.cell? ⟨c, 2, none⟩ = some (.bool A) ∧ w'.cell? ⟨c, 3, none⟩ = some (.bool B) ∧ w'.cell? ⟨c, 4, none⟩ = some (.int .i64 D) ∧ w'.cell? ⟨c, 5, none⟩ = some (.bool E) ∧ w'.cell? ⟨c, 6, none⟩ = some (.int .i64 u) ∧ w'.cell? ⟨c, 7, none⟩ = some (.int .u8 q)) ∧ (Kd.R (Kd.int .u8) 5 w' w.heap.size (fun _ => True) s_ T) ∧ (w'.heap[c]? = some (.cells #[.int .i64 p, .slice F y.length G, .bool A, .bool B, .int .i64 D, .bool E, .int .i64 u, .int .u8 q] 49 (0, 0))) ∧ (Below w.heap.size w w')) ?_ ?_
         rotate_left
         ·intro eR
          refine three_ (i := 0) (j := 4) (k := 8) (Ni := some 45) (Nj := some 49) (Nk := some 53) (bv 11 207) (bv 11 222) (bv 11 462) rfl rfl rfl rfl rfl rfl (three_of HT_.out (by kernel_rfl)) (by decide) (by decide) (by decide) (fun K hK => ?_) (fun K hK => ?_) (fun K hK => ?_)
          ·skip
           refine Kd.R_lit_step (Kd.int .u8) _ 5 ?hg (N := 45) ?hd (xs := ([60] : List Int)) (inner := [.int .u8 60]) (ok := fun _ => True) (okp := fun _ => True) ?hr ?hp (fun _ hk => hk) trivial (Below.refl _ _) (Nat.le_refl _) (by simp) ?_; (case hd => rfl); (case hg => rfl); (case hr => first | (go_simp; done) | (go_simp; rfl)); (case hp => exact (Reps.one (show Kd.M (Kd.int .u8) _ _ _ 60 [.int .u8 60] from rfl) (Reps.none _ _)))
           intro Q cj ao hb hg_ hnew_
           clear hg_ hnew_
           (first | rw [← aq.out] at ao | (simp only [Int.reduceToNat] at ao; rw [← aq.out] at ao))
           have d := Z (Kd.R_lower ao (below_size bl_))
           have l := kb' a hb
           have m := bs_ hb
           clear a
           clear HB
           have I := d
           have a := l
           have HB := m
           clear d l m
           clear hb ao
           refine hK.out _ _ hd_ (fun hHeld => ?_)
           clear hK K
           refine nA_ (some 45) ?_
           exact norm_ (by first | (simp only [putAll, Act.put, sA, sB, sC, errW_none, errW_some]; done) | (simp only [putAll, Act.put, sA, sB, sC, errW_none, errW_some]; rfl)) (eP (Q) _ ⟨hHeld, (by (with_reducible repeat apply pR); exact I.out), (vK a.out), bl_⟩)
          ·skip
           refine goes_ Tryz.func47 (by kernel_rfl) rfl #[.int .i64 u, .int .i64 a1] (by rfl) rfl rfl ag_ ?_
           with_reducible refine (shutterref04_Put.calls u a1 L _ bn.out).mono ?_
           rintro e cj ⟨O, rfl, ad, hb⟩
           refine ⟨_, rfl, ?_⟩
           have d := Z (Kd.R_lower ad (below_size bl_))
           have l := kb' a hb
           have m := bs_ hb
           clear a
           clear HB
           have s := d
           have a := l
           have HB := m
           clear d l m
           (try clear hb)
           (try clear be)
           (try clear hk)
           (try clear hi)
           (try clear ad)
           refine hK.out _ _ hd_ (fun hHeld => ?_)
           clear hK K
           refine nA_ (some 49) ?_
           exact norm_ (by first | (simp only [putAll, Act.put, sA, sB, sC, errW_none, errW_some]; done) | (simp only [putAll, Act.put, sA, sB, sC, errW_none, errW_some]; rfl)) (eQ (O) _ ⟨hHeld, (by (with_reducible repeat apply pR); exact s.out), (vK a.out), bl_⟩)
          skip
          refine Kd.R_lit_step (Kd.int .u8) _ 5 ?hg (N := 53) ?hd (xs := ([q] : List Int)) (inner := [.int .u8 q]) (ok := fun _ => True) (okp := fun _ => True) ?hr ?hp (fun _ hk => hk) trivial (Below.refl _ _) (Nat.le_refl _) (by simp) ?_; (case hd => rfl); (case hg => rfl); (case hr => first | (go_simp; done) | (go_simp; rfl)); (case hp => exact (Reps.one (show Kd.M (Kd.int .u8) _ _ _ q [.int .u8 q] from rfl) (Reps.none _ _)))
          intro P cj ao hb hg_ hnew_
          clear hg_ hnew_
          (first | rw [← al.out] at ao | (simp only [Int.reduceToNat] at ao; rw [← al.out] at ao))
          have d := Z (Kd.R_lower ao (below_size bl_))
          have l := kb' a hb
          have m := bs_ hb
          clear a
          clear HB
          have z := d
          have a := l
          have HB := m
          clear d l m
          clear hb ao
          refine hK.out _ _ hd_ (fun hHeld => ?_)
          clear hK K
          refine nA_ (some 53) ?_
          exact norm_ (by first | (simp only [putAll, Act.put, sA, sB, sC, errW_none, errW_some]; done) | (simp only [putAll, Act.put, sA, sB, sC, errW_none, errW_some]; rfl)) (eR (P) _ ⟨hHeld, (by (with_reducible repeat apply pR); exact z.out), (vK a.out), bl_⟩)
         skip
         rintro P ac ⟨hS_, X, Y, aa⟩
         have d : Aside0 (Kd.R (Kd.int .u8) 5 ac w.heap.size (fun _ => True) P T) := ⟨X⟩
         have l : Aside0 (ac.heap[c]? = some (.cells #[.int .i64 p, .slice F y.length G, .bool A, .bool B, .int .i64 D, .bool E, .int .i64 u, .int .u8 q] 49 (0, 0))) := ⟨Y⟩
         have m : Aside0 (Below w.heap.size w ac) := ⟨aa⟩
         clear a
         clear HB
         clear X Y aa
         have z := d
         have a := l
         have HB := m
         clear d l m
         have hHeld := hS_
         refine norm_ (a' := ?_) ?_ ?_
         rotate_left
         ·simp only [putAll, Act.put, sA, sB, sC]
          rfl
         refine two_ (i := 0) (j := 4) (Ni := some 45) (Nj := some 49) (bv 11 463) (bv 11 478) rfl rfl rfl rfl (two_of HT_.out (by kernel_rfl)) (by decide) (by decide) (fun K hK => ?_) (fun K hK => ?_)
         ·skip
          refine Kd.R_lit_step (Kd.int .u8) _ 5 ?hg (N := 45) ?hd (xs := ([60] : List Int)) (inner := [.int .u8 60]) (ok := fun _ => True) (okp := fun _ => True) ?hr ?hp (fun _ hk => hk) trivial (Below.refl _ _) (Nat.le_refl _) (by simp) ?_; (case hd => rfl); (case hg => rfl); (case hr => first | (go_simp; done) | (go_simp; rfl)); (case hp => exact (Reps.one (show Kd.M (Kd.int .u8) _ _ _ 60 [.int .u8 60] from rfl) (Reps.none _ _)))
          intro Q U ai hb hg_ hnew_
          clear hg_ hnew_
          (first | rw [← aq.out] at ai | (simp only [Int.reduceToNat] at ai; rw [← aq.out] at ai))
          have d := Z (Kd.R_elder' (by (with_reducible repeat apply pR); exact z.out) (Kd.R_base ai) hb)
          have l := Z (Kd.R_lower (Kd.R_new' ai (Kd.R_lt (by (with_reducible repeat apply pR); exact z.out))) (below_size bl_))
          have m := kb' a hb
          have x := bs_ hb
          clear z
          clear a
          clear HB
          have z := d
          have I := l
          have a := m
          have HB := x
          clear d l m x
          clear hb ai
          refine hK.out _ _ hd_ (fun hHeld => ?_)
          clear hK K
          refine nA_ (some 45) ?_
          exact norm_ (by first | (simp only [putAll, Act.put, sA, sB, sC, errW_none, errW_some]; done) | (simp only [putAll, Act.put, sA, sB, sC, errW_none, errW_some]; rfl)) (bD (Q, P) _ ⟨hHeld, (by (with_reducible repeat apply pR); exact Kd.R_mono I.out (fun _ hk => hk.2)), (by (with_reducible repeat apply pR); exact Kd.R_mono z.out (fun _ hk => hk.2)), (vK a.out), bl_⟩)
         skip
         refine goes_ Tryz.func47 (by kernel_rfl) rfl #[.int .i64 u, .int .i64 a1] (by rfl) rfl rfl ag_ ?_
         with_reducible refine (shutterref04_Put.calls u a1 L _ bn.out).mono ?_
         rintro e U ⟨O, rfl, ad, hb⟩
         refine ⟨_, rfl, ?_⟩
         have d := Z (Kd.R_elder' (by (with_reducible repeat apply pR); exact z.out) (Kd.R_base ad) hb)
         have l := Z (Kd.R_lower (Kd.R_new' ad (Kd.R_lt (by (with_reducible repeat apply pR); exact z.out))) (below_size bl_))
         have m := kb' a hb
         have x := bs_ hb
         clear z
         clear a
         clear HB
         have z := d
         have s := l
         have a := m
         have HB := x
         clear d l m x
         (try clear hb)
         (try clear be)
         (try clear hk)
         (try clear hi)
         (try clear ad)
         refine hK.out _ _ hd_ (fun hHeld => ?_)
         clear hK K
         refine nA_ (some 49) ?_
         exact norm_ (by first | (simp only [putAll, Act.put, sA, sB, sC, errW_none, errW_some]; done) | (simp only [putAll, Act.put, sA, sB, sC, errW_none, errW_some]; rfl)) (bE (O, P) _ ⟨hHeld, (by (with_reducible repeat apply pR); exact Kd.R_mono s.out (fun _ hk => hk.2)), (by (with_reducible repeat apply pR); exact Kd.R_mono z.out (fun _ hk => hk.2)), (vK a.out), bl_⟩)
        skip
        rintro O az ⟨hS_, X, Y, aa⟩
        have d : Aside0 (Kd.R (Kd.int .u8) 5 az w.heap.size (fun _ => True) O L) := ⟨X⟩
        have l : Aside0 (az.heap[c]? = some (.cells #[.int .i64 p, .slice F y.length G, .bool A, .bool B, .int .i64 D, .bool E, .int .i64 u, .int .u8 q] 49 (0, 0))) := ⟨Y⟩
        have m : Aside0 (Below w.heap.size w az) := ⟨aa⟩
        clear a
        clear HB
        clear X Y aa
        have s := d
        have a := l
        have HB := m
        clear d l m
        have hHeld := hS_
        refine norm_ (a' := ?_) ?_ ?_
        rotate_left
        ·simp only [putAll, Act.put, sA, sB, sC]
         rfl
        refine two_ (i := 0) (j := 8) (Ni := some 45) (Nj := some 53) (bv 11 223) (bv 11 478) rfl rfl rfl rfl (two_of HT_.out (by kernel_rfl)) (by decide) (by decide) (fun K hK => ?_) (fun K hK => ?_)
        ·skip
         refine Kd.R_lit_step (Kd.int .u8) _ 5 ?hg (N := 45) ?hd (xs := ([60] : List Int)) (inner := [.int .u8 60]) (ok := fun _ => True) (okp := fun _ => True) ?hr ?hp (fun _ hk => hk) trivial (Below.refl _ _) (Nat.le_refl _) (by simp) ?_; (case hd => rfl); (case hg => rfl); (case hr => first | (go_simp; done) | (go_simp; rfl)); (case hp => exact (Reps.one (show Kd.M (Kd.int .u8) _ _ _ 60 [.int .u8 60] from rfl) (Reps.none _ _)))
         intro Q ac ah hb hg_ hnew_
         clear hg_ hnew_
         (first | rw [← aq.out] at ah | (simp only [Int.reduceToNat] at ah; rw [← aq.out] at ah))
         have d := Z (Kd.R_elder' (by (with_reducible repeat apply pR); exact s.out) (Kd.R_base ah) hb)
         have l := Z (Kd.R_lower (Kd.R_new' ah (Kd.R_lt (by (with_reducible repeat apply pR); exact s.out))) (below_size bl_))
         have m := kb' a hb
         have x := bs_ hb
         clear s
         clear a
         clear HB
         have s := d
         have I := l
         have a := m
         have HB := x
         clear d l m x
         clear hb ah
         refine hK.out _ _ hd_ (fun hHeld => ?_)
         clear hK K
         refine nA_ (some 45) ?_
         exact norm_ (by first | (simp only [putAll, Act.put, sA, sB, sC, errW_none, errW_some]; done) | (simp only [putAll, Act.put, sA, sB, sC, errW_none, errW_some]; rfl)) (bC (Q, O) _ ⟨hHeld, (by (with_reducible repeat apply pR); exact Kd.R_mono I.out (fun _ hk => hk.2)), (by (with_reducible repeat apply pR); exact Kd.R_mono s.out (fun _ hk => hk.2)), (vK a.out), bl_⟩)
        skip
        refine Kd.R_lit_step (Kd.int .u8) _ 5 ?hg (N := 53) ?hd (xs := ([q] : List Int)) (inner := [.int .u8 q]) (ok := fun _ => True) (okp := fun _ => True) ?hr ?hp (fun _ hk => hk) trivial (Below.refl _ _) (Nat.le_refl _) (by simp) ?_; (case hd => rfl); (case hg => rfl); (case hr => first | (go_simp; done) | (go_simp; rfl)); (case hp => exact (Reps.one (show Kd.M (Kd.int .u8) _ _ _ q [.int .u8 q] from rfl) (Reps.none _ _)))
        intro P ac ah hb hg_ hnew_
        clear hg_ hnew_
        (first | rw [← al.out] at ah | (simp only [Int.reduceToNat] at ah; rw [← al.out] at ah))
        have d := Z (Kd.R_elder' (by (with_reducible repeat apply pR); exact s.out) (Kd.R_base ah) hb)
        have l := Z (Kd.R_lower (Kd.R_new' ah (Kd.R_lt (by (with_reducible repeat apply pR); exact s.out))) (below_size bl_))
        have m := kb' a hb
        have x := bs_ hb
        clear s
        clear a
        clear HB
        have s := d
        have z := l
        have a := m
        have HB := x
        clear d l m x
        clear hb ah
        refine hK.out _ _ hd_ (fun hHeld => ?_)
        clear hK K
        refine nA_ (some 53) ?_
        exact norm_ (by first | (simp only [putAll, Act.put, sA, sB, sC, errW_none, errW_some]; done) | (simp only [putAll, Act.put, sA, sB, sC, errW_none, errW_some]; rfl)) (bE (O, P) _ ⟨hHeld, (by (with_reducible repeat apply pR); exact Kd.R_mono s.out (fun _ hk => hk.2)), (by (with_reducible repeat apply pR); exact Kd.R_mono z.out (fun _ hk => hk.2)), (vK a.out), bl_⟩)
       skip
       rintro Q ac ⟨hS_, X, Y, aa⟩
       have d : Aside0 (Kd.R (Kd.int .u8) 5 ac w.heap.size (fun _ => True) Q ab) := ⟨X⟩
       have l : Aside0 (ac.heap[c]? = some (.cells #[.int .i64 p, .slice F y.length G, .bool A, .bool B, .int .i64 D, .bool E, .int .i64 u, .int .u8 q] 49 (0, 0))) := ⟨Y⟩
       have m : Aside0 (Below w.heap.size w ac) := ⟨aa⟩
       clear a
       clear HB
       clear X Y aa
       have I := d
       have a := l
       have HB := m
       clear d l m
       have hHeld := hS_
       refine norm_ (a' := ?_) ?_ ?_
       rotate_left
       ·simp only [putAll, Act.put, sA, sB, sC]
        rfl
       refine two_ (i := 4) (j := 8) (Ni := some 49) (Nj := some 53) (bv 11 223) (bv 11 463) rfl rfl rfl rfl (two_of HT_.out (by kernel_rfl)) (by decide) (by decide) (fun K hK => ?_) (fun K hK => ?_)
       ·skip
        refine goes_ Tryz.func47 (by kernel_rfl) rfl #[.int .i64 u, .int .i64 a1] (by rfl) rfl rfl ag_ ?_
        with_reducible refine (shutterref04_Put.calls u a1 L _ bn.out).mono ?_
        rintro e U ⟨O, rfl, ad, hb⟩
        refine ⟨_, rfl, ?_⟩
        have d := Z (Kd.R_elder' (by (with_reducible repeat apply pR); exact I.out) (Kd.R_base ad) hb)
        have l := Z (Kd.R_lower (Kd.R_new' ad (Kd.R_lt (by (with_reducible repeat apply pR); exact I.out))) (below_size bl_))
        have m := kb' a hb
        have x := bs_ hb
        clear I
        clear a
        clear HB
        have I := d
        have s := l
        have a := m
        have HB := x
        clear d l m x
        (try clear hb)
        (try clear be)
        (try clear hk)
        (try clear hi)
        (try clear ad)
        refine hK.out _ _ hd_ (fun hHeld => ?_)
        clear hK K
        refine nA_ (some 49) ?_
        exact norm_ (by first | (simp only [putAll, Act.put, sA, sB, sC, errW_none, errW_some]; done) | (simp only [putAll, Act.put, sA, sB, sC, errW_none, errW_some]; rfl)) (bC (Q, O) _ ⟨hHeld, (by (with_reducible repeat apply pR); exact Kd.R_mono I.out (fun _ hk => hk.2)), (by (with_reducible repeat apply pR); exact Kd.R_mono s.out (fun _ hk => hk.2)), (vK a.out), bl_⟩)
       skip
       refine Kd.R_lit_step (Kd.int .u8) _ 5 ?hg (N := 53) ?hd (xs := ([q] : List Int)) (inner := [.int .u8 q]) (ok := fun _ => True) (okp := fun _ => True) ?hr ?hp (fun _ hk => hk) trivial (Below.refl _ _) (Nat.le_refl _) (by simp) ?_; (case hd => rfl); (case hg => rfl); (case hr => first | (go_simp; done) | (go_simp; rfl)); (case hp => exact (Reps.one (show Kd.M (Kd.int .u8) _ _ _ q [.int .u8 q] from rfl) (Reps.none _ _)))
       intro P U ai hb hg_ hnew_
       clear hg_ hnew_
       (first | rw [← al.out] at ai | (simp only [Int.reduceToNat] at ai; rw [← al.out] at ai))
       have d := Z (Kd.R_elder' (by (with_reducible repeat apply pR); exact I.out) (Kd.R_base ai) hb)
       have l := Z (Kd.R_lower (Kd.R_new' ai (Kd.R_lt (by (with_reducible repeat apply pR); exact I.out))) (below_size bl_))
       have m := kb' a hb
       have x := bs_ hb
       clear I
       clear a
       clear HB
       have I := d
       have z := l
       have a := m
       have HB := x
       clear d l m x
       clear hb ai
       refine hK.out _ _ hd_ (fun hHeld => ?_)
       clear hK K
       refine nA_ (some 53) ?_
       exact norm_ (by first | (simp only [putAll, Act.put, sA, sB, sC, errW_none, errW_some]; done) | (simp only [putAll, Act.put, sA, sB, sC, errW_none, errW_some]; rfl)) (bD (Q, P) _ ⟨hHeld, (by (with_reducible repeat apply pR); exact Kd.R_mono I.out (fun _ hk => hk.2)), (by (with_reducible repeat apply pR); exact Kd.R_mono z.out (fun _ hk => hk.2)), (vK a.out), bl_⟩)
      skip
      rintro ⟨O, P⟩ U ⟨hS_, X, Y, aa, am⟩
      have d : Aside0 (Kd.R (Kd.int .u8) 5 U w.heap.size (fun k_ => some k_ ≠ (P : Value).ownBlock) O L) := ⟨X⟩
      have l : Aside0 (Kd.R (Kd.int .u8) 5 U w.heap.size (fun k_ => some k_ ≠ (O : Value).ownBlock) P T) := ⟨Y⟩
      have m : Aside0 (U.heap[c]? = some (.cells #[.int .i64 p, .slice F y.length G, .bool A, .bool B, .int .i64 D, .bool E, .int .i64 u, .int .u8 q] 49 (0, 0))) := ⟨aa⟩
      have x : Aside0 (Below w.heap.size w U) := ⟨am⟩
      clear a
      clear HB
      clear X Y aa am
      have s := d
      have z := l
      have a := m
      have HB := x
      clear d l m x
      have hHeld := hS_
      refine norm_ (a' := ?_) ?_ ?_
      rotate_left
      ·simp only [putAll, Act.put, sA, sB, sC]
       rfl
      refine oT_ HT_ 0 11 479 (some 45) (fun K hK => ?_)
      refine Kd.R_lit_step (Kd.int .u8) _ 5 ?hg (N := 45) ?hd (xs := ([60] : List Int)) (inner := [.int .u8 60]) (ok := fun _ => True) (okp := fun _ => True) ?hr ?hp (fun _ hk => hk) trivial (Below.refl _ _) (Nat.le_refl _) (by simp) ?_; (case hd => rfl); (case hg => rfl); (case hr => first | (go_simp; done) | (go_simp; rfl)); (case hp => exact (Reps.one (show Kd.M (Kd.int .u8) _ _ _ 60 [.int .u8 60] from rfl) (Reps.none _ _)))
      intro Q ap ag hb hg_ hnew_
      clear hg_ hnew_
      (first | rw [← aq.out] at ag | (simp only [Int.reduceToNat] at ag; rw [← aq.out] at ag))
      have d := Z (Kd.R_elder' (by (with_reducible repeat apply pR); exact s.out) (Kd.R_base ag) hb)
      have l := Z (Kd.R_elder' (by (with_reducible repeat apply pR); exact z.out) (Kd.R_base ag) hb)
      have m := Z (Kd.R_lower (Kd.R_new' (Kd.R_new' ag (Kd.R_lt (by (with_reducible repeat apply pR); exact s.out))) (Kd.R_lt (by (with_reducible repeat apply pR); exact z.out))) (below_size bl_))
      have x := kb' a hb
      have ae := bs_ hb
      clear s
      clear z
      clear a
      clear HB
      have s := d
      have z := l
      have I := m
      have a := x
      have HB := ae
      clear d l m x ae
      clear hb ag
      refine hK.out _ _ hd_ (fun hHeld => ?_)
      clear hK K
      refine nA_ (some 45) ?_
      exact norm_ (by first | (simp only [putAll, Act.put, sA, sB, sC, errW_none, errW_some]; done) | (simp only [putAll, Act.put, sA, sB, sC, errW_none, errW_some]; rfl)) (aZ (Q, O, P) _ ⟨hHeld, (by (with_reducible repeat apply pR); exact Kd.R_mono I.out (fun _ hk => ⟨hk.1.2, hk.2⟩)), (by (with_reducible repeat apply pR); exact Kd.R_mono s.out (fun _ hk => ⟨hk.2, hk.1⟩)), (by (with_reducible repeat apply pR); exact Kd.R_mono z.out (fun _ hk => ⟨hk.2, hk.1⟩)), (vK a.out), bl_⟩)
     skip
     rintro ⟨Q, P⟩ ap ⟨hS_, X, Y, aa, am⟩
     have d : Aside0 (Kd.R (Kd.int .u8) 5 ap w.heap.size (fun k_ => some k_ ≠ (P : Value).ownBlock) Q ab) := ⟨X⟩
     have l : Aside0 (Kd.R (Kd.int .u8) 5 ap w.heap.size (fun k_ => some k_ ≠ (Q : Value).ownBlock) P T) := ⟨Y⟩
     have m : Aside0 (ap.heap[c]? = some (.cells #[.int .i64 p, .slice F y.length G, .bool A, .bool B, .int .i64 D, .bool E, .int .i64 u, .int .u8 q] 49 (0, 0))) := ⟨aa⟩
     have x : Aside0 (Below w.heap.size w ap) := ⟨am⟩
     clear a
     clear HB
     clear X Y aa am
     have I := d
     have z := l
     have a := m
     have HB := x
     clear d l m x
     have hHeld := hS_
     refine norm_ (a' := ?_) ?_ ?_
     rotate_left
     ·simp only [putAll, Act.put, sA, sB, sC]
      rfl
     refine oT_ HT_ 4 11 479 (some 49) (fun K hK => ?_)
     refine goes_ Tryz.func47 (by kernel_rfl) rfl #[.int .i64 u, .int .i64 a1] (by rfl) rfl rfl ag_ ?_
     with_reducible refine (shutterref04_Put.calls u a1 L _ bn.out).mono ?_
     rintro e V ⟨O, rfl, ad, hb⟩
     refine ⟨_, rfl, ?_⟩
     have d := Z (Kd.R_elder' (by (with_reducible repeat apply pR); exact I.out) (Kd.R_base ad) hb)
     have l := Z (Kd.R_elder' (by (with_reducible repeat apply pR); exact z.out) (Kd.R_base ad) hb)
     have m := Z (Kd.R_lower (Kd.R_new' (Kd.R_new' ad (Kd.R_lt (by (with_reducible repeat apply pR); exact I.out))) (Kd.R_lt (by (with_reducible repeat apply pR); exact z.out))) (below_size bl_))
     have x := kb' a hb
     have ae := bs_ hb
     clear I
     clear z
     clear a
     clear HB
     have I := d
     have z := l
     have s := m
     have a := x
     have HB := ae
     clear d l m x ae
     (try clear hb)
     (try clear be)
     (try clear hk)
     (try clear hi)
     (try clear ad)
     refine hK.out _ _ hd_ (fun hHeld => ?_)
     clear hK K
     refine nA_ (some 49) ?_
     exact norm_ (by first | (simp only [putAll, Act.put, sA, sB, sC, errW_none, errW_some]; done) | (simp only [putAll, Act.put, sA, sB, sC, errW_none, errW_some]; rfl)) (aZ (Q, O, P) _ ⟨hHeld, (by (with_reducible repeat apply pR); exact Kd.R_mono I.out (fun _ hk => ⟨hk.2, hk.1⟩)), (by (with_reducible repeat apply pR); exact Kd.R_mono s.out (fun _ hk => ⟨hk.1.2, hk.2⟩)), (by (with_reducible repeat apply pR); exact z.out), (vK a.out), bl_⟩)
    skip
    rintro ⟨Q, O⟩ U ⟨hS_, X, Y, aa, am⟩
    have d : Aside0 (Kd.R (Kd.int .u8) 5 U w.heap.size (fun k_ => some k_ ≠ (O : Value).ownBlock) Q ab) := ⟨X⟩
    have l : Aside0 (Kd.R (Kd.int .u8) 5 U w.heap.size (fun k_ => some k_ ≠ (Q : Value).ownBlock) O L) := ⟨Y⟩
    have m : Aside0 (U.heap[c]? = some (.cells #[.int .i64 p, .slice F y.length G, .bool A, .bool B, .int .i64 D, .bool E, .int .i64 u, .int .u8 q] 49 (0, 0))) := ⟨aa⟩
    have x : Aside0 (Below w.heap.size w U) := ⟨am⟩
    clear a
    clear HB
    clear X Y aa am
    have I := d
    have s := l
    have a := m
    have HB := x
    clear d l m x
    have hHeld := hS_
    obtain ⟨bM, bO, bQ⟩ := Kd.R_slice s.out
    (first | subst bQ | (injection bQ with a0 bg a2; have bh := a0.symm; have bi := a2.symm; clear a0 bg a2; subst bh; subst bi))
    refine norm_ (a' := ?_) ?_ ?_
    rotate_left
    ·simp only [putAll, Act.put, sA, sB, sC]
     rfl
    refine two_ (i := 5) (j := 8) (Ni := some 50) (Nj := some 53) (bv 11 255) (bv 11 479) rfl rfl rfl rfl (two_of HT_.out (by kernel_rfl)) (by decide) (by decide) (fun K hK => ?_) (fun K hK => ?_)
    ·skip
     refine Kd.R_append_rows_step (Kd.int .u8) (w0 := w) w.heap.size (by rfl) (.tmp 45) (.tmp 49) 37 5 (.int .u8 0) 1 rfl Tryz.underlying37 info5 rfl (by decide) (by omega) Q ab L _ _ _ (fun k_ => some k_ ≠ (.slice bM L.length bO : Value).ownBlock) (fun _ => False) rfl rfl ?aO ?aR (fun _ _ h => h) (fun _ h => h.elim) ?aF ?aB ?aS ?aL ?_
     (case aR => repeat (first | exact (Kd.R_reads' s.out).2.2 | (with_reducible apply pC)))
     (case aB => exact bl_)
     (case aF => exact (fun k_ hk => Kd.fresh' (Kd.R_lt (by (with_reducible repeat apply pR); exact s.out)) k_ hk))
     (case aO => exact (by (with_reducible repeat apply pR); exact I.out))
     (case aS => exact (below_size bl_))
     (case aL => have := bo.out; omega)
     intro an ap ho hb hg hat
     rw [← bw.out] at ho
     have d := gw_ ⟨vK a.out⟩ hg (Kd.R_ne I.out a.out (by decide))
     have l := Z (Kd.R_after (ok := (fun _ => True)) (by (with_reducible repeat apply pR); exact Kd.R_mono s.out (fun _ hk => ⟨trivial, hk⟩)) hg hat)
     have m := Z (hb)
     have x := Z (ho)
     clear a
     clear s
     clear HB
     clear I
     have a := d
     have s := l
     have HB := m
     have af := x
     clear d l m x
     clear ho hb hg hat
     refine hK.out _ _ hd_ (fun hHeld => ?_)
     clear hK K
     refine nA_ (some 50) ?_
     exact norm_ (by first | (simp only [putAll, Act.put, sA, sB, sC, errW_none, errW_some]; done) | (simp only [putAll, Act.put, sA, sB, sC, errW_none, errW_some]; rfl)) (bH (Q, .slice bM L.length bO, an) _ ⟨hHeld, (by (with_reducible repeat apply pR); exact Kd.R_mono s.out (fun _ hk => hk.2)), (by (with_reducible repeat apply pR); exact af.out), (vK a.out), bl_⟩)
    skip
    refine Kd.R_lit_step (Kd.int .u8) _ 5 ?hg (N := 53) ?hd (xs := ([q] : List Int)) (inner := [.int .u8 q]) (ok := fun _ => True) (okp := fun _ => True) ?hr ?hp (fun _ hk => hk) trivial (Below.refl _ _) (Nat.le_refl _) (by simp) ?_; (case hd => rfl); (case hg => rfl); (case hr => first | (go_simp; done) | (go_simp; rfl)); (case hp => exact (Reps.one (show Kd.M (Kd.int .u8) _ _ _ q [.int .u8 q] from rfl) (Reps.none _ _)))
    intro P ap ag hb hg_ hnew_
    clear hg_ hnew_
    (first | rw [← al.out] at ag | (simp only [Int.reduceToNat] at ag; rw [← al.out] at ag))
    have d := Z (Kd.R_elder' (by (with_reducible repeat apply pR); exact I.out) (Kd.R_base ag) hb)
    have l := Z (Kd.R_elder' (by (with_reducible repeat apply pR); exact s.out) (Kd.R_base ag) hb)
    have m := Z (Kd.R_lower (Kd.R_new' (Kd.R_new' ag (Kd.R_lt (by (with_reducible repeat apply pR); exact I.out))) (Kd.R_lt (by (with_reducible repeat apply pR); exact s.out))) (below_size bl_))
    have x := kb' a hb
    have ae := bs_ hb
    clear I
    clear s
    clear a
    clear HB
    have I := d
    have s := l
    have z := m
    have a := x
    have HB := ae
    clear d l m x ae
    clear hb ag
    refine hK.out _ _ hd_ (fun hHeld => ?_)
    clear hK K
    refine nA_ (some 53) ?_
    exact norm_ (by first | (simp only [putAll, Act.put, sA, sB, sC, errW_none, errW_some]; done) | (simp only [putAll, Act.put, sA, sB, sC, errW_none, errW_some]; rfl)) (aZ (Q, .slice bM L.length bO, P) _ ⟨hHeld, (by (with_reducible repeat apply pR); exact I.out), (by (with_reducible repeat apply pR); exact s.out), (by (with_reducible repeat apply pR); exact Kd.R_mono z.out (fun _ hk => ⟨hk.1.2, hk.2⟩)), (vK a.out), bl_⟩)
   skip
   rintro ⟨Q, O, P⟩ V ⟨hS_, X, Y, aa, am, bj⟩
   have d : Aside0 (Kd.R (Kd.int .u8) 5 V w.heap.size (fun k_ => some k_ ≠ (O : Value).ownBlock ∧ some k_ ≠ (P : Value).ownBlock) Q ab) := ⟨X⟩
   have l : Aside0 (Kd.R (Kd.int .u8) 5 V w.heap.size (fun k_ => some k_ ≠ (Q : Value).ownBlock ∧ some k_ ≠ (P : Value).ownBlock) O L) := ⟨Y⟩
   have m : Aside0 (Kd.R (Kd.int .u8) 5 V w.heap.size (fun k_ => some k_ ≠ (Q : Value).ownBlock ∧ some k_ ≠ (O : Value).ownBlock) P T) := ⟨aa⟩
   have x : Aside0 (V.heap[c]? = some (.cells #[.int .i64 p, .slice F y.length G, .bool A, .bool B, .int .i64 D, .bool E, .int .i64 u, .int .u8 q] 49 (0, 0))) := ⟨am⟩
   have ae : Aside0 (Below w.heap.size w V) := ⟨bj⟩
   clear a
   clear HB
   clear X Y aa am bj
   have I := d
   have s := l
   have z := m
   have a := x
   have HB := ae
   clear d l m x ae
   have hHeld := hS_
   obtain ⟨bl, bm, bR⟩ := Kd.R_slice s.out
   (first | subst bR | (injection bR with a0 bg a2; have bh := a0.symm; have bi := a2.symm; clear a0 bg a2; subst bh; subst bi))
   refine norm_ (a' := ?_) ?_ ?_
   rotate_left
   ·simp only [putAll, Act.put, sA, sB, sC]
    rfl
   refine oT_ HT_ 5 11 511 (some 50) (fun K hK => ?_)
   refine Kd.R_append_rows_step (Kd.int .u8) (w0 := w) w.heap.size (by rfl) (.tmp 45) (.tmp 49) 37 5 (.int .u8 0) 1 rfl Tryz.underlying37 info5 rfl (by decide) (by omega) Q ab L _ _ _ (fun k_ => some k_ ≠ (.slice bl L.length bm : Value).ownBlock ∧ some k_ ≠ (P : Value).ownBlock) (fun _ => False) rfl rfl ?aO ?aR (fun _ _ h => h) (fun _ h => h.elim) ?aF ?aB ?aS ?aL ?_
   (case aR => repeat (first | exact (Kd.R_reads' s.out).2.2 | (with_reducible apply pC)))
   (case aB => exact bl_)
   (case aF => exact (fun k_ hk => ⟨Kd.fresh' (Kd.R_lt (by (with_reducible repeat apply pR); exact s.out)) k_ hk, Kd.fresh' (Kd.R_lt (by (with_reducible repeat apply pR); exact z.out)) k_ hk⟩))
   (case aO => exact (by (with_reducible repeat apply pR); exact I.out))
   (case aS => exact (below_size bl_))
   (case aL => have := bo.out; omega)
   intro an fp ho hb hg hat
   rw [← bw.out] at ho
   have d := gw_ ⟨vK a.out⟩ hg (Kd.R_ne I.out a.out (by decide))
   have l := Z (Kd.R_after (ok := (fun k_ => some k_ ≠ (P : Value).ownBlock)) (by (with_reducible repeat apply pR); exact Kd.R_mono s.out (fun _ hk => ⟨hk.2, hk.1⟩)) hg hat)
   have m := Z (Kd.R_after (ok := (fun k_ => some k_ ≠ (.slice bl L.length bm : Value).ownBlock)) (by (with_reducible repeat apply pR); exact Kd.R_mono z.out (fun _ hk => ⟨hk.2, hk.1⟩)) hg hat)
   have x := Z (hb)
   have ae := Z (ho)
   clear a
   clear s
   clear z
   clear HB
   clear I
   have a := d
   have s := l
   have z := m
   have HB := x
   have af := ae
   clear d l m x ae
   clear ho hb hg hat
   refine hK.out _ _ hd_ (fun hHeld => ?_)
   clear hK K
   refine nA_ (some 50) ?_
   exact norm_ (by first | (simp only [putAll, Act.put, sA, sB, sC, errW_none, errW_some]; done) | (simp only [putAll, Act.put, sA, sB, sC, errW_none, errW_some]; rfl)) (a3 (Q, .slice bl L.length bm, an, P) _ ⟨hHeld, (by (with_reducible repeat apply pR); exact Kd.R_mono s.out (fun _ hk => ⟨hk.2, hk.1⟩)), (by (with_reducible repeat apply pR); exact af.out), (by (with_reducible repeat apply pR); exact z.out), (vK a.out), bl_⟩)
  skip
  rintro ⟨Q, O, an⟩ V ⟨hS_, X, Y, aa, am⟩
  have d : Aside0 (Kd.R (Kd.int .u8) 5 V w.heap.size (fun k_ => some k_ ≠ (an : Value).ownBlock) O L) := ⟨X⟩
  have l : Aside0 (Kd.R (Kd.int .u8) 5 V w.heap.size (fun k_ => some k_ ≠ (O : Value).ownBlock) an W) := ⟨Y⟩
  have m : Aside0 (V.heap[c]? = some (.cells #[.int .i64 p, .slice F y.length G, .bool A, .bool B, .int .i64 D, .bool E, .int .i64 u, .int .u8 q] 49 (0, 0))) := ⟨aa⟩
  have x : Aside0 (Below w.heap.size w V) := ⟨am⟩
  clear a
  clear HB
  clear X Y aa am
  have s := d
  have af := l
  have a := m
  have HB := x
  clear d l m x
  have hHeld := hS_
  refine norm_ (a' := ?_) ?_ ?_
  rotate_left
  ·simp only [putAll, Act.put, sA, sB, sC]
   rfl
  refine oT_ HT_ 8 11 511 (some 53) (fun K hK => ?_)
  refine Kd.R_lit_step (Kd.int .u8) _ 5 ?hg (N := 53) ?hd (xs := ([q] : List Int)) (inner := [.int .u8 q]) (ok := fun _ => True) (okp := fun _ => True) ?hr ?hp (fun _ hk => hk) trivial (Below.refl _ _) (Nat.le_refl _) (by simp) ?_; (case hd => rfl); (case hg => rfl); (case hr => first | (go_simp; done) | (go_simp; rfl)); (case hp => exact (Reps.one (show Kd.M (Kd.int .u8) _ _ _ q [.int .u8 q] from rfl) (Reps.none _ _)))
  intro P fp aH hb hg_ hnew_
  clear hg_ hnew_
  (first | rw [← al.out] at aH | (simp only [Int.reduceToNat] at aH; rw [← al.out] at aH))
  have d := Z (Kd.R_elder' (by (with_reducible repeat apply pR); exact s.out) (Kd.R_base aH) hb)
  have l := Z (Kd.R_elder' (by (with_reducible repeat apply pR); exact af.out) (Kd.R_base aH) hb)
  have m := Z (Kd.R_lower (Kd.R_new' (Kd.R_new' aH (Kd.R_lt (by (with_reducible repeat apply pR); exact s.out))) (Kd.R_lt (by (with_reducible repeat apply pR); exact af.out))) (below_size bl_))
  have x := kb' a hb
  have ae := bs_ hb
  clear s
  clear af
  clear a
  clear HB
  have s := d
  have af := l
  have z := m
  have a := x
  have HB := ae
  clear d l m x ae
  clear hb aH
  refine hK.out _ _ hd_ (fun hHeld => ?_)
  clear hK K
  refine nA_ (some 53) ?_
  exact norm_ (by first | (simp only [putAll, Act.put, sA, sB, sC, errW_none, errW_some]; done) | (simp only [putAll, Act.put, sA, sB, sC, errW_none, errW_some]; rfl)) (a3 (Q, O, an, P) _ ⟨hHeld, (by (with_reducible repeat apply pR); exact s.out), (by (with_reducible repeat apply pR); exact af.out), (by (with_reducible repeat apply pR); exact Kd.R_mono z.out (fun _ hk => ⟨hk.1.2, hk.2⟩)), (vK a.out), bl_⟩)
 rintro ⟨Q, O, an, P⟩ av ⟨hS_, X, Y, aa, am, bj⟩
 have d : Aside0 (Kd.R (Kd.int .u8) 5 av w.heap.size (fun k_ => some k_ ≠ (an : Value).ownBlock ∧ some k_ ≠ (P : Value).ownBlock) O L) := ⟨X⟩
 have l : Aside0 (Kd.R (Kd.int .u8) 5 av w.heap.size (fun k_ => some k_ ≠ (O : Value).ownBlock ∧ some k_ ≠ (P : Value).ownBlock) an W) := ⟨Y⟩
 have m : Aside0 (Kd.R (Kd.int .u8) 5 av w.heap.size (fun k_ => some k_ ≠ (O : Value).ownBlock ∧ some k_ ≠ (an : Value).ownBlock) P T) := ⟨aa⟩
 have x : Aside0 (av.heap[c]? = some (.cells #[.int .i64 p, .slice F y.length G, .bool A, .bool B, .int .i64 D, .bool E, .int .i64 u, .int .u8 q] 49 (0, 0))) := ⟨am⟩
 have ae : Aside0 (Below w.heap.size w av) := ⟨bj⟩
 clear a
 clear HB
 clear X Y aa am bj
 have s := d
 have af := l
 have z := m
 have a := x
 have HB := ae
 clear d l m x ae
 have hHeld := hS_
 obtain ⟨bN, bP, bS⟩ := Kd.R_slice z.out
 (first | subst bS | (injection bS with a0 bg a2; have bh := a0.symm; have bi := a2.symm; clear a0 bg a2; subst bh; subst bi))
 refine norm_ (a' := ?_) ?_ ?_
 rotate_left
 ·simp only [putAll, Act.put, sA, sB, sC]
  rfl
 refine oT_ HT_ 9 11 1023 (some 54) (fun K hK => ?_)
 refine Kd.R_append_rows_step (Kd.int .u8) (w0 := w) w.heap.size (by rfl) (.tmp 50) (.tmp 53) 37 5 (.int .u8 0) 1 rfl Tryz.underlying37 info5 rfl (by decide) (by omega) an W T _ _ _ (fun k_ => some k_ ≠ (O : Value).ownBlock ∧ some k_ ≠ (.slice bN T.length bP : Value).ownBlock) (fun _ => False) rfl rfl ?aO ?aR (fun _ _ h => h) (fun _ h => h.elim) ?aF ?aB ?aS ?aL ?_
 (case aR => repeat (first | exact (Kd.R_reads' z.out).2.2 | (with_reducible apply pC)))
 (case aB => exact bl_)
 (case aF => exact (fun k_ hk => ⟨Kd.fresh' (Kd.R_lt (by (with_reducible repeat apply pR); exact s.out)) k_ hk, Kd.fresh' (Kd.R_lt (by (with_reducible repeat apply pR); exact z.out)) k_ hk⟩))
 (case aO => exact (by (with_reducible repeat apply pR); exact af.out))
 (case aS => exact (below_size bl_))
 (case aL => have := b3.out; omega)
 intro fJ w64 ho hb hg hat
 rw [← b7.out] at ho
 have d := gw_ ⟨vK a.out⟩ hg (Kd.R_ne af.out a.out (by decide))
 have l := Z (Kd.R_after (ok := (fun k_ => some k_ ≠ (.slice bN T.length bP : Value).ownBlock)) (by (with_reducible repeat apply pR); exact Kd.R_mono s.out (fun _ hk => ⟨hk.2, hk.1⟩)) hg hat)
 have m := Z (Kd.R_after (ok := (fun k_ => some k_ ≠ (O : Value).ownBlock)) (by (with_reducible repeat apply pR); exact z.out) hg hat)
 have x := Z (hb)
 have ae := Z (ho)
 clear a
 clear s
 clear z
 clear HB
 clear af
 have a := d
 have s := l
 have z := m
 have HB := x
 have bZ := ae
 clear d l m x ae
 clear ho hb hg hat
 refine hK.out _ _ hd_ (fun hHeld => ?_)
 clear hK K
 refine nA_ (some 54) ?_
 refine pT_ HT_ 10 11 2047 (some 4) ?_
 refine done_ (done_of HT_.out (by kernel_rfl)) ?_
 try go_wp2
 go_ret
 exact ⟨_, er_, by (with_reducible repeat apply pR); exact Kd.R_mono bZ.out im_, bl_⟩

end Go.Proofs.YtphboakgkmjpbaaGreatDoor.P
