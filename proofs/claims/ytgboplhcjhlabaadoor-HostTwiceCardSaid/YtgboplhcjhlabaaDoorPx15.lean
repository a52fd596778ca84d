/- pp.py and press2.py (wip/tools) wrote this text. -/
import Derived.Test.YtgboplhcjhlabaaDoorPx0
import Derived.Test.YtgboplhcjhlabaaDoorPxS
import Derived.Test.YtgboplhcjhlabaaDoorPx0L
import Derived.Test.YtgboplhcjhlabaaDoorPx3
import Derived.Test.YtgboplhcjhlabaaDoorPx7
import Derived.Test.YtgboplhcjhlabaaDoorPx10
import Derived.Test.YtgboplhcjhlabaaDoorPx11
import Derived.Test.YtgboplhcjhlabaaDoorPx13
import Derived.Test.YtgboplhcjhlabaaDoorPx14
namespace Go.Proofs.YtgboplhcjhlabaaDoor.P
open Go.RowKit Go.Proofs.YtgboplhcjhlabaaDoorW.PrintWords Go.Proofs.YtgboplhcjhlabaaDoorW.PrintLast Go.Proofs.YtgboplhcjhlabaaDoorW.PrintMore
attribute [local go_sem] max2_int min2_int max_two min_two max_three min_three max_four min_four
attribute [local go_sem] Instr.field asAgg
set_option linter.unusedVariables false
set_option linter.unusedSimpArgs false

attribute [local go_sem high] eqA58
/-! ### attr_PutWcc: function 77 -/
def attr_PutWcc.f (k : Nat) (e : Bool) (g : Bool) (h : Bool) : Option (Int) := (attr_bit.f e 4).bind fun a => ((attr_bit.f g 2).bind fun b => ((attr_bit.f h 1).bind fun c => ((attr_sum.f k (([(⟨a.1, a.2⟩ : S119), (⟨b.1, b.2⟩ : S119), (⟨c.1, c.2⟩ : S119)] : List (S119)))).bind fun i => ((six_Put.f i).bind fun d => (some d.1)))))
theorem attr_PutWcc.mono : ∀ a0 a1 a k, LeO (attr_PutWcc.f k a0 a1 a) (attr_PutWcc.f (k + 1) a0 a1 a) := by
 intro a0 a1 a k
 unfold attr_PutWcc.f
 repeat' first
   | (with_reducible exact attr_sum.mono _ _)
   | (with_reducible exact LeO.refl _)
   | (with_reducible exact LeO.none _)
   | (with_reducible refine LeO.ite ?_ ?_)
   | (with_reducible refine LeO.bind ?_ (fun _ => ?_))
   | exact attr_sum.mono _ _
   | exact LeO.none _
   | refine LeO.ite ?_ ?_
   | refine LeO.bind ?_ (fun _ => ?_)
def attr_PutWcc.T1 : Bool × List (List Nat × List Nat) := (true, [([], []), ([0], [0]), ([1], [1]), ([], []), ([3], [3]), ([4, 2], [4]), ([], []), ([6], [6]), ([7, 5], [7]), ([2, 5, 8], [2, 5, 8]), ([9, 8], [9]), ([10, 10], [10]), ([11], [11]), ([12], [12]), ([12], [12]), ([13, 11, 0, 1, 2, 3, 4, 5, 6, 7, 8, 9, 10, 11, 12, 13], [13]), ([14, 15, 0, 1, 2, 3, 4, 5, 6, 7, 8, 9, 10, 11, 12, 13, 14, 15], [14])])
def attr_PutWcc.B1 : List Nat := [0, 1, 3, 0, 8, 31, 0, 64, 255, 511, 1023, 2047, 4095, 8191, 8191, 16383, 65535]
theorem attr_PutWcc.tab1 : rtab .any (opsOf Tryd.f77 1) = attr_PutWcc.T1 := by kernel_rfl
theorem attr_PutWcc.bits1 : waitsOk attr_PutWcc.T1.2 attr_PutWcc.B1 = true := by kernel_rfl
set_option maxHeartbeats 8000000 in
set_option maxRecDepth 100000 in
theorem attr_PutWcc.calls (k : Nat) (A : Bool) (u : Bool) (p : Bool) (r : Int) (w : World) (h : attr_PutWcc.f k A u p = some r) :
  Calls Tryd.prog 77 #[.agg #[.bool A, .bool u, .bool p]] w fun e w' => e = .returned (.int .u8 r) ∧ Below w.heap.size w w' := by
 have ax := Tryd.underlying58
 have HB := Z (Below.refl w.heap.size w)
 have H : ((attr_bit.f A 4).bind fun O => ((attr_bit.f u 2).bind fun E => ((attr_bit.f p 1).bind fun m => ((attr_sum.f k (([(⟨O.1, O.2⟩ : S119), (⟨E.1, E.2⟩ : S119), (⟨m.1, m.2⟩ : S119)] : List (S119)))).bind fun j => ((six_Put.f j).bind fun d => (some d.1)))))) = some r := h
 clear h
 replace H := Option.bind_eq_some_iff.mp H
 obtain ⟨⟨q, s⟩, W, H⟩ := H
 replace H : ((attr_bit.f u 2).bind fun E => ((attr_bit.f p 1).bind fun m => ((attr_sum.f k (([(⟨q, s⟩ : S119), (⟨E.1, E.2⟩ : S119), (⟨m.1, m.2⟩ : S119)] : List (S119)))).bind fun j => ((six_Put.f j).bind fun d => (some d.1))))) = some r := H
 have A2 := Z W
 clear W
 replace H := Option.bind_eq_some_iff.mp H
 obtain ⟨⟨y, z⟩, X, H⟩ := H
 replace H : ((attr_bit.f p 1).bind fun m => ((attr_sum.f k (([(⟨q, s⟩ : S119), (⟨y, z⟩ : S119), (⟨m.1, m.2⟩ : S119)] : List (S119)))).bind fun j => ((six_Put.f j).bind fun d => (some d.1)))) = some r := H
 have A3 := Z X
 clear X
 replace H := Option.bind_eq_some_iff.mp H
 obtain ⟨⟨C, D⟩, Y, H⟩ := H
 replace H : ((attr_sum.f k (([(⟨q, s⟩ : S119), (⟨y, z⟩ : S119), (⟨C, D⟩ : S119)] : List (S119)))).bind fun j => ((six_Put.f j).bind fun d => (some d.1))) = some r := H
 have A4 := Z Y
 clear Y
 obtain ⟨I, F⟩ : ∃ y_ : List (S119), y_ = (([(⟨q, s⟩ : S119), (⟨y, z⟩ : S119), (⟨C, D⟩ : S119)] : List (S119))) := ⟨_, rfl⟩
 replace H : ((attr_sum.f k I).bind fun j => ((six_Put.f j).bind fun d => (some d.1))) = some r := by first | (rw [F]; with_reducible exact H) | (have R := (Option.bind_some _ _).symm.trans H; rw [F]; with_reducible exact R) | (have R := (Option.bind_some _ _).symm.trans H; with_reducible exact R) | with_reducible exact H | (rw [F]; exact H) | exact H
 have L := Z F
 clear F
 replace H := Option.bind_eq_some_iff.mp H
 obtain ⟨j, aa, H⟩ := H
 replace H : ((six_Put.f j).bind fun d => (some d.1)) = some r := H
 have A5 := Z aa
 clear aa
 replace H := Option.bind_eq_some_iff.mp H
 obtain ⟨⟨V, af, ag⟩, ab, H⟩ := H
 replace H : (some V) = some r := H
 have A6 := Z ab
 clear ab
 obtain rfl := Option.some.inj H
 go_enter Tryd.func77, Tryd.ntmps77
 try go_wp2_with (first | ((with_reducible refine gate_dst (N := 1) rfl ?_); refine bx_ 1 58 #[.bool A, .bool u, .bool p] ?_; intro x hg w7 hbox hb; have a := Z (hbox); have ao := Z (ln_ hg : w.heap.size ≤ x); have an := Z (ln_ hg : w.heap.size ≤ x); replace HB := Z (below_step bl_ hb); clear hb hbox hg))
 have b := Z (blk_drew a.out)
 have c := Z (below_drew1 HB.out)
 clear a
 clear HB
 have a := b
 have HB := c
 clear b c
 refine start_ (n := 17) (S := fun w' => w'.cell? ⟨x, 0, none⟩ = some (.bool A) ∧ w'.cell? ⟨x, 1, none⟩ = some (.bool u) ∧ w'.cell? ⟨x, 2, none⟩ = some (.bool p)) (ds := []) (bv 17 0) (by kernel_rfl) rfl rfl ⟨(blk_cell a.out 0).trans rfl, (blk_cell a.out 1).trans rfl, (blk_cell a.out 2).trans rfl⟩ (fun hHeld => ?_); refine with_tabW attr_PutWcc.tab1 attr_PutWcc.bits1 (fun HT_ HW_ => ?_)
 generalize w7.drew = w8 at a HB hHeld ⊢
 refine pure_ (i := 0) (N := some 6) (v := ?_) (a' := ?_) (bv 17 1) rfl rfl (any_of HT_.out (by kernel_rfl)) (fun _ _ _ h => h) (Or.inl ⟨by rfl, ?_⟩) ?_ ?_
 rotate_left
 ·intro w'
  go_simp
  with_reducible rfl
 rotate_left
 ·simp only [Act.put, sA, sB, sC, i64_w, i32_w]
  rfl
 refine pure_ (i := 3) (N := some 9) (v := ?_) (a' := ?_) (bv 17 9) rfl rfl (any_of HT_.out (by kernel_rfl)) (fun _ _ _ h => h) (Or.inl ⟨by rfl, ?_⟩) ?_ ?_
 rotate_left
 ·intro w'
  go_simp
  with_reducible rfl
 rotate_left
 ·simp only [Act.put, sA, sB, sC, i64_w, i32_w]
  rfl
 refine pure_ (i := 6) (N := some 12) (v := ?_) (a' := ?_) (bv 17 73) rfl rfl (any_of HT_.out (by kernel_rfl)) (fun _ _ _ h => h) (Or.inl ⟨by rfl, ?_⟩) ?_ ?_
 rotate_left
 ·intro w'
  go_simp
  with_reducible rfl
 rotate_left
 ·simp only [Act.put, sA, sB, sC, i64_w, i32_w]
  rfl
 refine take_ (i := 1) (N := some 7) (v := ?_) (a' := ?_) (bv 17 75) rfl rfl (take_ofW HT_.out HW_.out (by kernel_rfl)) (fun _ _ _ h => h) (Or.inl ⟨by rfl, ?_⟩) hHeld ?_ ?_
 rotate_left
 ·rintro w' ⟨s0, s1, s2⟩
  go_simp
  with_reducible rfl
 rotate_left
 ·simp only [Act.put, sA, sB, sC, i64_w, i32_w]
  rfl
 refine take_ (i := 4) (N := some 10) (v := ?_) (a' := ?_) (bv 17 91) rfl rfl (take_ofW HT_.out HW_.out (by kernel_rfl)) (fun _ _ _ h => h) (Or.inl ⟨by rfl, ?_⟩) hHeld ?_ ?_
 rotate_left
 ·rintro w' ⟨s0, s1, s2⟩
  go_simp
  with_reducible rfl
 rotate_left
 ·simp only [Act.put, sA, sB, sC, i64_w, i32_w]
  rfl
 refine take_ (i := 7) (N := some 13) (v := ?_) (a' := ?_) (bv 17 219) rfl rfl (take_ofW HT_.out HW_.out (by kernel_rfl)) (fun _ _ _ h => h) (Or.inl ⟨by rfl, ?_⟩) hHeld ?_ ?_
 rotate_left
 ·rintro w' ⟨s0, s1, s2⟩
  go_simp
  with_reducible rfl
 rotate_left
 ·simp only [Act.put, sA, sB, sC, i64_w, i32_w]
  rfl
 refine one_ (i := 2) (N := some 8) (bv 17 223) rfl rfl (one_of HT_.out (by kernel_rfl)) (by decide) (fun K hK => ?_)
 refine goes_ Tryd.func85 (by kernel_rfl) rfl #[.bool A, .int .i64 4] (by rfl) rfl rfl ag_ ?_
 with_reducible refine (attr_bit.calls A 4 q s _ A2.out).mono ?_
 rintro e w9 ⟨rfl, hb⟩
 refine ⟨_, rfl, ?_⟩
 have b := Z (kb a.out hb)
 have c := Z (below_step bl_ hb)
 clear a
 clear HB
 have a := b
 have HB := c
 clear b c
 (try clear hb)
 (try clear P)
 (try clear hk)
 (try clear hi)
 refine hK.out _ _ ⟨(blk_cell a.out 0).trans rfl, (blk_cell a.out 1).trans rfl, (blk_cell a.out 2).trans rfl⟩ (fun hHeld => ?_)
 clear hK K
 refine norm_ (a' := ?_) ?_ ?_
 rotate_left
 ·show Act.put _ (some 8) _ = _
  simp only [Act.put, sA, sB, sC, i64_w, i32_w]
  rfl
 refine one_ (i := 5) (N := some 11) (bv 17 255) rfl rfl (one_of HT_.out (by kernel_rfl)) (by decide) (fun K hK => ?_)
 refine goes_ Tryd.func85 (by kernel_rfl) rfl #[.bool u, .int .i64 2] (by rfl) rfl rfl ag_ ?_
 with_reducible refine (attr_bit.calls u 2 y z _ A3.out).mono ?_
 rintro e aA ⟨rfl, hb⟩
 refine ⟨_, rfl, ?_⟩
 have b := Z (kb a.out hb)
 have c := Z (below_step bl_ hb)
 clear a
 clear HB
 have a := b
 have HB := c
 clear b c
 (try clear hb)
 (try clear P)
 (try clear hk)
 (try clear hi)
 refine hK.out _ _ ⟨(blk_cell a.out 0).trans rfl, (blk_cell a.out 1).trans rfl, (blk_cell a.out 2).trans rfl⟩ (fun hHeld => ?_)
 clear hK K
 refine norm_ (a' := ?_) ?_ ?_
 rotate_left
 ·show Act.put _ (some 11) _ = _
  simp only [Act.put, sA, sB, sC, i64_w, i32_w]
  rfl
 refine one_ (i := 8) (N := some 14) (bv 17 511) rfl rfl (one_of HT_.out (by kernel_rfl)) (by decide) (fun K hK => ?_)
 refine goes_ Tryd.func85 (by kernel_rfl) rfl #[.bool p, .int .i64 1] (by rfl) rfl rfl ag_ ?_
 with_reducible refine (attr_bit.calls p 1 C D _ A4.out).mono ?_
 rintro e aB ⟨rfl, hb⟩
 refine ⟨_, rfl, ?_⟩
 have b := Z (kb a.out hb)
 have c := Z (below_step bl_ hb)
 clear a
 clear HB
 have a := b
 have HB := c
 clear b c
 (try clear hb)
 (try clear P)
 (try clear hk)
 (try clear hi)
 refine hK.out _ _ ⟨(blk_cell a.out 0).trans rfl, (blk_cell a.out 1).trans rfl, (blk_cell a.out 2).trans rfl⟩ (fun hHeld => ?_)
 clear hK K
 refine norm_ (a' := ?_) ?_ ?_
 rotate_left
 ·show Act.put _ (some 14) _ = _
  simp only [Act.put, sA, sB, sC, i64_w, i32_w]
  rfl
 refine one_ (i := 9) (N := some 15) (bv 17 1023) rfl rfl (one_of HT_.out (by kernel_rfl)) (by decide) (fun K hK => ?_)
 refine Kd.R_lit_step k119 _ 119 ?hg (N := 15) ?hd (xs := ([(⟨q, s⟩ : S119), (⟨y, z⟩ : S119), (⟨C, D⟩ : S119)] : List (S119))) (inner := [.bool q, .int .i64 s, .bool y, .int .i64 z, .bool C, .int .i64 D]) (ok := fun _ => True) (okp := fun _ => True) ?hr ?hp (fun _ hk => hk) trivial (Below.refl _ _) (Nat.le_refl _) (by simp) ?_; (case hd => rfl); (case hg => rfl); (case hr => first | (go_simp; done) | (go_simp; rfl)); (case hp => exact (Reps.c2 (show Kd.M k119 _ _ _ (⟨q, s⟩ : S119) [.bool q, .int .i64 s] from (k119_mkM _ _ _ (⟨q, s⟩ : S119) )) (Reps.c2 (show Kd.M k119 _ _ _ (⟨y, z⟩ : S119) [.bool y, .int .i64 z] from (k119_mkM _ _ _ (⟨y, z⟩ : S119) )) (Reps.c2 (show Kd.M k119 _ _ _ (⟨C, D⟩ : S119) [.bool C, .int .i64 D] from (k119_mkM _ _ _ (⟨C, D⟩ : S119) )) (Reps.none _ _)))))
 intro ay aC G hb hg_ hnew_
 clear hg_ hnew_
 (first | rw [← L.out] at G | (simp only [Int.reduceToNat] at G; rw [← L.out] at G))
 have b := Z (Kd.R_lower G (below_size bl_))
 have c := Z (kb a.out hb)
 have B := Z (below_step bl_ hb)
 clear a
 clear HB
 have l := b
 have a := c
 have HB := B
 clear b c B
 clear hb G
 obtain ⟨Q, T, U⟩ := Kd.R_slice l.out
 (first | subst U | (injection U with ac ah ad; have ai := ac.symm; have aj := ad.symm; clear ac ah ad; subst ai; subst aj))
 refine hK.out _ _ ⟨(blk_cell a.out 0).trans rfl, (blk_cell a.out 1).trans rfl, (blk_cell a.out 2).trans rfl⟩ (fun hHeld => ?_)
 clear hK K
 refine norm_ (a' := ?_) ?_ ?_
 rotate_left
 ·show Act.put _ (some 15) _ = _
  simp only [Act.put, sA, sB, sC, i64_w, i32_w]
  rfl
 refine one_ (i := 10) (N := some 16) (bv 17 2047) rfl rfl (one_of HT_.out (by kernel_rfl)) (by decide) (fun K hK => ?_)
 refine goes_ Tryd.func84 (by kernel_rfl) rfl #[.slice Q I.length T] (by rfl) rfl rfl ag_ ?_
 with_reducible refine (attr_sum.calls k _ _ I j _ ?side1 ?side2 A5.out).mono ?_
 (case side1 => repeat (first | exact (Kd.R_reads' l.out).2.2 | (with_reducible apply pC)))
 (case side2 => exact (Kd.R_reads' l.out).2.1)
 rintro e aD ⟨rfl, hb⟩
 refine ⟨_, rfl, ?_⟩
 have b := Z (rb l.out hb)
 have c := Z (kb a.out hb)
 have B := Z (below_step bl_ hb)
 clear l
 clear a
 clear HB
 have l := b
 have a := c
 have HB := B
 clear b c B
 (try clear hb)
 (try clear P)
 (try clear hk)
 (try clear hi)
 refine hK.out _ _ ⟨(blk_cell a.out 0).trans rfl, (blk_cell a.out 1).trans rfl, (blk_cell a.out 2).trans rfl⟩ (fun hHeld => ?_)
 clear hK K
 refine norm_ (a' := ?_) ?_ ?_
 rotate_left
 ·show Act.put _ (some 16) _ = _
  simp only [Act.put, sA, sB, sC, i64_w, i32_w]
  rfl
 refine one_ (i := 11) (N := some 17) (bv 17 4095) rfl rfl (one_of HT_.out (by kernel_rfl)) (by decide) (fun K hK => ?_)
 refine goes_ Tryd.func83 (by kernel_rfl) rfl #[.int .i64 j] (by rfl) rfl rfl ag_ ?_
 with_reducible refine (six_Put.calls j V af ag _ A6.out).mono ?_
 rintro e aE ⟨az, rfl, ae, hb⟩
 refine ⟨_, rfl, ?_⟩
 have b := Z (rb l.out hb)
 have c := Z (Kd.V_lower (Kd.V_mono (ok' := fun k_ => some k_ ≠ (.slice Q I.length T : Value).ownBlock ∧ k_ ≠ x) ae (fun k_ hk_ => ⟨(Kd.fresh' (Kd.R_lt (by (with_reducible repeat apply pR); exact l.out)) k_ hk_), (Kd.freshB (g := x) (o := .cells #[.bool A, .bool u, .bool p] 58 (0, 0)) (vK a.out) k_ hk_)⟩)) (below_size bl_))
 have B := Z (kb a.out hb)
 have J := Z (below_step bl_ hb)
 clear l
 clear a
 clear HB
 have l := b
 have ap := c
 have a := B
 have HB := J
 clear b c B J
 (try clear hb)
 (try clear P)
 (try clear hk)
 (try clear hi)
 (try clear ae)
 (try simp only [errW_none, errW_some])
 refine hK.out _ _ ⟨(blk_cell a.out 0).trans rfl, (blk_cell a.out 1).trans rfl, (blk_cell a.out 2).trans rfl⟩ (fun hHeld => ?_)
 clear hK K
 refine norm_ (a' := ?_) ?_ ?_
 rotate_left
 ·show Act.put _ (some 17) _ = _
  simp only [Act.put, sA, sB, sC, i64_w, i32_w]
  rfl
 refine pure_ (i := 12) (N := some 5) (v := ?_) (a' := ?_) (bv 17 8191) rfl rfl (any_of HT_.out (by kernel_rfl)) (fun _ _ _ h => h) (Or.inl ⟨by rfl, ?_⟩) ?_ ?_
 rotate_left
 ·intro w'
  go_simp
  with_reducible rfl
 rotate_left
 ·simp only [Act.put, sA, sB, sC, i64_w, i32_w]
  rfl
 refine pure_ (i := 13) (N := some 18) (v := ?_) (a' := ?_) (bv 17 16383) rfl rfl (any_of HT_.out (by kernel_rfl)) (fun _ _ _ h => h) (Or.inl ⟨by rfl, ?_⟩) ?_ ?_
 rotate_left
 ·intro w'
  go_simp
  with_reducible rfl
 rotate_left
 ·simp only [Act.put, sA, sB, sC, i64_w, i32_w]
  rfl
 refine pure_ (i := 14) (N := some 19) (v := ?_) (a' := ?_) (bv 17 32767) rfl rfl (any_of HT_.out (by kernel_rfl)) (fun _ _ _ h => h) (Or.inl ⟨by rfl, ?_⟩) ?_ ?_
 rotate_left
 ·intro w'
  go_simp
  with_reducible rfl
 rotate_left
 ·simp only [Act.put, sA, sB, sC, i64_w, i32_w]
  rfl
 refine pure_ (i := 15) (N := some 3) (v := ?_) (a' := ?_) (bv 17 65535) rfl rfl (any_of HT_.out (by kernel_rfl)) (fun _ _ _ h => h) (Or.inl ⟨by rfl, ?_⟩) ?_ ?_
 rotate_left
 ·intro w'
  go_simp
  with_reducible rfl
 rotate_left
 ·simp only [Act.put, sA, sB, sC, i64_w, i32_w]
  rfl
 refine pure_ (i := 16) (N := some 4) (v := ?_) (a' := ?_) (bv 17 131071) rfl rfl (any_of HT_.out (by kernel_rfl)) (fun _ _ _ h => h) (Or.inl ⟨by rfl, ?_⟩) ?_ ?_
 rotate_left
 ·intro w'
  go_simp
  with_reducible rfl
 rotate_left
 ·simp only [Act.put, sA, sB, sC, i64_w, i32_w]
  rfl
 refine done_ (done_of HT_.out (by kernel_rfl)) ?_
 try go_wp2
 go_ret
 exact ⟨er_, bl_⟩

/-! ### stream_Write: function 48 -/
def stream_Write.f (k : Nat) (b : Int) (d : Bool) (e : Bool) (g : Bool) (h : List (S30)) (a1 : Int) : Option (List Int × Option Er × (List (S184))) := (stream_known.f k b).bind fun l => (if l = true then ((some (([(b) % 256] : List Int) : List Int)).bind fun c => ((stream_Writes.f b).bind fun m => (if m = true then ((stream_orders.f k h a1).bind fun a => (if a.2.1.isNone = true then ((attr_PutWcc.f k d e g).bind fun n => (if c.length < 140737488355328 then ((some (c ++ [n] : List Int)).bind fun i => (if i.length + a.1.length < 140737488355328 then ((some (i ++ a.1 : List Int)).bind fun j => (if (j.length : Int) > 8192 then (some (([] : List Int), some (Er.num 6), ([] : List (S184)))) else (some (j, none, ([] : List (S184)))))) else (none))) else (none))) else (some (([] : List Int), some (a.2.1.getD ez), a.2.2)))) else (if (d || (e || (g))) = true then (some (([] : List Int), some (Er.num 1), ([] : List (S184)))) else (if (h.length : Int) > 0 then (some (([] : List Int), some (Er.num 1), ([] : List (S184)))) else (some (c, none, ([] : List (S184))))))))) else (some (([] : List Int), some (Er.num 5), ([] : List (S184)))))
theorem stream_Write.mono : ∀ a0 a1 a b a4 c k, LeO (stream_Write.f k a0 a1 a b a4 c) (stream_Write.f (k + 1) a0 a1 a b a4 c) := by
 intro a0 a1 a b a4 c k
 unfold stream_Write.f
 repeat' first
   | (with_reducible exact attr_PutWcc.mono _ _ _ _)
   | (with_reducible exact stream_known.mono _ _)
   | (with_reducible exact stream_orders.mono _ _ _)
   | (with_reducible exact LeO.refl _)
   | (with_reducible exact LeO.none _)
   | (with_reducible refine LeO.ite ?_ ?_)
   | (with_reducible refine LeO.bind ?_ (fun _ => ?_))
   | exact attr_PutWcc.mono _ _ _ _
   | exact stream_known.mono _ _
   | exact stream_orders.mono _ _ _
   | exact LeO.none _
   | refine LeO.ite ?_ ?_
   | refine LeO.bind ?_ (fun _ => ?_)
set_option maxHeartbeats 8000000 in
set_option maxRecDepth 100000 in
theorem stream_Write.calls (k : Nat) (c : Int) (q : Bool) (r : Bool) (s : Bool) (E : Option Addr) (F : Nat) (n : List (S30)) (a1 : Int) (U : List Int) (W : Option Er) (X : List (S184)) (w : World) (aD : Kd.C k30 w E n.length n) (aC : n.length ≤ F) (h : stream_Write.f k c q r s n a1 = some (U, W, X)) :
  Calls Tryd.prog 48 #[.agg #[.int .i64 c, .bool q, .bool r, .bool s, .slice E n.length F], .int .i64 a1] w fun e w' => ∃ aM a2 : Value, e = .returned (.tuple #[aM, errW a2 W]) ∧ Kd.R (Kd.int .u8) 5 w' w.heap.size (fun k_ => (w.heap.size ≤ k_)) aM U ∧ Kd.V k184 184 w' w.heap.size (fun k_ => (w.heap.size ≤ k_) ∧ some k_ ≠ (aM : Value).ownBlock) a2 X ∧ Below w.heap.size w w' := by
 have dM := Tryd.underlying60
 have dL := Tryd.underlying58
 have dK := Tryd.underlying34
 have dN := Tryd.underlying75
 have ap := Z aD
 have ao := Z aC
 clear aD aC
 have HB := Z (Below.refl w.heap.size w)
 have H : ((stream_known.f k c).bind fun aq => (if aq = true then ((some (([(c) % 256] : List Int) : List Int)).bind fun z => ((stream_Writes.f c).bind fun J => (if J = true then ((stream_orders.f k n a1).bind fun l => (if l.2.1.isNone = true then ((attr_PutWcc.f k q r s).bind fun B => (if z.length < 140737488355328 then ((some (z ++ [B] : List Int)).bind fun y => (if y.length + l.1.length < 140737488355328 then ((some (y ++ l.1 : List Int)).bind fun u => (if (u.length : Int) > 8192 then (some (([] : List Int), some (Er.num 6), ([] : List (S184)))) else (some (u, none, ([] : List (S184)))))) else (none))) else (none))) else (some (([] : List Int), some (l.2.1.getD ez), l.2.2)))) else (if (q || (r || (s))) = true then (some (([] : List Int), some (Er.num 1), ([] : List (S184)))) else (if (n.length : Int) > 0 then (some (([] : List Int), some (Er.num 1), ([] : List (S184)))) else (some (z, none, ([] : List (S184))))))))) else (some (([] : List Int), some (Er.num 5), ([] : List (S184)))))) = some (U, W, X) := h
 clear h
 replace H := Option.bind_eq_some_iff.mp H
 obtain ⟨aq, aX, H⟩ := H
 replace H : (if aq = true then ((some (([(c) % 256] : List Int) : List Int)).bind fun z => ((stream_Writes.f c).bind fun J => (if J = true then ((stream_orders.f k n a1).bind fun l => (if l.2.1.isNone = true then ((attr_PutWcc.f k q r s).bind fun B => (if z.length < 140737488355328 then ((some (z ++ [B] : List Int)).bind fun y => (if y.length + l.1.length < 140737488355328 then ((some (y ++ l.1 : List Int)).bind fun u => (if (u.length : Int) > 8192 then (some (([] : List Int), some (Er.num 6), ([] : List (S184)))) else (some (u, none, ([] : List (S184)))))) else (none))) else (none))) else (some (([] : List Int), some (l.2.1.getD ez), l.2.2)))) else (if (q || (r || (s))) = true then (some (([] : List Int), some (Er.num 1), ([] : List (S184)))) else (if (n.length : Int) > 0 then (some (([] : List Int), some (Er.num 1), ([] : List (S184)))) else (some (z, none, ([] : List (S184))))))))) else (some (([] : List Int), some (Er.num 5), ([] : List (S184))))) = some (U, W, X) := H
 have A3 := Z aX
 clear aX
 by_cases c4 : aq = true
 ·subst c4
  have H1 : ((some (([(c) % 256] : List Int) : List Int)).bind fun z => ((stream_Writes.f c).bind fun J => (if J = true then ((stream_orders.f k n a1).bind fun l => (if l.2.1.isNone = true then ((attr_PutWcc.f k q r s).bind fun B => (if z.length < 140737488355328 then ((some (z ++ [B] : List Int)).bind fun y => (if y.length + l.1.length < 140737488355328 then ((some (y ++ l.1 : List Int)).bind fun u => (if (u.length : Int) > 8192 then (some (([] : List Int), some (Er.num 6), ([] : List (S184)))) else (some (u, none, ([] : List (S184)))))) else (none))) else (none))) else (some (([] : List Int), some (l.2.1.getD ez), l.2.2)))) else (if (q || (r || (s))) = true then (some (([] : List Int), some (Er.num 1), ([] : List (S184)))) else (if (n.length : Int) > 0 then (some (([] : List Int), some (Er.num 1), ([] : List (S184)))) else (some (z, none, ([] : List (S184))))))))) = some (U, W, X) := by rw [if_pos rfl] at H; exact H
  clear H
  have H := H1
  clear H1
  obtain ⟨z, Y⟩ : ∃ y_ : List Int, y_ = (([(c) % 256] : List Int)) := ⟨_, rfl⟩
  replace H : ((stream_Writes.f c).bind fun J => (if J = true then ((stream_orders.f k n a1).bind fun l => (if l.2.1.isNone = true then ((attr_PutWcc.f k q r s).bind fun B => (if z.length < 140737488355328 then ((some (z ++ [B] : List Int)).bind fun y => (if y.length + l.1.length < 140737488355328 then ((some (y ++ l.1 : List Int)).bind fun u => (if (u.length : Int) > 8192 then (some (([] : List Int), some (Er.num 6), ([] : List (S184)))) else (some (u, none, ([] : List (S184)))))) else (none))) else (none))) else (some (([] : List Int), some (l.2.1.getD ez), l.2.2)))) else (if (q || (r || (s))) = true then (some (([] : List Int), some (Er.num 1), ([] : List (S184)))) else (if (n.length : Int) > 0 then (some (([] : List Int), some (Er.num 1), ([] : List (S184)))) else (some (z, none, ([] : List (S184)))))))) = some (U, W, X) := by first | (rw [Y]; with_reducible exact H) | (have P := (Option.bind_some _ _).symm.trans H; rw [Y]; with_reducible exact P) | (have P := (Option.bind_some _ _).symm.trans H; with_reducible exact P) | with_reducible exact H | (rw [Y]; exact H) | exact H
  have I := Z Y
  clear Y
  replace H := Option.bind_eq_some_iff.mp H
  obtain ⟨J, aY, H⟩ := H
  replace H : (if J = true then ((stream_orders.f k n a1).bind fun l => (if l.2.1.isNone = true then ((attr_PutWcc.f k q r s).bind fun B => (if z.length < 140737488355328 then ((some (z ++ [B] : List Int)).bind fun y => (if y.length + l.1.length < 140737488355328 then ((some (y ++ l.1 : List Int)).bind fun u => (if (u.length : Int) > 8192 then (some (([] : List Int), some (Er.num 6), ([] : List (S184)))) else (some (u, none, ([] : List (S184)))))) else (none))) else (none))) else (some (([] : List Int), some (l.2.1.getD ez), l.2.2)))) else (if (q || (r || (s))) = true then (some (([] : List Int), some (Er.num 1), ([] : List (S184)))) else (if (n.length : Int) > 0 then (some (([] : List Int), some (Er.num 1), ([] : List (S184)))) else (some (z, none, ([] : List (S184))))))) = some (U, W, X) := H
  have A5 := Z aY
  clear aY
  by_cases c6 : J = true
  ·subst c6
   have H1 : ((stream_orders.f k n a1).bind fun l => (if l.2.1.isNone = true then ((attr_PutWcc.f k q r s).bind fun B => (if z.length < 140737488355328 then ((some (z ++ [B] : List Int)).bind fun y => (if y.length + l.1.length < 140737488355328 then ((some (y ++ l.1 : List Int)).bind fun u => (if (u.length : Int) > 8192 then (some (([] : List Int), some (Er.num 6), ([] : List (S184)))) else (some (u, none, ([] : List (S184)))))) else (none))) else (none))) else (some (([] : List Int), some (l.2.1.getD ez), l.2.2)))) = some (U, W, X) := by rw [if_pos rfl] at H; exact H
   clear H
   have H := H1
   clear H1
   replace H := Option.bind_eq_some_iff.mp H
   obtain ⟨⟨G, av, ak⟩, aZ, H⟩ := H
   replace H : (if av.isNone = true then ((attr_PutWcc.f k q r s).bind fun B => (if z.length < 140737488355328 then ((some (z ++ [B] : List Int)).bind fun y => (if y.length + G.length < 140737488355328 then ((some (y ++ G : List Int)).bind fun u => (if (u.length : Int) > 8192 then (some (([] : List Int), some (Er.num 6), ([] : List (S184)))) else (some (u, none, ([] : List (S184)))))) else (none))) else (none))) else (some (([] : List Int), some (av.getD ez), ak))) = some (U, W, X) := H
   have A7 := Z aZ
   clear aZ
   rcases av with _ | au
   ·have H1 : ((attr_PutWcc.f k q r s).bind fun B => (if z.length < 140737488355328 then ((some (z ++ [B] : List Int)).bind fun y => (if y.length + G.length < 140737488355328 then ((some (y ++ G : List Int)).bind fun u => (if (u.length : Int) > 8192 then (some (([] : List Int), some (Er.num 6), ([] : List (S184)))) else (some (u, none, ([] : List (S184)))))) else (none))) else (none))) = some (U, W, X) := by rw [if_pos (show (none : Option Er).isNone = true by rfl)] at H; exact H
    clear H
    have H := H1
    clear H1
    try simp only [errW_none, errW_some]
    replace H := Option.bind_eq_some_iff.mp H
    obtain ⟨B, a0, H⟩ := H
    replace H : (if z.length < 140737488355328 then ((some (z ++ [B] : List Int)).bind fun y => (if y.length + G.length < 140737488355328 then ((some (y ++ G : List Int)).bind fun u => (if (u.length : Int) > 8192 then (some (([] : List Int), some (Er.num 6), ([] : List (S184)))) else (some (u, none, ([] : List (S184)))))) else (none))) else (none)) = some (U, W, X) := H
    have A8 := Z a0
    clear a0
    by_cases c9 : z.length < 140737488355328
    ·rw [if_pos c9] at H
     have aI := Z c9
     clear c9
     obtain ⟨y, aa⟩ : ∃ y_ : List Int, y_ = (z ++ [B]) := ⟨_, rfl⟩
     replace H : (if y.length + G.length < 140737488355328 then ((some (y ++ G : List Int)).bind fun u => (if (u.length : Int) > 8192 then (some (([] : List Int), some (Er.num 6), ([] : List (S184)))) else (some (u, none, ([] : List (S184)))))) else (none)) = some (U, W, X) := by first | (rw [aa]; with_reducible exact H) | (have P := (Option.bind_some _ _).symm.trans H; rw [aa]; with_reducible exact P) | (have P := (Option.bind_some _ _).symm.trans H; with_reducible exact P) | with_reducible exact H | (rw [aa]; exact H) | exact H
     have ay := Z aa
     clear aa
     by_cases c10 : y.length + G.length < 140737488355328
     ·rw [if_pos c10] at H
      have ax := Z c10
      clear c10
      obtain ⟨u, ab⟩ : ∃ y_ : List Int, y_ = (y ++ G) := ⟨_, rfl⟩
      replace H : (if (u.length : Int) > 8192 then (some (([] : List Int), some (Er.num 6), ([] : List (S184)))) else (some (u, none, ([] : List (S184))))) = some (U, W, X) := by first | (rw [ab]; with_reducible exact H) | (have P := (Option.bind_some _ _).symm.trans H; rw [ab]; with_reducible exact P) | (have P := (Option.bind_some _ _).symm.trans H; with_reducible exact P) | with_reducible exact H | (rw [ab]; exact H) | exact H
      have az := Z ab
      clear ab
      by_cases al : (u.length : Int) > 8192
      ·rw [if_pos al] at H
       have aQ : decide (8192 < (u.length : Int)) = true := decide_eq_true al
       have aT : decide (8192 < u.length) = true := decide_eq_true (by omega)
       clear al
       simp only [Option.some.injEq, Prod.mk.injEq] at H
       obtain ⟨rfl, rfl, rfl⟩ := H
       go_enter Tryd.func48, Tryd.ntmps48
       go_wp2_with (first | ((with_reducible refine gate_dst (N := 2) rfl ?_); (try (refine gate_guard (by rfl) ?_; dsimp only)); refine bx_ 2 60 #[.int .i64 c, .bool q, .bool r, .bool s, .slice E n.length F] ?_; intro m hg dO hbox hb; have a := Z (hbox); have T := Z (ln_ hg : w.heap.size ≤ m); have S := Z (ln_ hg : w.heap.size ≤ m); replace HB := Z (below_step bl_ hb); clear hb hbox hg; obtain ⟨a9, ba, bb, bc, bd, cn, co, cp, cq, cr⟩ := cells5 a.out) | ((with_reducible refine gate_callee (f := 74) rfl ?_); refine goesL_ (some 11) rfl rfl Tryd.func74 (by kernel_rfl) rfl #[.int .i64 c] rfl ag_ ?_; (with_reducible refine (stream_known.calls k c true _ A3.out).mono ?_); rintro e w' ⟨rfl, ⟨nd, rfl⟩⟩; refine ⟨_, rfl, ?_⟩) | ((with_reducible refine gate_dst (N := 17) rfl ?_); (try (refine gate_guard (by rfl) ?_; dsimp only)); refine Kd.R_lit (Kd.int .u8) _ 5 ?hg (N := 17) ?hd (xs := ([(c) % 256] : List Int)) (inner := [.int .u8 ((c) % 256)]) (ok := fun _ => True) (okp := fun _ => True) ?hr ?hp (fun _ hk => hk) trivial (Below.refl _ _) (Nat.le_refl _) (by simp) ?_; (case hd => rfl); (case hg => rfl); (case hr => first | (go_simp; done) | (go_simp; rfl)); (case hp => exact (Reps.one (show Kd.M (Kd.int .u8) _ _ _ ((c) % 256) [.int .u8 ((c) % 256)] from rfl) (Reps.none _ _))); intro K dP ae hb hg_ hnew_; clear hg_ hnew_; (first | rw [← I.out] at ae | (simp only [Int.reduceToNat] at ae; rw [← I.out] at ae)); have p := Z (Kd.R_lower (Kd.R_newM (M := fun k_ => (w.heap.size ≤ k_)) ae (below_size bl_) (fun k_ h_ => h_)) (below_size bl_)); replace a := Z (kb a.out hb); replace HB := Z (below_step bl_ hb); clear hb ae; obtain ⟨be, bf, bg, bh, bi, ct, cu, cv, cw, cx⟩ := cells5 a.out) | ((with_reducible refine gate_callee (f := 75) rfl ?_); refine goesL_ (some 20) rfl rfl Tryd.func75 (by kernel_rfl) rfl #[.int .i64 c] rfl ag_ ?_; (with_reducible refine (stream_Writes.calls c true _ A5.out).mono ?_); rintro e w' ⟨rfl, ⟨nd, rfl⟩⟩; refine ⟨_, rfl, ?_⟩) | ((with_reducible refine gate_callee (f := 76) rfl ?_); refine goesL_ (some 38) rfl rfl Tryd.func76 (by kernel_rfl) rfl #[.slice E n.length F, .int .i64 a1] rfl ag_ ?_; (with_reducible refine (stream_orders.calls k _ _ n a1 G none ak _ ?side1 ?side2 A7.out).mono ?_); (case side1 => repeat (first | exact (Kd.C_below ap.out bl_) | (with_reducible apply pC))); (case side2 => exact ao.out); rintro e dQ ⟨O, aN, rfl, Q, ac, hb⟩; refine ⟨_, rfl, ?_⟩; have v := Z (Kd.R_lower (Kd.R_new' (Kd.R_newM (M := fun k_ => (w.heap.size ≤ k_)) (Kd.R_mono (ok' := fun k_ => True) Q (fun _ hk_ => trivial)) (below_size bl_) (fun k_ h_ => h_)) (Kd.R_lt (by (with_reducible repeat apply pR); exact p.out))) (below_size bl_)); have A := Z (Kd.V_lower (Kd.V_mono (ok' := fun k_ => (w.heap.size ≤ k_) ∧ some k_ ≠ (O : Value).ownBlock ∧ some k_ ≠ (K : Value).ownBlock ∧ k_ ≠ m) ac (fun k_ hk_ => ⟨(Nat.le_trans (below_size bl_) hk_.1), hk_.2, (Kd.fresh' (Kd.R_lt (by (with_reducible repeat apply pR); exact p.out)) k_ hk_.1), (Kd.freshB (g := m) (o := .cells #[.int .i64 c, .bool q, .bool r, .bool s, .slice E n.length F] 60 (0, 0)) (vK a.out) k_ hk_.1)⟩)) (below_size bl_)); replace p := Z (Kd.R_elder' (by (with_reducible repeat apply pR); exact p.out) (Kd.R_base Q) hb); replace a := Z (kb a.out hb); replace HB := Z (below_step bl_ hb); (try clear hb); (try clear aA); (try clear hk); (try clear hi); (try clear Q); (try clear ac); (try simp only [errW_none, errW_some]); obtain ⟨bj, bk, bl, bm, bn, cy, cz, cA, cB, cC⟩ := cells5 a.out) | ((with_reducible refine gate_callee (f := 77) rfl ?_); refine goesL_ (some 47) rfl rfl Tryd.func77 (by kernel_rfl) rfl #[.agg #[.bool q, .bool r, .bool s]] rfl ag_ ?_; (with_reducible refine (attr_PutWcc.calls k q r s B _ A8.out).mono ?_); rintro e dR ⟨rfl, hb⟩; refine ⟨_, rfl, ?_⟩; replace p := Z (rb p.out hb); replace v := Z (rb v.out hb); replace A := Z (vb A.out hb); replace a := Z (kb a.out hb); replace HB := Z (below_step bl_ hb); (try clear hb); (try clear aA); (try clear hk); (try clear hi)) | ((with_reducible refine gate_builtin (b := .append) (xs := #[.tmp 44, .tmp 48]) rfl ?_); (try (refine gate_guard (by rfl) ?_; dsimp only)); at_builtin; refine Kd.R_append (Kd.int .u8) (w0 := w) w.heap.size rfl (.tmp 44) (.tmp 48) 26 5 (.int .u8 0) 1 rfl Tryd.underlying26 info5 rfl (by decide) (by omega) K z B [.int .u8 B] (fun k_ => (w.heap.size ≤ k_) ∧ some k_ ≠ (O : Value).ownBlock) (fun _ => False) rfl rfl ?aP (fun _ hk => hk.elim) ?aF ?aO ?aB ?aS ?aL ?_; (case aP => exact rfl); (case aB => exact bl_); (case aF => exact (fun k_ hk => ⟨(Nat.le_trans (below_size bl_) hk), Kd.fresh' (Kd.R_lt (by (with_reducible repeat apply pR); exact v.out)) k_ hk⟩)); (case aO => exact (by (with_reducible repeat apply pR); exact Kd.R_mono p.out (fun _ hk => ⟨hk.1.1, hk.2⟩))); (case aS => exact (below_size bl_)); (case aL => have := aI.out; omega); intro aw dS ho hb hg hat; rw [← ay.out] at ho; replace a := Z (blk_grown (g := m) (o := .cells #[.int .i64 c, .bool q, .bool r, .bool s, .slice E n.length F] 60 (0, 0)) (vK a.out) hg (Kd.R_ne p.out a.out (by decide))); replace v := Z (Kd.R_after (ok := (fun k_ => (w.heap.size ≤ k_))) (by (with_reducible repeat apply pR); exact Kd.R_mono v.out (fun _ hk => ⟨hk.1.1, hk.2⟩)) hg hat); replace A := Z (Kd.V_afterv (ok := (fun k_ => (w.heap.size ≤ k_) ∧ some k_ ≠ (O : Value).ownBlock ∧ k_ ≠ m)) (by (with_reducible repeat apply pV); exact Kd.V_mono A.out (fun _ hk => ⟨⟨hk.1, ⟨hk.2.1, hk.2.2.2⟩⟩, hk.2.2.1⟩)) hg hat); replace HB := Z (hb); have L := Z (ho); clear p; clear ho hb hg hat; obtain ⟨aG, aJ, a4⟩ := Kd.R_slice v.out; subst a4) | ((with_reducible refine gate_builtin (b := .append) (xs := #[.tmp 49, .tmp 50]) rfl ?_); (try (refine gate_guard (by rfl) ?_; dsimp only)); at_builtin; refine Kd.R_append_rows (Kd.int .u8) (w0 := w) w.heap.size rfl (.tmp 49) (.tmp 50) 26 5 (.int .u8 0) 1 rfl Tryd.underlying26 info5 rfl (by decide) (by omega) aw y G _ _ _ (fun k_ => (w.heap.size ≤ k_) ∧ some k_ ≠ (.slice aG G.length aJ : Value).ownBlock) (fun _ => False) rfl rfl ?aO ?aR (fun _ _ h => h) (fun _ h => h.elim) ?aF ?aB ?aS ?aL ?_; (case aR => repeat (first | exact (Kd.R_reads' v.out).2.2 | (with_reducible apply pC))); (case aB => exact bl_); (case aF => exact (fun k_ hk => ⟨(Nat.le_trans (below_size bl_) hk), Kd.fresh' (Kd.R_lt (by (with_reducible repeat apply pR); exact v.out)) k_ hk⟩)); (case aO => exact (by (with_reducible repeat apply pR); exact L.out)); (case aS => exact (below_size bl_)); (case aL => have := ax.out; omega); intro a8 dT ho hb hg hat; rw [← az.out] at ho; replace a := Z (blk_grown (g := m) (o := .cells #[.int .i64 c, .bool q, .bool r, .bool s, .slice E n.length F] 60 (0, 0)) (vK a.out) hg (Kd.R_ne L.out a.out (by decide))); replace v := Z (Kd.R_after (ok := (fun k_ => (w.heap.size ≤ k_))) (by (with_reducible repeat apply pR); exact v.out) hg hat); replace A := Z (Kd.V_afterv (ok := (fun k_ => (w.heap.size ≤ k_) ∧ some k_ ≠ (.slice aG G.length aJ : Value).ownBlock ∧ k_ ≠ m)) (vV A.out) hg hat); replace HB := Z (hb); have ad := Z (ho); clear L; clear ho hb hg hat; obtain ⟨dG, dI, a5⟩ := Kd.R_slice ad.out; subst a5))
       go_ret2
       exact ⟨_, _, er_, by first | exact Kd.R_nil _ _ _ _ _ | exact Kd.N_nil _ _ _ _ _ | exact Kd.V_nil _ _ _ _ _ | exact Kd.Q_nil _ _ _ _ _ | exact Kd.S_nil _ _ _ _ _, Kd.R_V (by first | exact Kd.R_nil _ _ _ 0 _ | exact Kd.N_nil _ _ _ _ _ | exact Kd.V_nil _ _ _ _ _ | exact Kd.Q_nil _ _ _ _ _ | exact Kd.S_nil _ _ _ _ _), bl_⟩
      ·rw [if_neg al] at H
       have aQ : decide (8192 < (u.length : Int)) = false := decide_eq_false al
       have aT : decide (8192 < u.length) = false := decide_eq_false (by omega)
       clear al
       simp only [Option.some.injEq, Prod.mk.injEq] at H
       obtain ⟨rfl, rfl, rfl⟩ := H
       go_enter Tryd.func48, Tryd.ntmps48
       go_wp2_with (first | ((with_reducible refine gate_dst (N := 2) rfl ?_); (try (refine gate_guard (by rfl) ?_; dsimp only)); refine bx_ 2 60 #[.int .i64 c, .bool q, .bool r, .bool s, .slice E n.length F] ?_; intro m hg dU hbox hb; have a := Z (hbox); have T := Z (ln_ hg : w.heap.size ≤ m); have S := Z (ln_ hg : w.heap.size ≤ m); replace HB := Z (below_step bl_ hb); clear hb hbox hg; obtain ⟨bo, bp, bq, br, bs, cD, cE, cF, cG, cH⟩ := cells5 a.out) | ((with_reducible refine gate_callee (f := 74) rfl ?_); refine goesL_ (some 11) rfl rfl Tryd.func74 (by kernel_rfl) rfl #[.int .i64 c] rfl ag_ ?_; (with_reducible refine (stream_known.calls k c true _ A3.out).mono ?_); rintro e w' ⟨rfl, ⟨nd, rfl⟩⟩; refine ⟨_, rfl, ?_⟩) | ((with_reducible refine gate_dst (N := 17) rfl ?_); (try (refine gate_guard (by rfl) ?_; dsimp only)); refine Kd.R_lit (Kd.int .u8) _ 5 ?hg (N := 17) ?hd (xs := ([(c) % 256] : List Int)) (inner := [.int .u8 ((c) % 256)]) (ok := fun _ => True) (okp := fun _ => True) ?hr ?hp (fun _ hk => hk) trivial (Below.refl _ _) (Nat.le_refl _) (by simp) ?_; (case hd => rfl); (case hg => rfl); (case hr => first | (go_simp; done) | (go_simp; rfl)); (case hp => exact (Reps.one (show Kd.M (Kd.int .u8) _ _ _ ((c) % 256) [.int .u8 ((c) % 256)] from rfl) (Reps.none _ _))); intro K dV af hb hg_ hnew_; clear hg_ hnew_; (first | rw [← I.out] at af | (simp only [Int.reduceToNat] at af; rw [← I.out] at af)); have p := Z (Kd.R_lower (Kd.R_newM (M := fun k_ => (w.heap.size ≤ k_)) af (below_size bl_) (fun k_ h_ => h_)) (below_size bl_)); replace a := Z (kb a.out hb); replace HB := Z (below_step bl_ hb); clear hb af; obtain ⟨bt, bu, bv, bw, bx, cI, cJ, cK, cL, cM⟩ := cells5 a.out) | ((with_reducible refine gate_callee (f := 75) rfl ?_); refine goesL_ (some 20) rfl rfl Tryd.func75 (by kernel_rfl) rfl #[.int .i64 c] rfl ag_ ?_; (with_reducible refine (stream_Writes.calls c true _ A5.out).mono ?_); rintro e w' ⟨rfl, ⟨nd, rfl⟩⟩; refine ⟨_, rfl, ?_⟩) | ((with_reducible refine gate_callee (f := 76) rfl ?_); refine goesL_ (some 38) rfl rfl Tryd.func76 (by kernel_rfl) rfl #[.slice E n.length F, .int .i64 a1] rfl ag_ ?_; (with_reducible refine (stream_orders.calls k _ _ n a1 G none ak _ ?side1 ?side2 A7.out).mono ?_); (case side1 => repeat (first | exact (Kd.C_below ap.out bl_) | (with_reducible apply pC))); (case side2 => exact ao.out); rintro e dW ⟨O, aN, rfl, Q, ac, hb⟩; refine ⟨_, rfl, ?_⟩; have v := Z (Kd.R_lower (Kd.R_new' (Kd.R_newM (M := fun k_ => (w.heap.size ≤ k_)) (Kd.R_mono (ok' := fun k_ => True) Q (fun _ hk_ => trivial)) (below_size bl_) (fun k_ h_ => h_)) (Kd.R_lt (by (with_reducible repeat apply pR); exact p.out))) (below_size bl_)); have A := Z (Kd.V_lower (Kd.V_mono (ok' := fun k_ => (w.heap.size ≤ k_) ∧ some k_ ≠ (O : Value).ownBlock ∧ some k_ ≠ (K : Value).ownBlock ∧ k_ ≠ m) ac (fun k_ hk_ => ⟨(Nat.le_trans (below_size bl_) hk_.1), hk_.2, (Kd.fresh' (Kd.R_lt (by (with_reducible repeat apply pR); exact p.out)) k_ hk_.1), (Kd.freshB (g := m) (o := .cells #[.int .i64 c, .bool q, .bool r, .bool s, .slice E n.length F] 60 (0, 0)) (vK a.out) k_ hk_.1)⟩)) (below_size bl_)); replace p := Z (Kd.R_elder' (by (with_reducible repeat apply pR); exact p.out) (Kd.R_base Q) hb); replace a := Z (kb a.out hb); replace HB := Z (below_step bl_ hb); (try clear hb); (try clear aA); (try clear hk); (try clear hi); (try clear Q); (try clear ac); (try simp only [errW_none, errW_some]); obtain ⟨bz, bA, bB, bC, bD, cN, cO, cP, cQ, cR⟩ := cells5 a.out) | ((with_reducible refine gate_callee (f := 77) rfl ?_); refine goesL_ (some 47) rfl rfl Tryd.func77 (by kernel_rfl) rfl #[.agg #[.bool q, .bool r, .bool s]] rfl ag_ ?_; (with_reducible refine (attr_PutWcc.calls k q r s B _ A8.out).mono ?_); rintro e dX ⟨rfl, hb⟩; refine ⟨_, rfl, ?_⟩; replace p := Z (rb p.out hb); replace v := Z (rb v.out hb); replace A := Z (vb A.out hb); replace a := Z (kb a.out hb); replace HB := Z (below_step bl_ hb); (try clear hb); (try clear aA); (try clear hk); (try clear hi)) | ((with_reducible refine gate_builtin (b := .append) (xs := #[.tmp 44, .tmp 48]) rfl ?_); (try (refine gate_guard (by rfl) ?_; dsimp only)); at_builtin; refine Kd.R_append (Kd.int .u8) (w0 := w) w.heap.size rfl (.tmp 44) (.tmp 48) 26 5 (.int .u8 0) 1 rfl Tryd.underlying26 info5 rfl (by decide) (by omega) K z B [.int .u8 B] (fun k_ => (w.heap.size ≤ k_) ∧ some k_ ≠ (O : Value).ownBlock) (fun _ => False) rfl rfl ?aP (fun _ hk => hk.elim) ?aF ?aO ?aB ?aS ?aL ?_; (case aP => exact rfl); (case aB => exact bl_); (case aF => exact (fun k_ hk => ⟨(Nat.le_trans (below_size bl_) hk), Kd.fresh' (Kd.R_lt (by (with_reducible repeat apply pR); exact v.out)) k_ hk⟩)); (case aO => exact (by (with_reducible repeat apply pR); exact Kd.R_mono p.out (fun _ hk => ⟨hk.1.1, hk.2⟩))); (case aS => exact (below_size bl_)); (case aL => have := aI.out; omega); intro aw dY ho hb hg hat; rw [← ay.out] at ho; replace a := Z (blk_grown (g := m) (o := .cells #[.int .i64 c, .bool q, .bool r, .bool s, .slice E n.length F] 60 (0, 0)) (vK a.out) hg (Kd.R_ne p.out a.out (by decide))); replace v := Z (Kd.R_after (ok := (fun k_ => (w.heap.size ≤ k_))) (by (with_reducible repeat apply pR); exact Kd.R_mono v.out (fun _ hk => ⟨hk.1.1, hk.2⟩)) hg hat); replace A := Z (Kd.V_afterv (ok := (fun k_ => (w.heap.size ≤ k_) ∧ some k_ ≠ (O : Value).ownBlock ∧ k_ ≠ m)) (by (with_reducible repeat apply pV); exact Kd.V_mono A.out (fun _ hk => ⟨⟨hk.1, ⟨hk.2.1, hk.2.2.2⟩⟩, hk.2.2.1⟩)) hg hat); replace HB := Z (hb); have L := Z (ho); clear p; clear ho hb hg hat; obtain ⟨aH, aK, a6⟩ := Kd.R_slice v.out; subst a6) | ((with_reducible refine gate_builtin (b := .append) (xs := #[.tmp 49, .tmp 50]) rfl ?_); (try (refine gate_guard (by rfl) ?_; dsimp only)); at_builtin; refine Kd.R_append_rows (Kd.int .u8) (w0 := w) w.heap.size rfl (.tmp 49) (.tmp 50) 26 5 (.int .u8 0) 1 rfl Tryd.underlying26 info5 rfl (by decide) (by omega) aw y G _ _ _ (fun k_ => (w.heap.size ≤ k_) ∧ some k_ ≠ (.slice aH G.length aK : Value).ownBlock) (fun _ => False) rfl rfl ?aO ?aR (fun _ _ h => h) (fun _ h => h.elim) ?aF ?aB ?aS ?aL ?_; (case aR => repeat (first | exact (Kd.R_reads' v.out).2.2 | (with_reducible apply pC))); (case aB => exact bl_); (case aF => exact (fun k_ hk => ⟨(Nat.le_trans (below_size bl_) hk), Kd.fresh' (Kd.R_lt (by (with_reducible repeat apply pR); exact v.out)) k_ hk⟩)); (case aO => exact (by (with_reducible repeat apply pR); exact L.out)); (case aS => exact (below_size bl_)); (case aL => have := ax.out; omega); intro a8 dZ ho hb hg hat; rw [← az.out] at ho; replace a := Z (blk_grown (g := m) (o := .cells #[.int .i64 c, .bool q, .bool r, .bool s, .slice E n.length F] 60 (0, 0)) (vK a.out) hg (Kd.R_ne L.out a.out (by decide))); replace v := Z (Kd.R_after (ok := (fun k_ => (w.heap.size ≤ k_))) (by (with_reducible repeat apply pR); exact v.out) hg hat); replace A := Z (Kd.V_afterv (ok := (fun k_ => (w.heap.size ≤ k_) ∧ some k_ ≠ (.slice aH G.length aK : Value).ownBlock ∧ k_ ≠ m)) (vV A.out) hg hat); replace HB := Z (hb); have ad := Z (ho); clear L; clear ho hb hg hat; obtain ⟨dH, dJ, a7⟩ := Kd.R_slice ad.out; subst a7))
       go_ret2
       exact ⟨_, _, er_, by (with_reducible repeat apply pR); exact Kd.R_mono ad.out (fun _ hk => hk.1), Kd.R_V (by first | exact Kd.R_nil _ _ _ 0 _ | exact Kd.N_nil _ _ _ _ _ | exact Kd.V_nil _ _ _ _ _ | exact Kd.Q_nil _ _ _ _ _ | exact Kd.S_nil _ _ _ _ _), bl_⟩
     ·rw [if_neg c10] at H
      exact absurd H (by simp)
    ·rw [if_neg c9] at H
     exact absurd H (by simp)
   ·have H1 : (some (([] : List Int), some au, ak)) = some (U, W, X) := by rw [if_neg (show ¬ (some au).isNone = true by simp)] at H; exact H
    clear H
    have H := H1
    clear H1
    try simp only [errW_none, errW_some]
    simp only [Option.some.injEq, Prod.mk.injEq] at H
    obtain ⟨rfl, rfl, rfl⟩ := H
    go_enter Tryd.func48, Tryd.ntmps48
    go_wp2_with (first | ((with_reducible refine gate_dst (N := 2) rfl ?_); (try (refine gate_guard (by rfl) ?_; dsimp only)); refine bx_ 2 60 #[.int .i64 c, .bool q, .bool r, .bool s, .slice E n.length F] ?_; intro m hg d0 hbox hb; have a := Z (hbox); have T := Z (ln_ hg : w.heap.size ≤ m); have S := Z (ln_ hg : w.heap.size ≤ m); replace HB := Z (below_step bl_ hb); clear hb hbox hg; obtain ⟨bE, bF, bG, bH, bI, cS, cT, cU, cV, cW⟩ := cells5 a.out) | ((with_reducible refine gate_callee (f := 74) rfl ?_); refine goesL_ (some 11) rfl rfl Tryd.func74 (by kernel_rfl) rfl #[.int .i64 c] rfl ag_ ?_; (with_reducible refine (stream_known.calls k c true _ A3.out).mono ?_); rintro e w' ⟨rfl, ⟨nd, rfl⟩⟩; refine ⟨_, rfl, ?_⟩) | ((with_reducible refine gate_dst (N := 17) rfl ?_); (try (refine gate_guard (by rfl) ?_; dsimp only)); refine Kd.R_lit (Kd.int .u8) _ 5 ?hg (N := 17) ?hd (xs := ([(c) % 256] : List Int)) (inner := [.int .u8 ((c) % 256)]) (ok := fun _ => True) (okp := fun _ => True) ?hr ?hp (fun _ hk => hk) trivial (Below.refl _ _) (Nat.le_refl _) (by simp) ?_; (case hd => rfl); (case hg => rfl); (case hr => first | (go_simp; done) | (go_simp; rfl)); (case hp => exact (Reps.one (show Kd.M (Kd.int .u8) _ _ _ ((c) % 256) [.int .u8 ((c) % 256)] from rfl) (Reps.none _ _))); intro K d1 ag hb hg_ hnew_; clear hg_ hnew_; (first | rw [← I.out] at ag | (simp only [Int.reduceToNat] at ag; rw [← I.out] at ag)); have p := Z (Kd.R_lower (Kd.R_newM (M := fun k_ => (w.heap.size ≤ k_)) ag (below_size bl_) (fun k_ h_ => h_)) (below_size bl_)); replace a := Z (kb a.out hb); replace HB := Z (below_step bl_ hb); clear hb ag; obtain ⟨bJ, bK, bL, bM, bN, cX, cY, cZ, c0, c1⟩ := cells5 a.out) | ((with_reducible refine gate_callee (f := 75) rfl ?_); refine goesL_ (some 20) rfl rfl Tryd.func75 (by kernel_rfl) rfl #[.int .i64 c] rfl ag_ ?_; (with_reducible refine (stream_Writes.calls c true _ A5.out).mono ?_); rintro e w' ⟨rfl, ⟨nd, rfl⟩⟩; refine ⟨_, rfl, ?_⟩) | ((with_reducible refine gate_callee (f := 76) rfl ?_); refine goesL_ (some 38) rfl rfl Tryd.func76 (by kernel_rfl) rfl #[.slice E n.length F, .int .i64 a1] rfl ag_ ?_; (with_reducible refine (stream_orders.calls k _ _ n a1 G (some au) ak _ ?side1 ?side2 A7.out).mono ?_); (case side1 => repeat (first | exact (Kd.C_below ap.out bl_) | (with_reducible apply pC))); (case side2 => exact ao.out); rintro e d2 ⟨O, aN, rfl, Q, ac, hb⟩; refine ⟨_, rfl, ?_⟩; have v := Z (Kd.R_lower (Kd.R_new' (Kd.R_newM (M := fun k_ => (w.heap.size ≤ k_)) (Kd.R_mono (ok' := fun k_ => True) Q (fun _ hk_ => trivial)) (below_size bl_) (fun k_ h_ => h_)) (Kd.R_lt (by (with_reducible repeat apply pR); exact p.out))) (below_size bl_)); have A := Z (Kd.V_lower (Kd.V_mono (ok' := fun k_ => (w.heap.size ≤ k_) ∧ some k_ ≠ (O : Value).ownBlock ∧ some k_ ≠ (K : Value).ownBlock ∧ k_ ≠ m) ac (fun k_ hk_ => ⟨(Nat.le_trans (below_size bl_) hk_.1), hk_.2, (Kd.fresh' (Kd.R_lt (by (with_reducible repeat apply pR); exact p.out)) k_ hk_.1), (Kd.freshB (g := m) (o := .cells #[.int .i64 c, .bool q, .bool r, .bool s, .slice E n.length F] 60 (0, 0)) (vK a.out) k_ hk_.1)⟩)) (below_size bl_)); replace p := Z (Kd.R_elder' (by (with_reducible repeat apply pR); exact p.out) (Kd.R_base Q) hb); replace a := Z (kb a.out hb); replace HB := Z (below_step bl_ hb); (try clear hb); (try clear aA); (try clear hk); (try clear hi); (try clear Q); (try clear ac); (try simp only [errW_none, errW_some])))
    go_ret2
    exact ⟨_, _, er_, by first | exact Kd.R_nil _ _ _ _ _ | exact Kd.N_nil _ _ _ _ _ | exact Kd.V_nil _ _ _ _ _ | exact Kd.Q_nil _ _ _ _ _ | exact Kd.S_nil _ _ _ _ _, by (with_reducible repeat apply pV); exact Kd.V_mono A.out (fun _ hk => ⟨hk.1, (by simp [Value.ownBlock])⟩), bl_⟩
  ·replace c6 := Bool.eq_false_iff.mpr c6
   subst c6
   have H1 : (if (q || (r || (s))) = true then (some (([] : List Int), some (Er.num 1), ([] : List (S184)))) else (if (n.length : Int) > 0 then (some (([] : List Int), some (Er.num 1), ([] : List (S184)))) else (some (z, none, ([] : List (S184)))))) = some (U, W, X) := by rw [if_neg (show ¬ (false = true) by decide)] at H; exact H
   clear H
   have H := H1
   clear H1
   by_cases am : (q || (r || (s))) = true
   ·rw [if_pos am] at H
    have aU : (q || (r || (s))) = true := am
    clear am
    simp only [Option.some.injEq, Prod.mk.injEq] at H
    obtain ⟨rfl, rfl, rfl⟩ := H
    go_enter Tryd.func48, Tryd.ntmps48
    go_wp2_with (first | ((with_reducible refine gate_dst (N := 2) rfl ?_); (try (refine gate_guard (by rfl) ?_; dsimp only)); refine bx_ 2 60 #[.int .i64 c, .bool q, .bool r, .bool s, .slice E n.length F] ?_; intro m hg d3 hbox hb; have a := Z (hbox); have T := Z (ln_ hg : w.heap.size ≤ m); have S := Z (ln_ hg : w.heap.size ≤ m); replace HB := Z (below_step bl_ hb); clear hb hbox hg; obtain ⟨bO, bP, bQ, bR, bS, c2, c3, c5, c7, c8⟩ := cells5 a.out) | ((with_reducible refine gate_callee (f := 74) rfl ?_); refine goesL_ (some 11) rfl rfl Tryd.func74 (by kernel_rfl) rfl #[.int .i64 c] rfl ag_ ?_; (with_reducible refine (stream_known.calls k c true _ A3.out).mono ?_); rintro e w' ⟨rfl, ⟨nd, rfl⟩⟩; refine ⟨_, rfl, ?_⟩) | ((with_reducible refine gate_dst (N := 17) rfl ?_); (try (refine gate_guard (by rfl) ?_; dsimp only)); refine Kd.R_lit (Kd.int .u8) _ 5 ?hg (N := 17) ?hd (xs := ([(c) % 256] : List Int)) (inner := [.int .u8 ((c) % 256)]) (ok := fun _ => True) (okp := fun _ => True) ?hr ?hp (fun _ hk => hk) trivial (Below.refl _ _) (Nat.le_refl _) (by simp) ?_; (case hd => rfl); (case hg => rfl); (case hr => first | (go_simp; done) | (go_simp; rfl)); (case hp => exact (Reps.one (show Kd.M (Kd.int .u8) _ _ _ ((c) % 256) [.int .u8 ((c) % 256)] from rfl) (Reps.none _ _))); intro K d4 ah hb hg_ hnew_; clear hg_ hnew_; (first | rw [← I.out] at ah | (simp only [Int.reduceToNat] at ah; rw [← I.out] at ah)); have p := Z (Kd.R_lower (Kd.R_newM (M := fun k_ => (w.heap.size ≤ k_)) ah (below_size bl_) (fun k_ h_ => h_)) (below_size bl_)); replace a := Z (kb a.out hb); replace HB := Z (below_step bl_ hb); clear hb ah; obtain ⟨bT, bU, bV, bW, bX, da, db, dc, dd, de⟩ := cells5 a.out) | ((with_reducible refine gate_callee (f := 75) rfl ?_); refine goesL_ (some 20) rfl rfl Tryd.func75 (by kernel_rfl) rfl #[.int .i64 c] rfl ag_ ?_; (with_reducible refine (stream_Writes.calls c false _ A5.out).mono ?_); rintro e w' ⟨rfl, ⟨nd, rfl⟩⟩; refine ⟨_, rfl, ?_⟩))
    go_ret2
    exact ⟨_, _, er_, by first | exact Kd.R_nil _ _ _ _ _ | exact Kd.N_nil _ _ _ _ _ | exact Kd.V_nil _ _ _ _ _ | exact Kd.Q_nil _ _ _ _ _ | exact Kd.S_nil _ _ _ _ _, Kd.R_V (by first | exact Kd.R_nil _ _ _ 0 _ | exact Kd.N_nil _ _ _ _ _ | exact Kd.V_nil _ _ _ _ _ | exact Kd.Q_nil _ _ _ _ _ | exact Kd.S_nil _ _ _ _ _), bl_⟩
   ·rw [if_neg am] at H
    have aU : (q || (r || (s))) = false := by simpa using am
    clear am
    by_cases an : (n.length : Int) > 0
    ·rw [if_pos an] at H
     have aV : decide (0 < (n.length : Int)) = true := decide_eq_true an
     have aW : decide (0 < n.length) = true := decide_eq_true (by omega)
     clear an
     simp only [Option.some.injEq, Prod.mk.injEq] at H
     obtain ⟨rfl, rfl, rfl⟩ := H
     go_enter Tryd.func48, Tryd.ntmps48
     go_wp2_with (first | ((with_reducible refine gate_dst (N := 2) rfl ?_); (try (refine gate_guard (by rfl) ?_; dsimp only)); refine bx_ 2 60 #[.int .i64 c, .bool q, .bool r, .bool s, .slice E n.length F] ?_; intro m hg d5 hbox hb; have a := Z (hbox); have T := Z (ln_ hg : w.heap.size ≤ m); have S := Z (ln_ hg : w.heap.size ≤ m); replace HB := Z (below_step bl_ hb); clear hb hbox hg; obtain ⟨bY, bZ, b0, b1, b2, df, dg, dh, di, dj⟩ := cells5 a.out) | ((with_reducible refine gate_callee (f := 74) rfl ?_); refine goesL_ (some 11) rfl rfl Tryd.func74 (by kernel_rfl) rfl #[.int .i64 c] rfl ag_ ?_; (with_reducible refine (stream_known.calls k c true _ A3.out).mono ?_); rintro e w' ⟨rfl, ⟨nd, rfl⟩⟩; refine ⟨_, rfl, ?_⟩) | ((with_reducible refine gate_dst (N := 17) rfl ?_); (try (refine gate_guard (by rfl) ?_; dsimp only)); refine Kd.R_lit (Kd.int .u8) _ 5 ?hg (N := 17) ?hd (xs := ([(c) % 256] : List Int)) (inner := [.int .u8 ((c) % 256)]) (ok := fun _ => True) (okp := fun _ => True) ?hr ?hp (fun _ hk => hk) trivial (Below.refl _ _) (Nat.le_refl _) (by simp) ?_; (case hd => rfl); (case hg => rfl); (case hr => first | (go_simp; done) | (go_simp; rfl)); (case hp => exact (Reps.one (show Kd.M (Kd.int .u8) _ _ _ ((c) % 256) [.int .u8 ((c) % 256)] from rfl) (Reps.none _ _))); intro K d6 ai hb hg_ hnew_; clear hg_ hnew_; (first | rw [← I.out] at ai | (simp only [Int.reduceToNat] at ai; rw [← I.out] at ai)); have p := Z (Kd.R_lower (Kd.R_newM (M := fun k_ => (w.heap.size ≤ k_)) ai (below_size bl_) (fun k_ h_ => h_)) (below_size bl_)); replace a := Z (kb a.out hb); replace HB := Z (below_step bl_ hb); clear hb ai; obtain ⟨b3, b4, b5, b6, b7, dk, dl, dm, dn, dp⟩ := cells5 a.out) | ((with_reducible refine gate_callee (f := 75) rfl ?_); refine goesL_ (some 20) rfl rfl Tryd.func75 (by kernel_rfl) rfl #[.int .i64 c] rfl ag_ ?_; (with_reducible refine (stream_Writes.calls c false _ A5.out).mono ?_); rintro e w' ⟨rfl, ⟨nd, rfl⟩⟩; refine ⟨_, rfl, ?_⟩))
     go_ret2
     exact ⟨_, _, er_, by first | exact Kd.R_nil _ _ _ _ _ | exact Kd.N_nil _ _ _ _ _ | exact Kd.V_nil _ _ _ _ _ | exact Kd.Q_nil _ _ _ _ _ | exact Kd.S_nil _ _ _ _ _, Kd.R_V (by first | exact Kd.R_nil _ _ _ 0 _ | exact Kd.N_nil _ _ _ _ _ | exact Kd.V_nil _ _ _ _ _ | exact Kd.Q_nil _ _ _ _ _ | exact Kd.S_nil _ _ _ _ _), bl_⟩
    ·rw [if_neg an] at H
     have aV : decide (0 < (n.length : Int)) = false := decide_eq_false an
     have aW : decide (0 < n.length) = false := decide_eq_false (by omega)
     clear an
     simp only [Option.some.injEq, Prod.mk.injEq] at H
     obtain ⟨rfl, rfl, rfl⟩ := H
     go_enter Tryd.func48, Tryd.ntmps48
     go_wp2_with (first | ((with_reducible refine gate_dst (N := 2) rfl ?_); (try (refine gate_guard (by rfl) ?_; dsimp only)); refine bx_ 2 60 #[.int .i64 c, .bool q, .bool r, .bool s, .slice E n.length F] ?_; intro m hg d7 hbox hb; have a := Z (hbox); have T := Z (ln_ hg : w.heap.size ≤ m); have S := Z (ln_ hg : w.heap.size ≤ m); replace HB := Z (below_step bl_ hb); clear hb hbox hg; obtain ⟨b8, b9, ca, cb, cc, dq, dr, ds, dt, du⟩ := cells5 a.out) | ((with_reducible refine gate_callee (f := 74) rfl ?_); refine goesL_ (some 11) rfl rfl Tryd.func74 (by kernel_rfl) rfl #[.int .i64 c] rfl ag_ ?_; (with_reducible refine (stream_known.calls k c true _ A3.out).mono ?_); rintro e w' ⟨rfl, ⟨nd, rfl⟩⟩; refine ⟨_, rfl, ?_⟩) | ((with_reducible refine gate_dst (N := 17) rfl ?_); (try (refine gate_guard (by rfl) ?_; dsimp only)); refine Kd.R_lit (Kd.int .u8) _ 5 ?hg (N := 17) ?hd (xs := ([(c) % 256] : List Int)) (inner := [.int .u8 ((c) % 256)]) (ok := fun _ => True) (okp := fun _ => True) ?hr ?hp (fun _ hk => hk) trivial (Below.refl _ _) (Nat.le_refl _) (by simp) ?_; (case hd => rfl); (case hg => rfl); (case hr => first | (go_simp; done) | (go_simp; rfl)); (case hp => exact (Reps.one (show Kd.M (Kd.int .u8) _ _ _ ((c) % 256) [.int .u8 ((c) % 256)] from rfl) (Reps.none _ _))); intro K d8 aj hb hg_ hnew_; clear hg_ hnew_; (first | rw [← I.out] at aj | (simp only [Int.reduceToNat] at aj; rw [← I.out] at aj)); have p := Z (Kd.R_lower (Kd.R_newM (M := fun k_ => (w.heap.size ≤ k_)) aj (below_size bl_) (fun k_ h_ => h_)) (below_size bl_)); replace a := Z (kb a.out hb); replace HB := Z (below_step bl_ hb); clear hb aj; obtain ⟨cd, ce, cf, cg, ch, dv, dw, dx, dy, dz⟩ := cells5 a.out) | ((with_reducible refine gate_callee (f := 75) rfl ?_); refine goesL_ (some 20) rfl rfl Tryd.func75 (by kernel_rfl) rfl #[.int .i64 c] rfl ag_ ?_; (with_reducible refine (stream_Writes.calls c false _ A5.out).mono ?_); rintro e w' ⟨rfl, ⟨nd, rfl⟩⟩; refine ⟨_, rfl, ?_⟩))
     go_ret2
     exact ⟨_, _, er_, by (with_reducible repeat apply pR); exact Kd.R_mono p.out (fun _ hk => hk.1), Kd.R_V (by first | exact Kd.R_nil _ _ _ 0 _ | exact Kd.N_nil _ _ _ _ _ | exact Kd.V_nil _ _ _ _ _ | exact Kd.Q_nil _ _ _ _ _ | exact Kd.S_nil _ _ _ _ _), bl_⟩
 ·replace c4 := Bool.eq_false_iff.mpr c4
  subst c4
  have H1 : (some (([] : List Int), some (Er.num 5), ([] : List (S184)))) = some (U, W, X) := by rw [if_neg (show ¬ (false = true) by decide)] at H; exact H
  clear H
  have H := H1
  clear H1
  simp only [Option.some.injEq, Prod.mk.injEq] at H
  obtain ⟨rfl, rfl, rfl⟩ := H
  go_enter Tryd.func48, Tryd.ntmps48
  go_wp2_with (first | ((with_reducible refine gate_dst (N := 2) rfl ?_); (try (refine gate_guard (by rfl) ?_; dsimp only)); refine bx_ 2 60 #[.int .i64 c, .bool q, .bool r, .bool s, .slice E n.length F] ?_; intro m hg d9 hbox hb; have a := Z (hbox); have T := Z (ln_ hg : w.heap.size ≤ m); have S := Z (ln_ hg : w.heap.size ≤ m); replace HB := Z (below_step bl_ hb); clear hb hbox hg; obtain ⟨ci, cj, ck, cl, cm, dA, dB, dC, dD, dE⟩ := cells5 a.out) | ((with_reducible refine gate_callee (f := 74) rfl ?_); refine goesL_ (some 11) rfl rfl Tryd.func74 (by kernel_rfl) rfl #[.int .i64 c] rfl ag_ ?_; (with_reducible refine (stream_known.calls k c false _ A3.out).mono ?_); rintro e w' ⟨rfl, ⟨nd, rfl⟩⟩; refine ⟨_, rfl, ?_⟩))
  go_ret2
  exact ⟨_, _, er_, by first | exact Kd.R_nil _ _ _ _ _ | exact Kd.N_nil _ _ _ _ _ | exact Kd.V_nil _ _ _ _ _ | exact Kd.Q_nil _ _ _ _ _ | exact Kd.S_nil _ _ _ _ _, Kd.R_V (by first | exact Kd.R_nil _ _ _ 0 _ | exact Kd.N_nil _ _ _ _ _ | exact Kd.V_nil _ _ _ _ _ | exact Kd.Q_nil _ _ _ _ _ | exact Kd.S_nil _ _ _ _ _), bl_⟩

/-! ### host_unlocked: function 49 -/
def host_unlocked.f (a : Int) (b : Int) (d : List (S44)) (c : Int) (e : Bool) (g : Bool) : Option (Int × Int × (List (S44)) × Int × Bool × Bool) := some (a, b, d, c, false, false)
set_option maxHeartbeats 8000000 in
set_option maxRecDepth 100000 in
theorem host_unlocked.calls (c : Int) (d : Int) (o : Nat → Prop) (g : Option Addr) (j : Nat) (a : List (S44)) (l : Int) (y : Bool) (z : Bool) (G : Int) (I : Int) (J : List (S44)) (K : Int) (L : Bool) (M : Bool) (w : World) (B : Kd.V k44 44 w w.heap.size (fun k_ => o k_) (.slice g a.length j) a) (h : host_unlocked.f c d a l y z = some (G, I, J, K, L, M)) :
  Calls Tryd.prog 49 #[.agg #[.int .i64 c, .int .i64 d, .slice g a.length j, .int .i64 l, .bool y, .bool z]] w fun e w' => ∃ F : Value, e = .returned (.agg #[.int .i64 G, .int .i64 I, F, .int .i64 K, .bool L, .bool M]) ∧ Kd.V k44 44 w' w.heap.size (fun k_ => (o k_ ∨ w.heap.size ≤ k_)) F J ∧ Below w.heap.size w w' := by
 have aw := Tryd.underlying24
 have i := Z (show Kd.V k44 44 w w.heap.size (fun k_ => (o k_ ∨ w.heap.size ≤ k_)) (.slice g a.length j) a from Kd.V_mono B (fun k_ hk => .inl hk))
 have HB := Z (Below.refl w.heap.size w)
 have H : (some (c, d, a, l, false, false)) = some (G, I, J, K, L, M) := h
 clear h
 simp only [Option.some.injEq, Prod.mk.injEq] at H
 obtain ⟨rfl, rfl, rfl, rfl, rfl, rfl⟩ := H
 go_enter Tryd.func49, Tryd.ntmps49
 go_wp2_with (first | ((with_reducible refine gate_dst (N := 1) rfl ?_); refine bx_ 1 24 #[.int .i64 c, .int .i64 d, .slice g a.length j, .int .i64 l, .bool y, .bool z] ?_; intro n hg w2 hbox hb; replace i := Z (ve i.out hg hb); have m := Z (hbox); have aq := Z (ln_ hg : w.heap.size ≤ n); have ao := Z (ln_ hg : w.heap.size ≤ n); replace HB := Z (below_step bl_ hb); clear hb hbox hg) | ((with_reducible refine gate_dst (N := 2) rfl ?_); refine bx_ 2 24 #[.int .i64 0, .int .i64 0, .slice none 0 0, .int .i64 0, .bool false, .bool false] ?_; intro b hg w3 hbox hb; replace i := Z (ve i.out hg hb); have A := Z (hbox); have ar := Z (ln_ hg : w.heap.size ≤ b); have ap := Z (ln_ hg : w.heap.size ≤ b); replace HB := Z (below_step bl_ hb); have q := Z (nl m.out hg); have k := Z (ng m.out hg); replace m := Z (kb m.out hb); clear hb hbox hg; have au := q.out; have av := k.out; obtain ⟨O, P, Q, R, S, T, ac, ad, ae, af, ag, ah⟩ := cells6 m.out; obtain ⟨U, W, X, Y, aa, ab, ai, aj, ak, al, am, an⟩ := cells6 A.out))
 refine bodyPost_ret (results_cell_row rfl _ _ b 24 #[.int .i64 c, .int .i64 d, .slice g a.length j, .int .i64 l, .bool false, .bool false] (0, 0) _ rfl (by (with_reducible repeat apply pK); refine blk_put (cs := #[.int .i64 c, .int .i64 d, .slice g a.length j, .int .i64 l, .bool false, .bool false]) ?_ 5 _ rfl; (with_reducible repeat apply pK); refine blk_put (cs := #[.int .i64 c, .int .i64 d, .slice g a.length j, .int .i64 l, .bool false, .bool false]) ?_ 4 _ rfl; (with_reducible repeat apply pK); refine blk_put (cs := #[.int .i64 c, .int .i64 d, .slice g a.length j, .int .i64 0, .bool false, .bool false]) ?_ 3 _ rfl; (with_reducible repeat apply pK); refine blk_put (cs := #[.int .i64 c, .int .i64 d, .slice none 0 0, .int .i64 0, .bool false, .bool false]) ?_ 2 _ rfl; (with_reducible repeat apply pK); refine blk_put (cs := #[.int .i64 c, .int .i64 0, .slice none 0 0, .int .i64 0, .bool false, .bool false]) ?_ 1 _ rfl; (with_reducible repeat apply pK); refine blk_put (cs := #[.int .i64 0, .int .i64 0, .slice none 0 0, .int .i64 0, .bool false, .bool false]) ?_ 0 _ rfl; (with_reducible repeat apply pK); refine blk_far ?_ k.out _; (with_reducible repeat apply pK); refine blk_far ?_ k.out _; (with_reducible repeat apply pK); exact A.out) Tryd.underlying24 rfl (by kernel_rfl)) rfl ?_
 exact ⟨_, er_, by (with_reducible repeat apply pV); exact Kd.V_mono (f6V b (Kd.V_far (p := ⟨n, 5, none⟩) (Kd.V_far (p := ⟨n, 4, none⟩) (Kd.V_mono (Kd.V_mono i.out (fun k_ hk => (⟨hk, hk.1.2⟩ : _ ∧ k_ ≠ n))) (fun k_ hk => (⟨hk, hk.1.2⟩ : _ ∧ k_ ≠ b))) (fun _ hk => hk.1.2) (.bool false)) (fun _ hk => hk.1.2) (.bool false)) (fun _ hk => hk.2)) (fun _ hk => hk.1.1.1.1), bl_⟩
set_option maxHeartbeats 8000000 in
set_option maxRecDepth 100000 in
theorem host_unlocked.callsO (c : Int) (g : Int) (a : Nat → Prop) (n : Value) (i : List (S44)) (l : Int) (C : Bool) (D : Bool) (L : Int) (M : Int) (O : List (S44)) (P : Int) (Q : Bool) (T : Bool) (w0 w : World) (hB : Below w0.heap.size w0 w) (F : Kd.R k44 44 w w0.heap.size a n i) (h : host_unlocked.f c g i l C D = some (L, M, O, P, Q, T)) :
  Calls Tryd.prog 49 #[.agg #[.int .i64 c, .int .i64 g, n, .int .i64 l, .bool C, .bool D]] w fun e w' => ∃ K : Value, e = .returned (.agg #[.int .i64 L, .int .i64 M, K, .int .i64 P, .bool Q, .bool T]) ∧ Kd.R k44 44 w' w0.heap.size (fun k_ => (a k_ ∨ w.heap.size ≤ k_)) K O ∧ Below w0.heap.size w0 w' ∧ Kept w w' (fun k_ => a k_) := by
 have aA := Tryd.underlying24
 have d := Z (show Kd.R k44 44 w w0.heap.size (fun k_ => (a k_ ∨ w.heap.size ≤ k_)) n i from Kd.R_mono F (fun k_ hk => (.inl hk)))
 have HK := Z (Kept.refl w (fun k_ => a k_))
 have aB := Z hB.size
 have HB := Z hB
 clear hB
 have H : (some (c, g, i, l, false, false)) = some (L, M, O, P, Q, T) := h
 clear h
 simp only [Option.some.injEq, Prod.mk.injEq] at H
 obtain ⟨rfl, rfl, rfl, rfl, rfl, rfl⟩ := H
 obtain ⟨o, q, U⟩ := Kd.R_slice d.out
 subst U
 go_enter Tryd.func49, Tryd.ntmps49
 go_wp2_with (first | ((with_reducible refine gate_dst (N := 1) rfl ?_); refine bx_ 1 24 #[.int .i64 c, .int .i64 g, .slice o i.length q, .int .i64 l, .bool C, .bool D] ?_; intro m hg w3 hbox hb; replace d := Z (rb d.out hb); have j := Z (hbox); have s := Z ((by rw [hg]; exact (by first | exact HK.out.1 | exact (show Kept w _ (fun k_ => a k_) from by repeat (first | (with_reducible first | exact HK.out | apply Kept.alloc | apply Kept.drewN | apply Kept.drew) | exact HK.out)).1) : w.heap.size ≤ m)); replace HK := Z (Kept.below (S := (fun k_ => a k_)) (by repeat (first | (with_reducible first | exact HK.out | apply Kept.alloc | apply Kept.drewN | apply Kept.drew) | exact HK.out)) hb); have aw := Z ((le_new hg (below_size bl_) : w0.heap.size ≤ m)); replace HB := Z (below_step bl_ hb); clear hb hbox hg) | ((with_reducible refine gate_dst (N := 2) rfl ?_); refine bx_ 2 24 #[.int .i64 0, .int .i64 0, .slice none 0 0, .int .i64 0, .bool false, .bool false] ?_; intro b hg w4 hbox hb; replace d := Z (rb d.out hb); have r := Z (hbox); have E := Z ((by rw [hg]; exact (by first | exact HK.out.1 | exact (show Kept w _ (fun k_ => a k_) from by repeat (first | (with_reducible first | exact HK.out | apply Kept.alloc | apply Kept.drewN | apply Kept.drew | refine Kept.setCell ?_ (.inr s.out) _) | exact HK.out)).1) : w.heap.size ≤ b)); replace HK := Z (Kept.below (S := (fun k_ => a k_)) (by repeat (first | (with_reducible first | exact HK.out | apply Kept.alloc | apply Kept.drewN | apply Kept.drew | refine Kept.setCell ?_ (.inr s.out) _) | exact HK.out)) hb); have ax := Z ((le_new hg (below_size bl_) : w0.heap.size ≤ b)); replace HB := Z (below_step bl_ hb); have u := Z (nl j.out hg); have k := Z (ng j.out hg); replace j := Z (kb j.out hb); clear hb hbox hg; have ay := u.out; have az := k.out; obtain ⟨V, W, X, Y, aa, ab, ai, aj, ak, al, am, an⟩ := cells6 j.out; obtain ⟨ac, ad, ae, af, ag, ah, ao, ap, aq, ar, au, av⟩ := cells6 r.out))
 refine bodyPost_ret (results_cell_row rfl _ _ b 24 #[.int .i64 c, .int .i64 g, .slice o i.length q, .int .i64 l, .bool false, .bool false] (0, 0) _ rfl (by (with_reducible repeat apply pK); refine blk_put (cs := #[.int .i64 c, .int .i64 g, .slice o i.length q, .int .i64 l, .bool false, .bool false]) ?_ 5 _ rfl; (with_reducible repeat apply pK); refine blk_put (cs := #[.int .i64 c, .int .i64 g, .slice o i.length q, .int .i64 l, .bool false, .bool false]) ?_ 4 _ rfl; (with_reducible repeat apply pK); refine blk_put (cs := #[.int .i64 c, .int .i64 g, .slice o i.length q, .int .i64 0, .bool false, .bool false]) ?_ 3 _ rfl; (with_reducible repeat apply pK); refine blk_put (cs := #[.int .i64 c, .int .i64 g, .slice none 0 0, .int .i64 0, .bool false, .bool false]) ?_ 2 _ rfl; (with_reducible repeat apply pK); refine blk_put (cs := #[.int .i64 c, .int .i64 0, .slice none 0 0, .int .i64 0, .bool false, .bool false]) ?_ 1 _ rfl; (with_reducible repeat apply pK); refine blk_put (cs := #[.int .i64 0, .int .i64 0, .slice none 0 0, .int .i64 0, .bool false, .bool false]) ?_ 0 _ rfl; (with_reducible repeat apply pK); refine blk_far ?_ k.out _; (with_reducible repeat apply pK); refine blk_far ?_ k.out _; (with_reducible repeat apply pK); exact r.out) Tryd.underlying24 rfl (by kernel_rfl)) rfl ?_
 exact ⟨_, er_, by (with_reducible repeat apply pR); exact Kd.R_mono (f6R b (Kd.R_far (p := ⟨m, 5, none⟩) (Kd.R_far (p := ⟨m, 4, none⟩) (Kd.R_types (Kd.R_types d.out j.out (by decide)) r.out (by decide)) (fun _ hk => hk.1.2) (.bool false)) (fun _ hk => hk.1.2) (.bool false)) (fun _ hk => hk.2)) (fun _ hk => hk.1.1), bl_, by repeat (first | (with_reducible first | exact HK.out | apply Kept.alloc | apply Kept.drewN | apply Kept.drew | refine Kept.setCell ?_ (.inr s.out) _ | refine Kept.setCell ?_ (.inr E.out) _) | exact HK.out)⟩

/-! ### host_clean: function 50 -/
def host_clean.l0 : Nat → Int → Int → Int → Int → List (S44) → Int → Bool → Bool → Int → Int → List (S44) → Int → Bool → Bool → Option (Int × Int × (List (S44)) × Int × Bool × Bool)
 | 0, _, _, _, _, _, _, _, _, _, _, _, _, _, _ => none
 | k + 1, q, x10, c, d, b, e, g, h, i, j, a, n, l, m => if x10 < q then ((field_Open.f c d b e g h x10).bind fun o => (if o = true then (if 0 ≤ x10 then (if x10 < (a.length : Int) then (host_clean.l0 k q (wrap64 (x10 + 1)) c d b e g h i j (a.set (x10 : Int).toNat (⟨(rd_T44 a x10).f0, (⟨(rd_T44 a x10).f1.f0, (rd_T44 a x10).f1.f1, (rd_T44 a x10).f1.f2, (rd_T44 a x10).f1.f3⟩ : S28), 0⟩ : S44)) n l m) else (none)) else (none)) else (host_clean.l0 k q (wrap64 (x10 + 1)) c d b e g h i j a n l m))) else ((field_Next.f c d b e g h (wrap64 ((b.length : Int) - 1))).bind fun p => (some (i, j, a, mx 0 p, l, m)))
def host_clean.f (k : Nat) (c : Int) (d : Int) (b : List (S44)) (e : Int) (g : Bool) (h : Bool) : Option (Int × Int × (List (S44)) × Int × Bool × Bool) := (host_Reset.f c d b e g h false).bind fun a => (host_clean.l0 k (b.length : Int) 0 c d b e g h a.1 a.2.1 a.2.2.1 a.2.2.2.1 a.2.2.2.2.1 a.2.2.2.2.2)
theorem host_clean.mono_l : ∀ k, (∀ f g i j l m n o p q a b c d, LeO (host_clean.l0 k f g i j l m n o p q a b c d) (host_clean.l0 (k + 1) f g i j l m n o p q a b c d))
 | 0 => fun _ _ _ _ _ _ _ _ _ _ _ _ _ _ r h => by simp [host_clean.l0] at h
 | k + 1 => by
  have e := host_clean.mono_l k
  ·intro f g i j l m n o p q a b c d
   unfold host_clean.l0
   repeat' first
   | (with_reducible exact e _ _ _ _ _ _ _ _ _ _ _ _ _ _)
   | (with_reducible exact LeO.refl _)
   | (with_reducible exact LeO.none _)
   | (with_reducible refine LeO.ite ?_ ?_)
   | (with_reducible refine LeO.bind ?_ (fun _ => ?_))
   | exact e _ _ _ _ _ _ _ _ _ _ _ _ _ _
   | exact LeO.none _
   | refine LeO.ite ?_ ?_
   | refine LeO.bind ?_ (fun _ => ?_)
theorem host_clean.mono : ∀ a0 a1 b c a4 d k, LeO (host_clean.f k a0 a1 b c a4 d) (host_clean.f (k + 1) a0 a1 b c a4 d) := by
 intro a0 a1 b c a4 d k
 have a := host_clean.mono_l k
 unfold host_clean.f
 repeat' first
   | (with_reducible exact a _ _ _ _ _ _ _ _ _ _ _ _ _ _)
   | (with_reducible exact LeO.refl _)
   | (with_reducible exact LeO.none _)
   | (with_reducible refine LeO.ite ?_ ?_)
   | (with_reducible refine LeO.bind ?_ (fun _ => ?_))
   | exact a _ _ _ _ _ _ _ _ _ _ _ _ _ _
   | exact LeO.none _
   | refine LeO.ite ?_ ?_
   | refine LeO.bind ?_ (fun _ => ?_)
set_option maxHeartbeats 8000000 in
set_option maxRecDepth 100000 in
theorem host_clean.calls (k : Nat) (m : Int) (n : Int) (T : Option Addr) (U : Nat) (d : List (S44)) (q : Int) (r : Bool) (s : Bool) (r1 : Int) (r2 : Int) (r3 : List (S44)) (r4 : Int) (r5 : Bool) (r6 : Bool) (w : World) (aH : Kd.C k44 w T d.length d) (aE : d.length ≤ U) (h : host_clean.f k m n d q r s = some (r1, r2, r3, r4, r5, r6)) :
  Calls Tryd.prog 50 #[.agg #[.int .i64 m, .int .i64 n, .slice T d.length U, .int .i64 q, .bool r, .bool s]] w fun e w' => ∃ bM : Value, e = .returned (.agg #[.int .i64 r1, .int .i64 r2, bM, .int .i64 r4, .bool r5, .bool r6]) ∧ Kd.R k44 44 w' w.heap.size (fun _ => True) bM r3 ∧ Below w.heap.size w w' := by
 have dW := Tryd.underlying24
 have af := Z aH
 have ae := Z aE
 clear aH aE
 have HB := Z (Below.refl w.heap.size w)
 have H : ((host_Reset.f m n d q r s false).bind fun aa => (host_clean.l0 k (d.length : Int) 0 m n d q r s aa.1 aa.2.1 aa.2.2.1 aa.2.2.2.1 aa.2.2.2.2.1 aa.2.2.2.2.2)) = some (r1, r2, r3, r4, r5, r6) := h
 clear h
 replace H := Option.bind_eq_some_iff.mp H
 obtain ⟨⟨u, x, ap, M, E, F⟩, bG, H⟩ := H
 replace H : (host_clean.l0 k (d.length : Int) 0 m n d q r s u x ap M E F) = some (r1, r2, r3, r4, r5, r6) := H
 have A2 := Z bG
 clear bG
 have H' := Z H
 clear H
 go_enter Tryd.func50, Tryd.ntmps50
 go_wp2_with (first | ((with_reducible refine gate_dst (N := 1) rfl ?_); refine bx_ 1 24 #[.int .i64 m, .int .i64 n, .slice T d.length U, .int .i64 q, .bool r, .bool s] ?_; intro ag hg w3 hbox hb; have c := Z (hbox); have dq := Z (ln_ hg : w.heap.size ≤ ag); have dm := Z (ln_ hg : w.heap.size ≤ ag); replace HB := Z (below_step bl_ hb); clear hb hbox hg) | ((with_reducible refine gate_dst (N := 2) rfl ?_); refine bx_ 2 24 #[.int .i64 0, .int .i64 0, .slice none 0 0, .int .i64 0, .bool false, .bool false] ?_; intro G hg w4 hbox hb; have i := Z (hbox); have dr := Z (ln_ hg : w.heap.size ≤ G); have dn := Z (ln_ hg : w.heap.size ≤ G); replace HB := Z (below_step bl_ hb); have P := Z (nl c.out hg); have Q := Z (ng c.out hg); replace c := Z (kb c.out hb); clear hb hbox hg; have dS := P.out; have dU := Q.out; obtain ⟨bi, bj, bk, bl, bm, bn, bp, bq, br, bs, bt, bu⟩ := cells6 c.out) | ((with_reducible refine gate_callee (f := 29) rfl ?_); refine goesL_ (some 6) rfl rfl Tryd.func29 (by kernel_rfl) rfl #[.agg #[.int .i64 m, .int .i64 n, .slice T d.length U, .int .i64 q, .bool r, .bool s], .bool false] rfl ag_ ?_; (with_reducible refine (host_Reset.calls m n _ _ d q r s false u x ap M E F _ ?side1 ?side2 A2.out).mono ?_); (case side1 => repeat (first | exact (Kd.C_below af.out HB.out) | (with_reducible apply pC))); (case side2 => exact ae.out); rintro e w7 ⟨dX, rfl, bI, hb⟩; refine ⟨_, rfl, ?_⟩; have ac := Z (Kd.R_lower bI (below_size bl_)); replace c := Z (kb c.out hb); replace i := Z (kb i.out hb); replace HB := Z (below_step bl_ hb); (try clear hb); (try clear bh); (try clear hk); (try clear hi); (try clear bI)) | ((with_reducible refine gate_dst (N := 3) rfl ?_); refine bx_ 3 24 #[.int .i64 0, .int .i64 0, .slice none 0 0, .int .i64 0, .bool false, .bool false] ?_; intro I hg w8 hbox hb; replace ac := Z (rb ac.out hb); have l := Z (hbox); have ds := Z (ln_ hg : w.heap.size ≤ I); have dp := Z (ln_ hg : w.heap.size ≤ I); replace HB := Z (below_step bl_ hb); have J := Z (nl c.out hg); have S := Z (ng c.out hg); replace c := Z (kb c.out hb); have K := Z (nl i.out hg); have Y := Z (ng i.out hg); replace i := Z (kb i.out hb); clear hb hbox hg; have dT := S.out; have dV := J.out; have dv := Y.out; have dE := K.out; obtain ⟨aI, aJ, aK, aL, aM, aN, aU, aV, aW, aX, aY, aZ⟩ := cells6 l.out; obtain ⟨a8, bc, bO⟩ := Kd.R_slice ac.out; subst bO; obtain ⟨aO, aP, aQ, aR, aS, aT, a0, a1, a2, a3, a4, a5⟩ := cells6 c.out))
 go_loopg [10] k (fun kq dl w' => ∃ (b : Int) (a : List (S44)) (u259002 : Value), dl = .int .i64 b ∧ Aside0 (host_clean.l0 kq (d.length : Int) b m n d q r s u x a M E F = some (r1, r2, r3, r4, r5, r6)) ∧ Aside0 (kq ≤ k) ∧ Aside0 (Kd.R k44 44 w' w.heap.size (fun _ => True) u259002 a) ∧ Aside0 (w'.heap[ag]? = some (.cells #[.int .i64 m, .int .i64 n, (.slice T d.length U), .int .i64 q, .bool r, .bool s] 24 (0, 0))) ∧ Aside0 (w'.heap[G]? = some (.cells #[.int .i64 0, .int .i64 0, (.slice none 0 0), .int .i64 0, .bool false, .bool false] 24 (0, 0))) ∧ Aside0 (w'.heap[I]? = some (.cells #[.int .i64 u, .int .i64 x, u259002, .int .i64 M, .bool E, .bool F] 24 (0, 0))) ∧ Aside0 (Below w.heap.size w w'))
 case atStart => exact ⟨(0), (ap), (.slice a8 ap.length bc), (dn_), H', ⟨Nat.le_refl _⟩, ⟨by (with_reducible repeat apply pR); exact Kd.R_mono (f6R I (Kd.R_types ac.out l.out (by decide)) (fun _ hk => hk.2)) (fun _ hk => trivial)⟩, ⟨blk_off c.out J.out off2_⟩, ⟨blk_off i.out K.out off2_⟩, ⟨put6 l.out⟩, ⟨bl_⟩⟩
 case round =>
  clear H'
  try clear c1
  try clear c2
  try clear p2
  try clear c5
  try clear c9
  try clear c10
  try clear aI
  try clear aJ
  try clear aK
  try clear aL
  try clear aM
  try clear aN
  try clear aO
  try clear aP
  try clear aQ
  try clear aR
  try clear aS
  try clear aT
  try clear bi
  try clear bj
  try clear bk
  try clear bl
  try clear bm
  try clear bn
  try clear aU
  try clear aV
  try clear aW
  try clear aX
  try clear aY
  try clear aZ
  try clear a0
  try clear a1
  try clear a2
  try clear a3
  try clear a4
  try clear a5
  try clear bp
  try clear bq
  try clear br
  try clear bs
  try clear bt
  try clear bu
  obtain ⟨b, a, u259002, rfl, HA, aA, HO_259002, c, i, l, HB⟩ := hrel
  cases gk with
  | zero => exact absurd HA.out (by simp [host_clean.l0])
  | succ k1 =>
   have H := HA.out
   clear HA
   simp only [host_clean.l0] at H
   by_cases ar : b < (d.length : Int)
   ·rw [if_pos ar] at H
    have bD : decide (b < (d.length : Int)) = true := decide_eq_true ar
    clear ar
    replace H := Option.bind_eq_some_iff.mp H
    obtain ⟨bA, a6, H⟩ := H
    replace H : (if bA = true then (if 0 ≤ b then (if b < (a.length : Int) then (host_clean.l0 k1 (d.length : Int) (wrap64 (b + 1)) m n d q r s u x (a.set (b : Int).toNat (⟨(rd_T44 a b).f0, (⟨(rd_T44 a b).f1.f0, (rd_T44 a b).f1.f1, (rd_T44 a b).f1.f2, (rd_T44 a b).f1.f3⟩ : S28), 0⟩ : S44)) M E F) else (none)) else (none)) else (host_clean.l0 k1 (d.length : Int) (wrap64 (b + 1)) m n d q r s u x a M E F)) = some (r1, r2, r3, r4, r5, r6) := H
    have bF := Z a6
    clear a6
    by_cases aB : bA = true
    ·subst aB
     have H1 : (if 0 ≤ b then (if b < (a.length : Int) then (host_clean.l0 k1 (d.length : Int) (wrap64 (b + 1)) m n d q r s u x (a.set (b : Int).toNat (⟨(rd_T44 a b).f0, (⟨(rd_T44 a b).f1.f0, (rd_T44 a b).f1.f1, (rd_T44 a b).f1.f2, (rd_T44 a b).f1.f3⟩ : S28), 0⟩ : S44)) M E F) else (none)) else (none)) = some (r1, r2, r3, r4, r5, r6) := by rw [if_pos rfl] at H; exact H
     clear H
     have H := H1
     clear H1
     by_cases aC : 0 ≤ b
     ·rw [if_pos aC] at H
      have dt : decide (0 ≤ b) = true := decide_eq_true aC
      clear aC
      by_cases aD : b < (a.length : Int)
      ·rw [if_pos aD] at H
       have du : decide (b < (a.length : Int)) = true := decide_eq_true aD
       clear aD
       obtain ⟨az, ad⟩ : ∃ y_ : List (S44), y_ = (a.set (b : Int).toNat (⟨(rd_T44 a b).f0, (⟨(rd_T44 a b).f1.f0, (rd_T44 a b).f1.f1, (rd_T44 a b).f1.f2, (rd_T44 a b).f1.f3⟩ : S28), 0⟩ : S44)) := ⟨_, rfl⟩
       replace H : (host_clean.l0 k1 (d.length : Int) (wrap64 (b + 1)) m n d q r s u x az M E F) = some (r1, r2, r3, r4, r5, r6) := by first | (rw [ad]; with_reducible exact H) | (have a9 := (Option.bind_some _ _).symm.trans H; rw [ad]; with_reducible exact a9) | (have a9 := (Option.bind_some _ _).symm.trans H; with_reducible exact a9) | with_reducible exact H | (rw [ad]; exact H) | exact H
       have bC := Z ad
       clear ad
       have H' := Z H
       clear H
       have dw := P.out
       have dF := Q.out
       have dx := J.out
       have dG := S.out
       obtain ⟨bR, bS, bT, bU, bV, bW, cr, ct, cu, cv, cw, cx⟩ := cells6 c.out
       go_wp2_with (first | ((with_reducible refine gate_callee (f := 55) rfl ?_); refine goesL_ (some 15) rfl rfl Tryd.func55 (by kernel_rfl) rfl #[.agg #[.int .i64 m, .int .i64 n, .slice T d.length U, .int .i64 q, .bool r, .bool s], .int .i64 b] rfl ag_ ?_; (with_reducible refine (field_Open.calls m n _ _ d q r s b true _ ?side1 ?side2 bF.out).mono ?_); (case side1 => repeat (first | exact (Kd.C_below af.out HB.out) | (with_reducible apply pC))); (case side2 => exact ae.out); rintro e O ⟨rfl, hb⟩; refine ⟨_, rfl, ?_⟩; replace HO_259002 := Z (rb HO_259002.out hb); replace c := Z (kb c.out hb); replace i := Z (kb i.out hb); replace l := Z (kb l.out hb); replace HB := Z (below_step bl_ hb); (try clear hb); (try clear bh); (try clear hk); (try clear hi); have dy := Y.out; have dH := K.out; obtain ⟨bX, bY, bZ, b0, b1, b2, cy, cz, cA, cB, cC, cD⟩ := cells6 l.out; have bx : 0 ≤ (b : Int) := od_; have bz : (b : Int) < ((a.length : Int) : Int) := od_; obtain ⟨y, au, bd, be, bQ, dR, ba⟩ := Kd.R_form HO_259002.out (by omega); (first | cases bd | (injection bd with ea_ en_ ec_; (first | subst ea_ | (injection ea_ with ea_; subst ea_)); subst ec_; clear en_)); have bN := Z be; have dO := Z ba; clear be bQ ba; obtain ⟨dP, bE, bf, V, W⟩ := Kd.R_elem HO_259002.out z44 (b : Int) bx bz; obtain rfl := k44_openM bf; have df : O.cell? ⟨y, (b : Int).toNat * 6, none⟩ = some (.bool ((rd_T44 a b).f0)) := V 0 _ rfl; have dg : O.cell? ⟨y, (b : Int).toNat * 6 + 1, none⟩ = some (.bool ((rd_T44 a b).f1.f0)) := V 1 _ rfl; have dh : O.cell? ⟨y, (b : Int).toNat * 6 + 2, none⟩ = some (.bool ((rd_T44 a b).f1.f1)) := V 2 _ rfl; have di : O.cell? ⟨y, (b : Int).toNat * 6 + 3, none⟩ = some (.int .i64 ((rd_T44 a b).f1.f2)) := V 3 _ rfl; have dj : O.cell? ⟨y, (b : Int).toNat * 6 + 4, none⟩ = some (.bool ((rd_T44 a b).f1.f3)) := V 4 _ rfl; have dk : O.cell? ⟨y, (b : Int).toNat * 6 + 5, none⟩ = some (.int .u8 ((rd_T44 a b).f2)) := V 5 _ rfl; have c4 : O.frozen? ⟨y, (b : Int).toNat * 6, none⟩ = false := W 0; have c6 : O.frozen? ⟨y, (b : Int).toNat * 6 + 1, none⟩ = false := W 1; have c7 : O.frozen? ⟨y, (b : Int).toNat * 6 + 2, none⟩ = false := W 2; have c8 : O.frozen? ⟨y, (b : Int).toNat * 6 + 3, none⟩ = false := W 3; have da : O.frozen? ⟨y, (b : Int).toNat * 6 + 4, none⟩ = false := W 4; have db : O.frozen? ⟨y, (b : Int).toNat * 6 + 5, none⟩ = false := W 5; clear bE V W bf; replace bx := eq_true bx; replace bz := eq_true bz; have bb := Z (show Kd.R k44 44 O w.heap.size (fun _ => True) (.slice (some ⟨y, 0, none⟩) a.length au) a from (by (with_reducible repeat apply pR); exact HO_259002.out)); obtain ⟨dQ, aF, bg, av, aG⟩ := Kd.R_elem bb.out z44 (b : Int) (od_) (by have h_ : (b : Int) < ((a.length : Int) : Int) := od_; first | exact h_ | (have e_ := (Kd.R_reads' HO_259002.out).1; omega) | simpa using h_); obtain rfl := k44_openM bg; have ay := Kd.R_seg bb.out (b : Int) (od_) (by have h_ : (b : Int) < ((a.length : Int) : Int) := od_; first | exact h_ | (have e_ := (Kd.R_reads' HO_259002.out).1; omega) | simpa using h_) (seg := [.int .u8 0]) (j := 5) aF av (show 6 ≤ 6 from by decide) (x' := (⟨(rd_T44 a b).f0, (⟨(rd_T44 a b).f1.f0, (rd_T44 a b).f1.f1, (rd_T44 a b).f1.f2, (rd_T44 a b).f1.f3⟩ : S28), 0⟩ : S44)) (k44_mkM _ _ _ (⟨(rd_T44 a b).f0, (⟨(rd_T44 a b).f1.f0, (rd_T44 a b).f1.f1, (rd_T44 a b).f1.f2, (rd_T44 a b).f1.f3⟩ : S28), 0⟩ : S44) ) (fun _ hk => hk); have bv := av 5 _ rfl; (try simp only [show (k44).sz = 6 from rfl, Nat.mul_one, Nat.add_zero] at bv); have bo := aG 5; (try simp only [show (k44).sz = 6 from rfl, Nat.mul_one, Nat.add_zero] at bo); clear aF av aG bg) | ((with_reducible refine gate_store (t := 5) (p := 20) rfl ?_); refine sx_ 5 20 (O.setCell ⟨y, (b : Int).toNat * 6 + 5, none⟩ (.int .u8 0)) ?_; intro bB hw; have hg : O.grownBy bB (some y) := (by rw [hw]; exact ay.2); have hp_ : Kd.R k44 44 bB w.heap.size (fun _ => True) (.slice (some ⟨y, 0, none⟩) a.length au) az := (by rw [hw, bC.out]; exact ay.1); clear ay; replace c := Z (blk_grown (g := ag) (o := .cells #[.int .i64 m, .int .i64 n, .slice T d.length U, .int .i64 q, .bool r, .bool s] 24 (0, 0)) (vK c.out) hg (Kd.R_ne HO_259002.out c.out (by decide))); replace i := Z (blk_grown (g := G) (o := .cells #[.int .i64 0, .int .i64 0, .slice none 0 0, .int .i64 0, .bool false, .bool false] 24 (0, 0)) (vK i.out) hg (Kd.R_ne HO_259002.out i.out (by decide))); replace l := Z (blk_grown (g := I) (o := .cells #[.int .i64 u, .int .i64 x, .slice (some ⟨y, 0, none⟩) a.length au, .int .i64 M, .bool E, .bool F] 24 (0, 0)) (vK l.out) hg (Kd.R_ne HO_259002.out l.out (by decide))); replace HO_259002 := Z (hp_); replace HB := Z ((by rw [hw]; exact below_set (HB.out) bN.out : Below w.heap.size w bB)); clear hg hw hp_))
       go_roundg k1
       case measure => have := aA.out; omega
       case rel => exact ⟨(wrap64 (b + 1)), (az), (.slice (some ⟨y, 0, none⟩) a.length au), (dn_), H', ⟨by have := aA.out; omega⟩, ⟨by (with_reducible repeat apply pR); exact HO_259002.out⟩, ⟨vK c.out⟩, ⟨vK i.out⟩, ⟨vK l.out⟩, ⟨bl_⟩⟩
      ·rw [if_neg aD] at H
       exact absurd H (by simp)
     ·rw [if_neg aC] at H
      exact absurd H (by simp)
    ·replace aB := Bool.eq_false_iff.mpr aB
     subst aB
     have H1 : (host_clean.l0 k1 (d.length : Int) (wrap64 (b + 1)) m n d q r s u x a M E F) = some (r1, r2, r3, r4, r5, r6) := by rw [if_neg (show ¬ (false = true) by decide)] at H; exact H
     clear H
     have H := H1
     clear H1
     have H' := Z H
     clear H
     have dz := P.out
     have dI := Q.out
     have dA := J.out
     have dJ := S.out
     obtain ⟨b3, b4, b5, b6, b7, b8, cE, cF, cG, cH, cI, cJ⟩ := cells6 c.out
     go_wp2_with (first | ((with_reducible refine gate_callee (f := 55) rfl ?_); refine goesL_ (some 15) rfl rfl Tryd.func55 (by kernel_rfl) rfl #[.agg #[.int .i64 m, .int .i64 n, .slice T d.length U, .int .i64 q, .bool r, .bool s], .int .i64 b] rfl ag_ ?_; (with_reducible refine (field_Open.calls m n _ _ d q r s b false _ ?side1 ?side2 bF.out).mono ?_); (case side1 => repeat (first | exact (Kd.C_below af.out HB.out) | (with_reducible apply pC))); (case side2 => exact ae.out); rintro e dY ⟨rfl, hb⟩; refine ⟨_, rfl, ?_⟩; replace HO_259002 := Z (rb HO_259002.out hb); replace c := Z (kb c.out hb); replace i := Z (kb i.out hb); replace l := Z (kb l.out hb); replace HB := Z (below_step bl_ hb); (try clear hb); (try clear bh); (try clear hk); (try clear hi)))
     go_roundg k1
     case measure => have := aA.out; omega
     case rel => exact ⟨(wrap64 (b + 1)), (a), (u259002), (dn_), H', ⟨by have := aA.out; omega⟩, ⟨by (with_reducible repeat apply pR); exact HO_259002.out⟩, ⟨vK c.out⟩, ⟨vK i.out⟩, ⟨vK l.out⟩, ⟨bl_⟩⟩
   ·rw [if_neg ar] at H
    have bD : decide (b < (d.length : Int)) = false := decide_eq_false ar
    clear ar
    replace H := Option.bind_eq_some_iff.mp H
    obtain ⟨aq, a7, H⟩ := H
    replace H : (some (u, x, a, mx 0 aq, E, F)) = some (r1, r2, r3, r4, r5, r6) := H
    have bH := Z a7
    clear a7
    obtain ⟨X, ab⟩ : ∃ j_ : Int, (mx 0 aq) = j_ := ⟨_, rfl⟩
    replace H : (some (u, x, a, X, E, F)) = some (r1, r2, r3, r4, r5, r6) := by first | (rw [ab] at H; exact H) | (simp only [ab] at H ⊢; exact H)
    (try rw [ab] at bH)
    (try (have dd : 0 ≤ X := by (rw [← ab]; unfold mx; (repeat' split) <;> omega)))
    (try (have de : 0 ≤ X := by omega))
    have dc : (if 0 < aq then aq else 0) = X := ab
    simp only [Option.some.injEq, Prod.mk.injEq] at H
    obtain ⟨rfl, rfl, rfl, rfl, rfl, rfl⟩ := H
    have dB := P.out
    have dK := Q.out
    have dC := J.out
    have dL := S.out
    obtain ⟨b9, ca, cb, cc, cd, ce, cK, cL, cM, cN, cO, cP⟩ := cells6 c.out
    go_wp2_with (first | ((with_reducible refine gate_callee (f := 78) rfl ?_); refine goesL_ (some 27) rfl rfl Tryd.func78 (by kernel_rfl) rfl #[.agg #[.int .i64 m, .int .i64 n, .slice T d.length U, .int .i64 q, .bool r, .bool s], .int .i64 (wrap64 ((d.length : Int) - 1))] rfl ag_ ?_; (with_reducible refine (field_Next.calls m n _ _ d q r s (wrap64 ((d.length : Int) - 1)) aq _ ?side1 ?side2 bH.out).mono ?_); (case side1 => repeat (first | exact (Kd.C_below af.out HB.out) | (with_reducible apply pC))); (case side2 => exact ae.out); rintro e dZ ⟨rfl, hb⟩; refine ⟨_, rfl, ?_⟩; replace HO_259002 := Z (rb HO_259002.out hb); replace c := Z (kb c.out hb); replace i := Z (kb i.out hb); replace l := Z (kb l.out hb); replace HB := Z (below_step bl_ hb); (try clear hb); (try clear bh); (try clear hk); (try clear hi); have dD := Y.out; have dM := K.out; obtain ⟨cf, cg, ch, ci, cj, ck, cQ, cR, cS, cT, cU, cV⟩ := cells6 l.out; obtain ⟨cl, cm, cn, co, cp, cq, cW, cX, cY, cZ, c0, c3⟩ := cells6 i.out; obtain ⟨ah, ai, bP⟩ := Kd.R_slice HO_259002.out; subst bP))
    refine bodyPost_ret (results_cell_row rfl _ _ G 24 #[.int .i64 u, .int .i64 x, .slice ah a.length ai, .int .i64 X, .bool E, .bool F] (0, 0) _ rfl (by (with_reducible repeat apply pK); refine blk_put (cs := #[.int .i64 u, .int .i64 x, .slice ah a.length ai, .int .i64 X, .bool E, .bool false]) ?_ 5 _ rfl; (with_reducible repeat apply pK); refine blk_put (cs := #[.int .i64 u, .int .i64 x, .slice ah a.length ai, .int .i64 X, .bool false, .bool false]) ?_ 4 _ rfl; (with_reducible repeat apply pK); refine blk_put (cs := #[.int .i64 u, .int .i64 x, .slice ah a.length ai, .int .i64 0, .bool false, .bool false]) ?_ 3 _ rfl; (with_reducible repeat apply pK); refine blk_put (cs := #[.int .i64 u, .int .i64 x, .slice none 0 0, .int .i64 0, .bool false, .bool false]) ?_ 2 _ rfl; (with_reducible repeat apply pK); refine blk_put (cs := #[.int .i64 u, .int .i64 0, .slice none 0 0, .int .i64 0, .bool false, .bool false]) ?_ 1 _ rfl; (with_reducible repeat apply pK); refine blk_put (cs := #[.int .i64 0, .int .i64 0, .slice none 0 0, .int .i64 0, .bool false, .bool false]) ?_ 0 _ rfl; (with_reducible repeat apply pK); refine blk_far ?_ K.out _; (with_reducible repeat apply pK); exact i.out) Tryd.underlying24 rfl (by kernel_rfl)) rfl ?_
    exact ⟨_, by first | rfl | (simp [errW_none, errW_some] <;> rfl) | (simp only [← ab]; first | rfl | (simp [errW_none, errW_some] <;> rfl)) | (simp [*, errW_none, errW_some] <;> rfl), by (with_reducible repeat apply pR); exact Kd.R_mono (f6R G (Kd.R_far (p := ⟨I, 3, none⟩) (Kd.R_types (Kd.R_types HO_259002.out l.out (by decide)) i.out (by decide)) (fun _ hk => hk.1.2) (.int .i64 X)) (fun _ hk => hk.2)) (fun _ hk => trivial), bl_⟩

end Go.Proofs.YtgboplhcjhlabaaDoor.P
