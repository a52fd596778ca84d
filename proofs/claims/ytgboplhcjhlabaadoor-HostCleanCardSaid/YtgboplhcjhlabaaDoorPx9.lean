/- pp.py and press2.py (wip/tools) wrote this text. -/
import Derived.Test.YtgboplhcjhlabaaDoorPx0
import Derived.Test.YtgboplhcjhlabaaDoorPxS
import Derived.Test.YtgboplhcjhlabaaDoorPx0L
import Derived.Test.YtgboplhcjhlabaaDoorPx3
import Derived.Test.YtgboplhcjhlabaaDoorPx4
import Derived.Test.YtgboplhcjhlabaaDoorPx7
import Derived.Test.YtgboplhcjhlabaaDoorPx8
namespace Go.Proofs.YtgboplhcjhlabaaDoor.P
open Go.RowKit Go.Proofs.YtgboplhcjhlabaaDoorW.PrintWords Go.Proofs.YtgboplhcjhlabaaDoorW.PrintLast Go.Proofs.YtgboplhcjhlabaaDoorW.PrintMore
attribute [local go_sem] max2_int min2_int max_two min_two max_three min_three max_four min_four
attribute [local go_sem] Instr.field asAgg
set_option linter.unusedVariables false
set_option linter.unusedSimpArgs false

attribute [local go_sem high] eqA58
/-! ### attr_PutWcc: function 77 -/
def attr_PutWcc.f (k : Nat) (e : Bool) (g : Bool) (h : Bool) : Option (Int) := (attr_bit.f e 4).bind fun a => ((attr_bit.f g 2).bind fun b => ((attr_bit.f h 1).bind fun c => ((attr_sum.f k (([(⟨a.1, a.2⟩ : S119), (⟨b.1, b.2⟩ : S119), (⟨c.1, c.2⟩ : S119)] : List (S119)))).bind fun i => ((six_Put.f i).bind fun d => (some d.1)))))
theorem attr_PutWcc.mono : ∀ a0 a1 a k, LeO (attr_PutWcc.f k a0 a1 a) (attr_PutWcc.f (k + 1) a0 a1 a) := by
 intro a0 a1 a k
 unfold attr_PutWcc.f
 repeat' first
   | (with_reducible exact attr_sum.mono _ _)
   | (with_reducible exact LeO.refl _)
   | (with_reducible exact LeO.none _)
   | (with_reducible refine LeO.ite ?_ ?_)
   | (with_reducible refine LeO.bind ?_ (fun _ => ?_))
   | exact attr_sum.mono _ _
   | exact LeO.none _
   | refine LeO.ite ?_ ?_
   | refine LeO.bind ?_ (fun _ => ?_)
def attr_PutWcc.T1 : Bool × List (List Nat × List Nat) := (true, [([], []), ([0], [0]), ([1], [1]), ([], []), ([3], [3]), ([4, 2], [4]), ([], []), ([6], [6]), ([7, 5], [7]), ([2, 5, 8], [2, 5, 8]), ([9, 8], [9]), ([10, 10], [10]), ([11], [11]), ([12], [12]), ([12], [12]), ([13, 11, 0, 1, 2, 3, 4, 5, 6, 7, 8, 9, 10, 11, 12, 13], [13]), ([14, 15, 0, 1, 2, 3, 4, 5, 6, 7, 8, 9, 10, 11, 12, 13, 14, 15], [14])])
def attr_PutWcc.B1 : List Nat := [0, 1, 3, 0, 8, 31, 0, 64, 255, 511, 1023, 2047, 4095, 8191, 8191, 16383, 65535]
theorem attr_PutWcc.tab1 : rtab .any (opsOf Tryd.f77 1) = attr_PutWcc.T1 := by kernel_rfl
theorem attr_PutWcc.bits1 : waitsOk attr_PutWcc.T1.2 attr_PutWcc.B1 = true := by kernel_rfl
set_option maxHeartbeats 8000000 in
set_option maxRecDepth 100000 in
theorem attr_PutWcc.calls (k : Nat) (A : Bool) (u : Bool) (p : Bool) (r : Int) (w : World) (h : attr_PutWcc.f k A u p = some r) :
  Calls Tryd.prog 77 #[.agg #[.bool A, .bool u, .bool p]] w fun e w' => e = .returned (.int .u8 r) ∧ Below w.heap.size w w' := by
 have ax := Tryd.underlying58
 have HB := Z (Below.refl w.heap.size w)
 have H : ((attr_bit.f A 4).bind fun O => ((attr_bit.f u 2).bind fun E => ((attr_bit.f p 1).bind fun m => ((attr_sum.f k (([(⟨O.1, O.2⟩ : S119), (⟨E.1, E.2⟩ : S119), (⟨m.1, m.2⟩ : S119)] : List (S119)))).bind fun j => ((six_Put.f j).bind fun d => (some d.1)))))) = some r := h
 clear h
 replace H := Option.bind_eq_some_iff.mp H
 obtain ⟨⟨q, s⟩, W, H⟩ := H
 replace H : ((attr_bit.f u 2).bind fun E => ((attr_bit.f p 1).bind fun m => ((attr_sum.f k (([(⟨q, s⟩ : S119), (⟨E.1, E.2⟩ : S119), (⟨m.1, m.2⟩ : S119)] : List (S119)))).bind fun j => ((six_Put.f j).bind fun d => (some d.1))))) = some r := H
 have A2 := Z W
 clear W
 replace H := Option.bind_eq_some_iff.mp H
 obtain ⟨⟨y, z⟩, X, H⟩ := H
 replace H : ((attr_bit.f p 1).bind fun m => ((attr_sum.f k (([(⟨q, s⟩ : S119), (⟨y, z⟩ : S119), (⟨m.1, m.2⟩ : S119)] : List (S119)))).bind fun j => ((six_Put.f j).bind fun d => (some d.1)))) = some r := H
 have A3 := Z X
 clear X
 replace H := Option.bind_eq_some_iff.mp H
 obtain ⟨⟨C, D⟩, Y, H⟩ := H
 replace H : ((attr_sum.f k (([(⟨q, s⟩ : S119), (⟨y, z⟩ : S119), (⟨C, D⟩ : S119)] : List (S119)))).bind fun j => ((six_Put.f j).bind fun d => (some d.1))) = some r := H
 have A4 := Z Y
 clear Y
 obtain ⟨I, F⟩ : ∃ y_ : List (S119), y_ = (([(⟨q, s⟩ : S119), (⟨y, z⟩ : S119), (⟨C, D⟩ : S119)] : List (S119))) := ⟨_, rfl⟩
 replace H : ((attr_sum.f k I).bind fun j => ((six_Put.f j).bind fun d => (some d.1))) = some r := by first | (rw [F]; with_reducible exact H) | (have R := (Option.bind_some _ _).symm.trans H; rw [F]; with_reducible exact R) | (have R := (Option.bind_some _ _).symm.trans H; with_reducible exact R) | with_reducible exact H | (rw [F]; exact H) | exact H
 have L := Z F
 clear F
 replace H := Option.bind_eq_some_iff.mp H
 obtain ⟨j, aa, H⟩ := H
 replace H : ((six_Put.f j).bind fun d => (some d.1)) = some r := H
 have A5 := Z aa
 clear aa
 replace H := Option.bind_eq_some_iff.mp H
 obtain ⟨⟨V, af, ag⟩, ab, H⟩ := H
 replace H : (some V) = some r := H
 have A6 := Z ab
 clear ab
 obtain rfl := Option.some.inj H
 go_enter Tryd.func77, Tryd.ntmps77
 try go_wp2_with (first | ((with_reducible refine gate_dst (N := 1) rfl ?_); refine bx_ 1 58 #[.bool A, .bool u, .bool p] ?_; intro x hg w7 hbox hb; have a := Z (hbox); have ao := Z (ln_ hg : w.heap.size ≤ x); have an := Z (ln_ hg : w.heap.size ≤ x); replace HB := Z (below_step bl_ hb); clear hb hbox hg))
 have b := Z (blk_drew a.out)
 have c := Z (below_drew1 HB.out)
 clear a
 clear HB
 have a := b
 have HB := c
 clear b c
 refine start_ (n := 17) (S := fun w' => w'.cell? ⟨x, 0, none⟩ = some (.bool A) ∧ w'.cell? ⟨x, 1, none⟩ = some (.bool u) ∧ w'.cell? ⟨x, 2, none⟩ = some (.bool p)) (ds := []) (bv 17 0) (by kernel_rfl) rfl rfl ⟨(blk_cell a.out 0).trans rfl, (blk_cell a.out 1).trans rfl, (blk_cell a.out 2).trans rfl⟩ (fun hHeld => ?_); refine with_tabW attr_PutWcc.tab1 attr_PutWcc.bits1 (fun HT_ HW_ => ?_)
 generalize w7.drew = w8 at a HB hHeld ⊢
 refine pure_ (i := 0) (N := some 6) (v := ?_) (a' := ?_) (bv 17 1) rfl rfl (any_of HT_.out (by kernel_rfl)) (fun _ _ _ h => h) (Or.inl ⟨by rfl, ?_⟩) ?_ ?_
 rotate_left
 ·intro w'
  go_simp
  with_reducible rfl
 rotate_left
 ·simp only [Act.put, sA, sB, sC, i64_w, i32_w]
  rfl
 refine pure_ (i := 3) (N := some 9) (v := ?_) (a' := ?_) (bv 17 9) rfl rfl (any_of HT_.out (by kernel_rfl)) (fun _ _ _ h => h) (Or.inl ⟨by rfl, ?_⟩) ?_ ?_
 rotate_left
 ·intro w'
  go_simp
  with_reducible rfl
 rotate_left
 ·simp only [Act.put, sA, sB, sC, i64_w, i32_w]
  rfl
 refine pure_ (i := 6) (N := some 12) (v := ?_) (a' := ?_) (bv 17 73) rfl rfl (any_of HT_.out (by kernel_rfl)) (fun _ _ _ h => h) (Or.inl ⟨by rfl, ?_⟩) ?_ ?_
 rotate_left
 ·intro w'
  go_simp
  with_reducible rfl
 rotate_left
 ·simp only [Act.put, sA, sB, sC, i64_w, i32_w]
  rfl
 refine take_ (i := 1) (N := some 7) (v := ?_) (a' := ?_) (bv 17 75) rfl rfl (take_ofW HT_.out HW_.out (by kernel_rfl)) (fun _ _ _ h => h) (Or.inl ⟨by rfl, ?_⟩) hHeld ?_ ?_
 rotate_left
 ·rintro w' ⟨s0, s1, s2⟩
  go_simp
  with_reducible rfl
 rotate_left
 ·simp only [Act.put, sA, sB, sC, i64_w, i32_w]
  rfl
 refine take_ (i := 4) (N := some 10) (v := ?_) (a' := ?_) (bv 17 91) rfl rfl (take_ofW HT_.out HW_.out (by kernel_rfl)) (fun _ _ _ h => h) (Or.inl ⟨by rfl, ?_⟩) hHeld ?_ ?_
 rotate_left
 ·rintro w' ⟨s0, s1, s2⟩
  go_simp
  with_reducible rfl
 rotate_left
 ·simp only [Act.put, sA, sB, sC, i64_w, i32_w]
  rfl
 refine take_ (i := 7) (N := some 13) (v := ?_) (a' := ?_) (bv 17 219) rfl rfl (take_ofW HT_.out HW_.out (by kernel_rfl)) (fun _ _ _ h => h) (Or.inl ⟨by rfl, ?_⟩) hHeld ?_ ?_
 rotate_left
 ·rintro w' ⟨s0, s1, s2⟩
  go_simp
  with_reducible rfl
 rotate_left
 ·simp only [Act.put, sA, sB, sC, i64_w, i32_w]
  rfl
 refine one_ (i := 2) (N := some 8) (bv 17 223) rfl rfl (one_of HT_.out (by kernel_rfl)) (by decide) (fun K hK => ?_)
 refine goes_ Tryd.func85 (by kernel_rfl) rfl #[.bool A, .int .i64 4] (by rfl) rfl rfl ag_ ?_
 with_reducible refine (attr_bit.calls A 4 q s _ A2.out).mono ?_
 rintro e w9 ⟨rfl, hb⟩
 refine ⟨_, rfl, ?_⟩
 have b := Z (kb a.out hb)
 have c := Z (below_step bl_ hb)
 clear a
 clear HB
 have a := b
 have HB := c
 clear b c
 (try clear hb)
 (try clear P)
 (try clear hk)
 (try clear hi)
 refine hK.out _ _ ⟨(blk_cell a.out 0).trans rfl, (blk_cell a.out 1).trans rfl, (blk_cell a.out 2).trans rfl⟩ (fun hHeld => ?_)
 clear hK K
 refine norm_ (a' := ?_) ?_ ?_
 rotate_left
 ·show Act.put _ (some 8) _ = _
  simp only [Act.put, sA, sB, sC, i64_w, i32_w]
  rfl
 refine one_ (i := 5) (N := some 11) (bv 17 255) rfl rfl (one_of HT_.out (by kernel_rfl)) (by decide) (fun K hK => ?_)
 refine goes_ Tryd.func85 (by kernel_rfl) rfl #[.bool u, .int .i64 2] (by rfl) rfl rfl ag_ ?_
 with_reducible refine (attr_bit.calls u 2 y z _ A3.out).mono ?_
 rintro e aA ⟨rfl, hb⟩
 refine ⟨_, rfl, ?_⟩
 have b := Z (kb a.out hb)
 have c := Z (below_step bl_ hb)
 clear a
 clear HB
 have a := b
 have HB := c
 clear b c
 (try clear hb)
 (try clear P)
 (try clear hk)
 (try clear hi)
 refine hK.out _ _ ⟨(blk_cell a.out 0).trans rfl, (blk_cell a.out 1).trans rfl, (blk_cell a.out 2).trans rfl⟩ (fun hHeld => ?_)
 clear hK K
 refine norm_ (a' := ?_) ?_ ?_
 rotate_left
 ·show Act.put _ (some 11) _ = _
  simp only [Act.put, sA, sB, sC, i64_w, i32_w]
  rfl
 refine one_ (i := 8) (N := some 14) (bv 17 511) rfl rfl (one_of HT_.out (by kernel_rfl)) (by decide) (fun K hK => ?_)
 refine goes_ Tryd.func85 (by kernel_rfl) rfl #[.bool p, .int .i64 1] (by rfl) rfl rfl ag_ ?_
 with_reducible refine (attr_bit.calls p 1 C D _ A4.out).mono ?_
 rintro e aB ⟨rfl, hb⟩
 refine ⟨_, rfl, ?_⟩
 have b := Z (kb a.out hb)
 have c := Z (below_step bl_ hb)
 clear a
 clear HB
 have a := b
 have HB := c
 clear b c
 (try clear hb)
 (try clear P)
 (try clear hk)
 (try clear hi)
 refine hK.out _ _ ⟨(blk_cell a.out 0).trans rfl, (blk_cell a.out 1).trans rfl, (blk_cell a.out 2).trans rfl⟩ (fun hHeld => ?_)
 clear hK K
 refine norm_ (a' := ?_) ?_ ?_
 rotate_left
 ·show Act.put _ (some 14) _ = _
  simp only [Act.put, sA, sB, sC, i64_w, i32_w]
  rfl
 refine one_ (i := 9) (N := some 15) (bv 17 1023) rfl rfl (one_of HT_.out (by kernel_rfl)) (by decide) (fun K hK => ?_)
 refine Kd.R_lit_step k119 _ 119 ?hg (N := 15) ?hd (xs := ([(⟨q, s⟩ : S119), (⟨y, z⟩ : S119), (⟨C, D⟩ : S119)] : List (S119))) (inner := [.bool q, .int .i64 s, .bool y, .int .i64 z, .bool C, .int .i64 D]) (ok := fun _ => True) (okp := fun _ => True) ?hr ?hp (fun _ hk => hk) trivial (Below.refl _ _) (Nat.le_refl _) (by simp) ?_; (case hd => rfl); (case hg => rfl); (case hr => first | (go_simp; done) | (go_simp; rfl)); (case hp => exact (Reps.c2 (show Kd.M k119 _ _ _ (⟨q, s⟩ : S119) [.bool q, .int .i64 s] from (k119_mkM _ _ _ (⟨q, s⟩ : S119) )) (Reps.c2 (show Kd.M k119 _ _ _ (⟨y, z⟩ : S119) [.bool y, .int .i64 z] from (k119_mkM _ _ _ (⟨y, z⟩ : S119) )) (Reps.c2 (show Kd.M k119 _ _ _ (⟨C, D⟩ : S119) [.bool C, .int .i64 D] from (k119_mkM _ _ _ (⟨C, D⟩ : S119) )) (Reps.none _ _)))))
 intro ay aC G hb hg_ hnew_
 clear hg_ hnew_
 (first | rw [← L.out] at G | (simp only [Int.reduceToNat] at G; rw [← L.out] at G))
 have b := Z (Kd.R_lower G (below_size bl_))
 have c := Z (kb a.out hb)
 have B := Z (below_step bl_ hb)
 clear a
 clear HB
 have l := b
 have a := c
 have HB := B
 clear b c B
 clear hb G
 obtain ⟨Q, T, U⟩ := Kd.R_slice l.out
 (first | subst U | (injection U with ac ah ad; have ai := ac.symm; have aj := ad.symm; clear ac ah ad; subst ai; subst aj))
 refine hK.out _ _ ⟨(blk_cell a.out 0).trans rfl, (blk_cell a.out 1).trans rfl, (blk_cell a.out 2).trans rfl⟩ (fun hHeld => ?_)
 clear hK K
 refine norm_ (a' := ?_) ?_ ?_
 rotate_left
 ·show Act.put _ (some 15) _ = _
  simp only [Act.put, sA, sB, sC, i64_w, i32_w]
  rfl
 refine one_ (i := 10) (N := some 16) (bv 17 2047) rfl rfl (one_of HT_.out (by kernel_rfl)) (by decide) (fun K hK => ?_)
 refine goes_ Tryd.func84 (by kernel_rfl) rfl #[.slice Q I.length T] (by rfl) rfl rfl ag_ ?_
 with_reducible refine (attr_sum.calls k _ _ I j _ ?side1 ?side2 A5.out).mono ?_
 (case side1 => repeat (first | exact (Kd.R_reads' l.out).2.2 | (with_reducible apply pC)))
 (case side2 => exact (Kd.R_reads' l.out).2.1)
 rintro e aD ⟨rfl, hb⟩
 refine ⟨_, rfl, ?_⟩
 have b := Z (rb l.out hb)
 have c := Z (kb a.out hb)
 have B := Z (below_step bl_ hb)
 clear l
 clear a
 clear HB
 have l := b
 have a := c
 have HB := B
 clear b c B
 (try clear hb)
 (try clear P)
 (try clear hk)
 (try clear hi)
 refine hK.out _ _ ⟨(blk_cell a.out 0).trans rfl, (blk_cell a.out 1).trans rfl, (blk_cell a.out 2).trans rfl⟩ (fun hHeld => ?_)
 clear hK K
 refine norm_ (a' := ?_) ?_ ?_
 rotate_left
 ·show Act.put _ (some 16) _ = _
  simp only [Act.put, sA, sB, sC, i64_w, i32_w]
  rfl
 refine one_ (i := 11) (N := some 17) (bv 17 4095) rfl rfl (one_of HT_.out (by kernel_rfl)) (by decide) (fun K hK => ?_)
 refine goes_ Tryd.func83 (by kernel_rfl) rfl #[.int .i64 j] (by rfl) rfl rfl ag_ ?_
 with_reducible refine (six_Put.calls j V af ag _ A6.out).mono ?_
 rintro e aE ⟨az, rfl, ae, hb⟩
 refine ⟨_, rfl, ?_⟩
 have b := Z (rb l.out hb)
 have c := Z (Kd.V_lower (Kd.V_mono (ok' := fun k_ => some k_ ≠ (.slice Q I.length T : Value).ownBlock ∧ k_ ≠ x) ae (fun k_ hk_ => ⟨(Kd.fresh' (Kd.R_lt (by (with_reducible repeat apply pR); exact l.out)) k_ hk_), (Kd.freshB (g := x) (o := .cells #[.bool A, .bool u, .bool p] 58 (0, 0)) (vK a.out) k_ hk_)⟩)) (below_size bl_))
 have B := Z (kb a.out hb)
 have J := Z (below_step bl_ hb)
 clear l
 clear a
 clear HB
 have l := b
 have ap := c
 have a := B
 have HB := J
 clear b c B J
 (try clear hb)
 (try clear P)
 (try clear hk)
 (try clear hi)
 (try clear ae)
 (try simp only [errW_none, errW_some])
 refine hK.out _ _ ⟨(blk_cell a.out 0).trans rfl, (blk_cell a.out 1).trans rfl, (blk_cell a.out 2).trans rfl⟩ (fun hHeld => ?_)
 clear hK K
 refine norm_ (a' := ?_) ?_ ?_
 rotate_left
 ·show Act.put _ (some 17) _ = _
  simp only [Act.put, sA, sB, sC, i64_w, i32_w]
  rfl
 refine pure_ (i := 12) (N := some 5) (v := ?_) (a' := ?_) (bv 17 8191) rfl rfl (any_of HT_.out (by kernel_rfl)) (fun _ _ _ h => h) (Or.inl ⟨by rfl, ?_⟩) ?_ ?_
 rotate_left
 ·intro w'
  go_simp
  with_reducible rfl
 rotate_left
 ·simp only [Act.put, sA, sB, sC, i64_w, i32_w]
  rfl
 refine pure_ (i := 13) (N := some 18) (v := ?_) (a' := ?_) (bv 17 16383) rfl rfl (any_of HT_.out (by kernel_rfl)) (fun _ _ _ h => h) (Or.inl ⟨by rfl, ?_⟩) ?_ ?_
 rotate_left
 ·intro w'
  go_simp
  with_reducible rfl
 rotate_left
 ·simp only [Act.put, sA, sB, sC, i64_w, i32_w]
  rfl
 refine pure_ (i := 14) (N := some 19) (v := ?_) (a' := ?_) (bv 17 32767) rfl rfl (any_of HT_.out (by kernel_rfl)) (fun _ _ _ h => h) (Or.inl ⟨by rfl, ?_⟩) ?_ ?_
 rotate_left
 ·intro w'
  go_simp
  with_reducible rfl
 rotate_left
 ·simp only [Act.put, sA, sB, sC, i64_w, i32_w]
  rfl
 refine pure_ (i := 15) (N := some 3) (v := ?_) (a' := ?_) (bv 17 65535) rfl rfl (any_of HT_.out (by kernel_rfl)) (fun _ _ _ h => h) (Or.inl ⟨by rfl, ?_⟩) ?_ ?_
 rotate_left
 ·intro w'
  go_simp
  with_reducible rfl
 rotate_left
 ·simp only [Act.put, sA, sB, sC, i64_w, i32_w]
  rfl
 refine pure_ (i := 16) (N := some 4) (v := ?_) (a' := ?_) (bv 17 131071) rfl rfl (any_of HT_.out (by kernel_rfl)) (fun _ _ _ h => h) (Or.inl ⟨by rfl, ?_⟩) ?_ ?_
 rotate_left
 ·intro w'
  go_simp
  with_reducible rfl
 rotate_left
 ·simp only [Act.put, sA, sB, sC, i64_w, i32_w]
  rfl
 refine done_ (done_of HT_.out (by kernel_rfl)) ?_
 try go_wp2
 go_ret
 exact ⟨er_, bl_⟩

/-! ### stream_Write: function 48 -/
def stream_Write.f (k : Nat) (b : Int) (d : Bool) (e : Bool) (g : Bool) (h : List (S30)) (a1 : Int) : Option (List Int × Option Er × (List (S184))) := (stream_known.f k b).bind fun l => (if l = true then ((some (([(b) % 256] : List Int) : List Int)).bind fun c => ((stream_Writes.f b).bind fun m => (if m = true then ((stream_orders.f k h a1).bind fun a => (if a.2.1.isNone = true then ((attr_PutWcc.f k d e g).bind fun n => (if c.length < 140737488355328 then ((some (c ++ [n] : List Int)).bind fun i => (if i.length + a.1.length < 140737488355328 then ((some (i ++ a.1 : List Int)).bind fun j => (if (j.length : Int) > 8192 then (some (([] : List Int), some (Er.num 6), ([] : List (S184)))) else (some (j, none, ([] : List (S184)))))) else (none))) else (none))) else (some (([] : List Int), some (a.2.1.getD ez), a.2.2)))) else (if (d || (e || (g))) = true then (some (([] : List Int), some (Er.num 1), ([] : List (S184)))) else (if (h.length : Int) > 0 then (some (([] : List Int), some (Er.num 1), ([] : List (S184)))) else (some (c, none, ([] : List (S184))))))))) else (some (([] : List Int), some (Er.num 5), ([] : List (S184)))))
theorem stream_Write.mono : ∀ a0 a1 a b a4 c k, LeO (stream_Write.f k a0 a1 a b a4 c) (stream_Write.f (k + 1) a0 a1 a b a4 c) := by
 intro a0 a1 a b a4 c k
 unfold stream_Write.f
 repeat' first
   | (with_reducible exact attr_PutWcc.mono _ _ _ _)
   | (with_reducible exact stream_known.mono _ _)
   | (with_reducible exact stream_orders.mono _ _ _)
   | (with_reducible exact LeO.refl _)
   | (with_reducible exact LeO.none _)
   | (with_reducible refine LeO.ite ?_ ?_)
   | (with_reducible refine LeO.bind ?_ (fun _ => ?_))
   | exact attr_PutWcc.mono _ _ _ _
   | exact stream_known.mono _ _
   | exact stream_orders.mono _ _ _
   | exact LeO.none _
   | refine LeO.ite ?_ ?_
   | refine LeO.bind ?_ (fun _ => ?_)
set_option maxHeartbeats 8000000 in
set_option maxRecDepth 100000 in
theorem stream_Write.calls (k : Nat) (c : Int) (q : Bool) (r : Bool) (s : Bool) (E : Option Addr) (F : Nat) (n : List (S30)) (a1 : Int) (U : List Int) (W : Option Er) (X : List (S184)) (w : World) (aD : Kd.C k30 w E n.length n) (aC : n.length ≤ F) (h : stream_Write.f k c q r s n a1 = some (U, W, X)) :
  Calls Tryd.prog 48 #[.agg #[.int .i64 c, .bool q, .bool r, .bool s, .slice E n.length F], .int .i64 a1] w fun e w' => ∃ aM a2 : Value, e = .returned (.tuple #[aM, errW a2 W]) ∧ Kd.R (Kd.int .u8) 5 w' w.heap.size (fun k_ => (w.heap.size ≤ k_)) aM U ∧ Kd.V k184 184 w' w.heap.size (fun k_ => (w.heap.size ≤ k_) ∧ some k_ ≠ (aM : Value).ownBlock) a2 X ∧ Below w.heap.size w w' := by
 have dM := Tryd.underlying60
 have dL := Tryd.underlying58
 have dK := Tryd.underlying34
 have dN := Tryd.underlying75
 have ap := Z aD
 have ao := Z aC
 clear aD aC
 have HB := Z (Below.refl w.heap.size w)
 have H : ((stream_known.f k c).bind fun aq => (if aq = true then ((some (([(c) % 256] : List Int) : List Int)).bind fun z => ((stream_Writes.f c).bind fun J => (if J = true then ((stream_orders.f k n a1).bind fun l => (if l.2.1.isNone = true then ((attr_PutWcc.f k q r s).bind fun B => (if z.length < 140737488355328 then ((some (z ++ [B] : List Int)).bind fun y => (if y.length + l.1.length < 140737488355328 then ((some (y ++ l.1 : List Int)).bind fun u => (if (u.length : Int) > 8192 then (some (([] : List Int), some (Er.num 6), ([] : List (S184)))) else (some (u, none, ([] : List (S184)))))) else (none))) else (none))) else (some (([] : List Int), some (l.2.1.getD ez), l.2.2)))) else (if (q || (r || (s))) = true then (some (([] : List Int), some (Er.num 1), ([] : List (S184)))) else (if (n.length : Int) > 0 then (some (([] : List Int), some (Er.num 1), ([] : List (S184)))) else (some (z, none, ([] : List (S184))))))))) else (some (([] : List Int), some (Er.num 5), ([] : List (S184)))))) = some (U, W, X) := h
 clear h
 replace H := Option.bind_eq_some_iff.mp H
 obtain ⟨aq, aX, H⟩ := H
 replace H : (if aq = true then ((some (([(c) % 256] : List Int) : List Int)).bind fun z => ((stream_Writes.f c).bind fun J => (if J = true then ((stream_orders.f k n a1).bind fun l => (if l.2.1.isNone = true then ((attr_PutWcc.f k q r s).bind fun B => (if z.length < 140737488355328 then ((some (z ++ [B] : List Int)).bind fun y => (if y.length + l.1.length < 140737488355328 then ((some (y ++ l.1 : List Int)).bind fun u => (if (u.length : Int) > 8192 then (some (([] : List Int), some (Er.num 6), ([] : List (S184)))) else (some (u, none, ([] : List (S184)))))) else (none))) else (none))) else (some (([] : List Int), some (l.2.1.getD ez), l.2.2)))) else (if (q || (r || (s))) = true then (some (([] : List Int), some (Er.num 1), ([] : List (S184)))) else (if (n.length : Int) > 0 then (some (([] : List Int), some (Er.num 1), ([] : List (S184)))) else (some (z, none, ([] : List (S184))))))))) else (some (([] : List Int), some (Er.num 5), ([] : List (S184))))) = some (U, W, X) := H
 have A3 := Z aX
 clear aX
 by_cases c4 : aq = true
 ·subst c4
  have H1 : ((some (([(c) % 256] : List Int) : List Int)).bind fun z => ((stream_Writes.f c).bind fun J => (if J = true then ((stream_orders.f k n a1).bind fun l => (if l.2.1.isNone = true then ((attr_PutWcc.f k q r s).bind fun B => (if z.length < 140737488355328 then ((some (z ++ [B] : List Int)).bind fun y => (if y.length + l.1.length < 140737488355328 then ((some (y ++ l.1 : List Int)).bind fun u => (if (u.length : Int) > 8192 then (some (([] : List Int), some (Er.num 6), ([] : List (S184)))) else (some (u, none, ([] : List (S184)))))) else (none))) else (none))) else (some (([] : List Int), some (l.2.1.getD ez), l.2.2)))) else (if (q || (r || (s))) = true then (some (([] : List Int), some (Er.num 1), ([] : List (S184)))) else (if (n.length : Int) > 0 then (some (([] : List Int), some (Er.num 1), ([] : List (S184)))) else (some (z, none, ([] : List (S184))))))))) = some (U, W, X) := by rw [if_pos rfl] at H; exact H
  clear H
  have H := H1
  clear H1
  obtain ⟨z, Y⟩ : ∃ y_ : List Int, y_ = (([(c) % 256] : List Int)) := ⟨_, rfl⟩
  replace H : ((stream_Writes.f c).bind fun J => (if J = true then ((stream_orders.f k n a1).bind fun l => (if l.2.1.isNone = true then ((attr_PutWcc.f k q r s).bind fun B => (if z.length < 140737488355328 then ((some (z ++ [B] : List Int)).bind fun y => (if y.length + l.1.length < 140737488355328 then ((some (y ++ l.1 : List Int)).bind fun u => (if (u.length : Int) > 8192 then (some (([] : List Int), some (Er.num 6), ([] : List (S184)))) else (some (u, none, ([] : List (S184)))))) else (none))) else (none))) else (some (([] : List Int), some (l.2.1.getD ez), l.2.2)))) else (if (q || (r || (s))) = true then (some (([] : List Int), some (Er.num 1), ([] : List (S184)))) else (if (n.length : Int) > 0 then (some (([] : List Int), some (Er.num 1), ([] : List (S184)))) else (some (z, none, ([] : List (S184)))))))) = some (U, W, X) := by first | (rw [Y]; with_reducible exact H) | (have P := (Option.bind_some _ _).symm.trans H; rw [Y]; with_reducible exact P) | (have P := (Option.bind_some _ _).symm.trans H; with_reducible exact P) | with_reducible exact H | (rw [Y]; exact H) | exact H
  have I := Z Y
  clear Y
  replace H := Option.bind_eq_some_iff.mp H
  obtain ⟨J, aY, H⟩ := H
  replace H : (if J = true then ((stream_orders.f k n a1).bind fun l => (if l.2.1.isNone = true then ((attr_PutWcc.f k q r s).bind fun B => (if z.length < 140737488355328 then ((some (z ++ [B] : List Int)).bind fun y => (if y.length + l.1.length < 140737488355328 then ((some (y ++ l.1 : List Int)).bind fun u => (if (u.length : Int) > 8192 then (some (([] : List Int), some (Er.num 6), ([] : List (S184)))) else (some (u, none, ([] : List (S184)))))) else (none))) else (none))) else (some (([] : List Int), some (l.2.1.getD ez), l.2.2)))) else (if (q || (r || (s))) = true then (some (([] : List Int), some (Er.num 1), ([] : List (S184)))) else (if (n.length : Int) > 0 then (some (([] : List Int), some (Er.num 1), ([] : List (S184)))) else (some (z, none, ([] : List (S184))))))) = some (U, W, X) := H
  have A5 := Z aY
  clear aY
  by_cases c6 : J = true
  ·subst c6
   have H1 : ((stream_orders.f k n a1).bind fun l => (if l.2.1.isNone = true then ((attr_PutWcc.f k q r s).bind fun B => (if z.length < 140737488355328 then ((some (z ++ [B] : List Int)).bind fun y => (if y.length + l.1.length < 140737488355328 then ((some (y ++ l.1 : List Int)).bind fun u => (if (u.length : Int) > 8192 then (some (([] : List Int), some (Er.num 6), ([] : List (S184)))) else (some (u, none, ([] : List (S184)))))) else (none))) else (none))) else (some (([] : List Int), some (l.2.1.getD ez), l.2.2)))) = some (U, W, X) := by rw [if_pos rfl] at H; exact H
   clear H
   have H := H1
   clear H1
   replace H := Option.bind_eq_some_iff.mp H
   obtain ⟨⟨G, av, ak⟩, aZ, H⟩ := H
   replace H : (if av.isNone = true then ((attr_PutWcc.f k q r s).bind fun B => (if z.length < 140737488355328 then ((some (z ++ [B] : List Int)).bind fun y => (if y.length + G.length < 140737488355328 then ((some (y ++ G : List Int)).bind fun u => (if (u.length : Int) > 8192 then (some (([] : List Int), some (Er.num 6), ([] : List (S184)))) else (some (u, none, ([] : List (S184)))))) else (none))) else (none))) else (some (([] : List Int), some (av.getD ez), ak))) = some (U, W, X) := H
   have A7 := Z aZ
   clear aZ
   rcases av with _ | au
   ·have H1 : ((attr_PutWcc.f k q r s).bind fun B => (if z.length < 140737488355328 then ((some (z ++ [B] : List Int)).bind fun y => (if y.length + G.length < 140737488355328 then ((some (y ++ G : List Int)).bind fun u => (if (u.length : Int) > 8192 then (some (([] : List Int), some (Er.num 6), ([] : List (S184)))) else (some (u, none, ([] : List (S184)))))) else (none))) else (none))) = some (U, W, X) := by rw [if_pos (show (none : Option Er).isNone = true by rfl)] at H; exact H
    clear H
    have H := H1
    clear H1
    try simp only [errW_none, errW_some]
    replace H := Option.bind_eq_some_iff.mp H
    obtain ⟨B, a0, H⟩ := H
    replace H : (if z.length < 140737488355328 then ((some (z ++ [B] : List Int)).bind fun y => (if y.length + G.length < 140737488355328 then ((some (y ++ G : List Int)).bind fun u => (if (u.length : Int) > 8192 then (some (([] : List Int), some (Er.num 6), ([] : List (S184)))) else (some (u, none, ([] : List (S184)))))) else (none))) else (none)) = some (U, W, X) := H
    have A8 := Z a0
    clear a0
    by_cases c9 : z.length < 140737488355328
    ·rw [if_pos c9] at H
     have aI := Z c9
     clear c9
     obtain ⟨y, aa⟩ : ∃ y_ : List Int, y_ = (z ++ [B]) := ⟨_, rfl⟩
     replace H : (if y.length + G.length < 140737488355328 then ((some (y ++ G : List Int)).bind fun u => (if (u.length : Int) > 8192 then (some (([] : List Int), some (Er.num 6), ([] : List (S184)))) else (some (u, none, ([] : List (S184)))))) else (none)) = some (U, W, X) := by first | (rw [aa]; with_reducible exact H) | (have P := (Option.bind_some _ _).symm.trans H; rw [aa]; with_reducible exact P) | (have P := (Option.bind_some _ _).symm.trans H; with_reducible exact P) | with_reducible exact H | (rw [aa]; exact H) | exact H
     have ay := Z aa
     clear aa
     by_cases c10 : y.length + G.length < 140737488355328
     ·rw [if_pos c10] at H
      have ax := Z c10
      clear c10
      obtain ⟨u, ab⟩ : ∃ y_ : List Int, y_ = (y ++ G) := ⟨_, rfl⟩
      replace H : (if (u.length : Int) > 8192 then (some (([] : List Int), some (Er.num 6), ([] : List (S184)))) else (some (u, none, ([] : List (S184))))) = some (U, W, X) := by first | (rw [ab]; with_reducible exact H) | (have P := (Option.bind_some _ _).symm.trans H; rw [ab]; with_reducible exact P) | (have P := (Option.bind_some _ _).symm.trans H; with_reducible exact P) | with_reducible exact H | (rw [ab]; exact H) | exact H
      have az := Z ab
      clear ab
      by_cases al : (u.length : Int) > 8192
      ·rw [if_pos al] at H
       have aQ : decide (8192 < (u.length : Int)) = true := decide_eq_true al
       have aT : decide (8192 < u.length) = true := decide_eq_true (by omega)
       clear al
       simp only [Option.some.injEq, Prod.mk.injEq] at H
       obtain ⟨rfl, rfl, rfl⟩ := H
       go_enter Tryd.func48, Tryd.ntmps48
       go_wp2_with (first | ((with_reducible refine gate_dst (N := 2) rfl ?_); (try (refine gate_guard (by rfl) ?_; dsimp only)); refine bx_ 2 60 #[.int .i64 c, .bool q, .bool r, .bool s, .slice E n.length F] ?_; intro m hg dO hbox hb; have a := Z (hbox); have T := Z (ln_ hg : w.heap.size ≤ m); have S := Z (ln_ hg : w.heap.size ≤ m); replace HB := Z (below_step bl_ hb); clear hb hbox hg; obtain ⟨a9, ba, bb, bc, bd, cn, co, cp, cq, cr⟩ := cells5 a.out) | ((with_reducible refine gate_callee (f := 74) rfl ?_); refine goesL_ (some 11) rfl rfl Tryd.func74 (by kernel_rfl) rfl #[.int .i64 c] rfl ag_ ?_; (with_reducible refine (stream_known.calls k c true _ A3.out).mono ?_); rintro e w' ⟨rfl, ⟨nd, rfl⟩⟩; refine ⟨_, rfl, ?_⟩) | ((with_reducible refine gate_dst (N := 17) rfl ?_); (try (refine gate_guard (by rfl) ?_; dsimp only)); refine Kd.R_lit (Kd.int .u8) _ 5 ?hg (N := 17) ?hd (xs := ([(c) % 256] : List Int)) (inner := [.int .u8 ((c) % 256)]) (ok := fun _ => True) (okp := fun _ => True) ?hr ?hp (fun _ hk => hk) trivial (Below.refl _ _) (Nat.le_refl _) (by simp) ?_; (case hd => rfl); (case hg => rfl); (case hr => first | (go_simp; done) | (go_simp; rfl)); (case hp => exact (Reps.one (show Kd.M (Kd.int .u8) _ _ _ ((c) % 256) [.int .u8 ((c) % 256)] from rfl) (Reps.none _ _))); intro K dP ae hb hg_ hnew_; clear hg_ hnew_; (first | rw [← I.out] at ae | (simp only [Int.reduceToNat] at ae; rw [← I.out] at ae)); have p := Z (Kd.R_lower (Kd.R_newM (M := fun k_ => (w.heap.size ≤ k_)) ae (below_size bl_) (fun k_ h_ => h_)) (below_size bl_)); replace a := Z (kb a.out hb); replace HB := Z (below_step bl_ hb); clear hb ae; obtain ⟨be, bf, bg, bh, bi, ct, cu, cv, cw, cx⟩ := cells5 a.out) | ((with_reducible refine gate_callee (f := 75) rfl ?_); refine goesL_ (some 20) rfl rfl Tryd.func75 (by kernel_rfl) rfl #[.int .i64 c] rfl ag_ ?_; (with_reducible refine (stream_Writes.calls c true _ A5.out).mono ?_); rintro e w' ⟨rfl, ⟨nd, rfl⟩⟩; refine ⟨_, rfl, ?_⟩) | ((with_reducible refine gate_callee (f := 76) rfl ?_); refine goesL_ (some 38) rfl rfl Tryd.func76 (by kernel_rfl) rfl #[.slice E n.length F, .int .i64 a1] rfl ag_ ?_; (with_reducible refine (stream_orders.calls k _ _ n a1 G none ak _ ?side1 ?side2 A7.out).mono ?_); (case side1 => repeat (first | exact (Kd.C_below ap.out bl_) | (with_reducible apply pC))); (case side2 => exact ao.out); rintro e dQ ⟨O, aN, rfl, Q, ac, hb⟩; refine ⟨_, rfl, ?_⟩; have v := Z (Kd.R_lower (Kd.R_new' (Kd.R_newM (M := fun k_ => (w.heap.size ≤ k_)) (Kd.R_mono (ok' := fun k_ => True) Q (fun _ hk_ => trivial)) (below_size bl_) (fun k_ h_ => h_)) (Kd.R_lt (by (with_reducible repeat apply pR); exact p.out))) (below_size bl_)); have A := Z (Kd.V_lower (Kd.V_mono (ok' := fun k_ => (w.heap.size ≤ k_) ∧ some k_ ≠ (O : Value).ownBlock ∧ some k_ ≠ (K : Value).ownBlock ∧ k_ ≠ m) ac (fun k_ hk_ => ⟨(Nat.le_trans (below_size bl_) hk_.1), hk_.2, (Kd.fresh' (Kd.R_lt (by (with_reducible repeat apply pR); exact p.out)) k_ hk_.1), (Kd.freshB (g := m) (o := .cells #[.int .i64 c, .bool q, .bool r, .bool s, .slice E n.length F] 60 (0, 0)) (vK a.out) k_ hk_.1)⟩)) (below_size bl_)); replace p := Z (Kd.R_elder' (by (with_reducible repeat apply pR); exact p.out) (Kd.R_base Q) hb); replace a := Z (kb a.out hb); replace HB := Z (below_step bl_ hb); (try clear hb); (try clear aA); (try clear hk); (try clear hi); (try clear Q); (try clear ac); (try simp only [errW_none, errW_some]); obtain ⟨bj, bk, bl, bm, bn, cy, cz, cA, cB, cC⟩ := cells5 a.out) | ((with_reducible refine gate_callee (f := 77) rfl ?_); refine goesL_ (some 47) rfl rfl Tryd.func77 (by kernel_rfl) rfl #[.agg #[.bool q, .bool r, .bool s]] rfl ag_ ?_; (with_reducible refine (attr_PutWcc.calls k q r s B _ A8.out).mono ?_); rintro e dR ⟨rfl, hb⟩; refine ⟨_, rfl, ?_⟩; replace p := Z (rb p.out hb); replace v := Z (rb v.out hb); replace A := Z (vb A.out hb); replace a := Z (kb a.out hb); replace HB := Z (below_step bl_ hb); (try clear hb); (try clear aA); (try clear hk); (try clear hi)) | ((with_reducible refine gate_builtin (b := .append) (xs := #[.tmp 44, .tmp 48]) rfl ?_); (try (refine gate_guard (by rfl) ?_; dsimp only)); at_builtin; refine Kd.R_append (Kd.int .u8) (w0 := w) w.heap.size rfl (.tmp 44) (.tmp 48) 26 5 (.int .u8 0) 1 rfl Tryd.underlying26 info5 rfl (by decide) (by omega) K z B [.int .u8 B] (fun k_ => (w.heap.size ≤ k_) ∧ some k_ ≠ (O : Value).ownBlock) (fun _ => False) rfl rfl ?aP (fun _ hk => hk.elim) ?aF ?aO ?aB ?aS ?aL ?_; (case aP => exact rfl); (case aB => exact bl_); (case aF => exact (fun k_ hk => ⟨(Nat.le_trans (below_size bl_) hk), Kd.fresh' (Kd.R_lt (by (with_reducible repeat apply pR); exact v.out)) k_ hk⟩)); (case aO => exact (by (with_reducible repeat apply pR); exact Kd.R_mono p.out (fun _ hk => ⟨hk.1.1, hk.2⟩))); (case aS => exact (below_size bl_)); (case aL => have := aI.out; omega); intro aw dS ho hb hg hat; rw [← ay.out] at ho; replace a := Z (blk_grown (g := m) (o := .cells #[.int .i64 c, .bool q, .bool r, .bool s, .slice E n.length F] 60 (0, 0)) (vK a.out) hg (Kd.R_ne p.out a.out (by decide))); replace v := Z (Kd.R_after (ok := (fun k_ => (w.heap.size ≤ k_))) (by (with_reducible repeat apply pR); exact Kd.R_mono v.out (fun _ hk => ⟨hk.1.1, hk.2⟩)) hg hat); replace A := Z (Kd.V_afterv (ok := (fun k_ => (w.heap.size ≤ k_) ∧ some k_ ≠ (O : Value).ownBlock ∧ k_ ≠ m)) (by (with_reducible repeat apply pV); exact Kd.V_mono A.out (fun _ hk => ⟨⟨hk.1, ⟨hk.2.1, hk.2.2.2⟩⟩, hk.2.2.1⟩)) hg hat); replace HB := Z (hb); have L := Z (ho); clear p; clear ho hb hg hat; obtain ⟨aG, aJ, a4⟩ := Kd.R_slice v.out; subst a4) | ((with_reducible refine gate_builtin (b := .append) (xs := #[.tmp 49, .tmp 50]) rfl ?_); (try (refine gate_guard (by rfl) ?_; dsimp only)); at_builtin; refine Kd.R_append_rows (Kd.int .u8) (w0 := w) w.heap.size rfl (.tmp 49) (.tmp 50) 26 5 (.int .u8 0) 1 rfl Tryd.underlying26 info5 rfl (by decide) (by omega) aw y G _ _ _ (fun k_ => (w.heap.size ≤ k_) ∧ some k_ ≠ (.slice aG G.length aJ : Value).ownBlock) (fun _ => False) rfl rfl ?aO ?aR (fun _ _ h => h) (fun _ h => h.elim) ?aF ?aB ?aS ?aL ?_; (case aR => repeat (first | exact (Kd.R_reads' v.out).2.2 | (with_reducible apply pC))); (case aB => exact bl_); (case aF => exact (fun k_ hk => ⟨(Nat.le_trans (below_size bl_) hk), Kd.fresh' (Kd.R_lt (by (with_reducible repeat apply pR); exact v.out)) k_ hk⟩)); (case aO => exact (by (with_reducible repeat apply pR); exact L.out)); (case aS => exact (below_size bl_)); (case aL => have := ax.out; omega); intro a8 dT ho hb hg hat; rw [← az.out] at ho; replace a := Z (blk_grown (g := m) (o := .cells #[.int .i64 c, .bool q, .bool r, .bool s, .slice E n.length F] 60 (0, 0)) (vK a.out) hg (Kd.R_ne L.out a.out (by decide))); replace v := Z (Kd.R_after (ok := (fun k_ => (w.heap.size ≤ k_))) (by (with_reducible repeat apply pR); exact v.out) hg hat); replace A := Z (Kd.V_afterv (ok := (fun k_ => (w.heap.size ≤ k_) ∧ some k_ ≠ (.slice aG G.length aJ : Value).ownBlock ∧ k_ ≠ m)) (vV A.out) hg hat); replace HB := Z (hb); have ad := Z (ho); clear L; clear ho hb hg hat; obtain ⟨dG, dI, a5⟩ := Kd.R_slice ad.out; subst a5))
       go_ret2
       exact ⟨_, _, er_, by first | exact Kd.R_nil _ _ _ _ _ | exact Kd.N_nil _ _ _ _ _ | exact Kd.V_nil _ _ _ _ _ | exact Kd.Q_nil _ _ _ _ _ | exact Kd.S_nil _ _ _ _ _, Kd.R_V (by first | exact Kd.R_nil _ _ _ 0 _ | exact Kd.N_nil _ _ _ _ _ | exact Kd.V_nil _ _ _ _ _ | exact Kd.Q_nil _ _ _ _ _ | exact Kd.S_nil _ _ _ _ _), bl_⟩
      ·rw [if_neg al] at H
       have aQ : decide (8192 < (u.length : Int)) = false := decide_eq_false al
       have aT : decide (8192 < u.length) = false := decide_eq_false (by omega)
       clear al
       simp only [Option.some.injEq, Prod.mk.injEq] at H
       obtain ⟨rfl, rfl, rfl⟩ := H
       go_enter Tryd.func48, Tryd.ntmps48
       go_wp2_with (first | ((with_reducible refine gate_dst (N := 2) rfl ?_); (try (refine gate_guard (by rfl) ?_; dsimp only)); refine bx_ 2 60 #[.int .i64 c, .bool q, .bool r, .bool s, .slice E n.length F] ?_; intro m hg dU hbox hb; have a := Z (hbox); have T := Z (ln_ hg : w.heap.size ≤ m); have S := Z (ln_ hg : w.heap.size ≤ m); replace HB := Z (below_step bl_ hb); clear hb hbox hg; obtain ⟨bo, bp, bq, br, bs, cD, cE, cF, cG, cH⟩ := cells5 a.out) | ((with_reducible refine gate_callee (f := 74) rfl ?_); refine goesL_ (some 11) rfl rfl Tryd.func74 (by kernel_rfl) rfl #[.int .i64 c] rfl ag_ ?_; (with_reducible refine (stream_known.calls k c true _ A3.out).mono ?_); rintro e w' ⟨rfl, ⟨nd, rfl⟩⟩; refine ⟨_, rfl, ?_⟩) | ((with_reducible refine gate_dst (N := 17) rfl ?_); (try (refine gate_guard (by rfl) ?_; dsimp only)); refine Kd.R_lit (Kd.int .u8) _ 5 ?hg (N := 17) ?hd (xs := ([(c) % 256] : List Int)) (inner := [.int .u8 ((c) % 256)]) (ok := fun _ => True) (okp := fun _ => True) ?hr ?hp (fun _ hk => hk) trivial (Below.refl _ _) (Nat.le_refl _) (by simp) ?_; (case hd => rfl); (case hg => rfl); (case hr => first | (go_simp; done) | (go_simp; rfl)); (case hp => exact (Reps.one (show Kd.M (Kd.int .u8) _ _ _ ((c) % 256) [.int .u8 ((c) % 256)] from rfl) (Reps.none _ _))); intro K dV af hb hg_ hnew_; clear hg_ hnew_; (first | rw [← I.out] at af | (simp only [Int.reduceToNat] at af; rw [← I.out] at af)); have p := Z (Kd.R_lower (Kd.R_newM (M := fun k_ => (w.heap.size ≤ k_)) af (below_size bl_) (fun k_ h_ => h_)) (below_size bl_)); replace a := Z (kb a.out hb); replace HB := Z (below_step bl_ hb); clear hb af; obtain ⟨bt, bu, bv, bw, bx, cI, cJ, cK, cL, cM⟩ := cells5 a.out) | ((with_reducible refine gate_callee (f := 75) rfl ?_); refine goesL_ (some 20) rfl rfl Tryd.func75 (by kernel_rfl) rfl #[.int .i64 c] rfl ag_ ?_; (with_reducible refine (stream_Writes.calls c true _ A5.out).mono ?_); rintro e w' ⟨rfl, ⟨nd, rfl⟩⟩; refine ⟨_, rfl, ?_⟩) | ((with_reducible refine gate_callee (f := 76) rfl ?_); refine goesL_ (some 38) rfl rfl Tryd.func76 (by kernel_rfl) rfl #[.slice E n.length F, .int .i64 a1] rfl ag_ ?_; (with_reducible refine (stream_orders.calls k _ _ n a1 G none ak _ ?side1 ?side2 A7.out).mono ?_); (case side1 => repeat (first | exact (Kd.C_below ap.out bl_) | (with_reducible apply pC))); (case side2 => exact ao.out); rintro e dW ⟨O, aN, rfl, Q, ac, hb⟩; refine ⟨_, rfl, ?_⟩; have v := Z (Kd.R_lower (Kd.R_new' (Kd.R_newM (M := fun k_ => (w.heap.size ≤ k_)) (Kd.R_mono (ok' := fun k_ => True) Q (fun _ hk_ => trivial)) (below_size bl_) (fun k_ h_ => h_)) (Kd.R_lt (by (with_reducible repeat apply pR); exact p.out))) (below_size bl_)); have A := Z (Kd.V_lower (Kd.V_mono (ok' := fun k_ => (w.heap.size ≤ k_) ∧ some k_ ≠ (O : Value).ownBlock ∧ some k_ ≠ (K : Value).ownBlock ∧ k_ ≠ m) ac (fun k_ hk_ => ⟨(Nat.le_trans (below_size bl_) hk_.1), hk_.2, (Kd.fresh' (Kd.R_lt (by (with_reducible repeat apply pR); exact p.out)) k_ hk_.1), (Kd.freshB (g := m) (o := .cells #[.int .i64 c, .bool q, .bool r, .bool s, .slice E n.length F] 60 (0, 0)) (vK a.out) k_ hk_.1)⟩)) (below_size bl_)); replace p := Z (Kd.R_elder' (by (with_reducible repeat apply pR); exact p.out) (Kd.R_base Q) hb); replace a := Z (kb a.out hb); replace HB := Z (below_step bl_ hb); (try clear hb); (try clear aA); (try clear hk); (try clear hi); (try clear Q); (try clear ac); (try simp only [errW_none, errW_some]); obtain ⟨bz, bA, bB, bC, bD, cN, cO, cP, cQ, cR⟩ := cells5 a.out) | ((with_reducible refine gate_callee (f := 77) rfl ?_); refine goesL_ (some 47) rfl rfl Tryd.func77 (by kernel_rfl) rfl #[.agg #[.bool q, .bool r, .bool s]] rfl ag_ ?_; (with_reducible refine (attr_PutWcc.calls k q r s B _ A8.out).mono ?_); rintro e dX ⟨rfl, hb⟩; refine ⟨_, rfl, ?_⟩; replace p := Z (rb p.out hb); replace v := Z (rb v.out hb); replace A := Z (vb A.out hb); replace a := Z (kb a.out hb); replace HB := Z (below_step bl_ hb); (try clear hb); (try clear aA); (try clear hk); (try clear hi)) | ((with_reducible refine gate_builtin (b := .append) (xs := #[.tmp 44, .tmp 48]) rfl ?_); (try (refine gate_guard (by rfl) ?_; dsimp only)); at_builtin; refine Kd.R_append (Kd.int .u8) (w0 := w) w.heap.size rfl (.tmp 44) (.tmp 48) 26 5 (.int .u8 0) 1 rfl Tryd.underlying26 info5 rfl (by decide) (by omega) K z B [.int .u8 B] (fun k_ => (w.heap.size ≤ k_) ∧ some k_ ≠ (O : Value).ownBlock) (fun _ => False) rfl rfl ?aP (fun _ hk => hk.elim) ?aF ?aO ?aB ?aS ?aL ?_; (case aP => exact rfl); (case aB => exact bl_); (case aF => exact (fun k_ hk => ⟨(Nat.le_trans (below_size bl_) hk), Kd.fresh' (Kd.R_lt (by (with_reducible repeat apply pR); exact v.out)) k_ hk⟩)); (case aO => exact (by (with_reducible repeat apply pR); exact Kd.R_mono p.out (fun _ hk => ⟨hk.1.1, hk.2⟩))); (case aS => exact (below_size bl_)); (case aL => have := aI.out; omega); intro aw dY ho hb hg hat; rw [← ay.out] at ho; replace a := Z (blk_grown (g := m) (o := .cells #[.int .i64 c, .bool q, .bool r, .bool s, .slice E n.length F] 60 (0, 0)) (vK a.out) hg (Kd.R_ne p.out a.out (by decide))); replace v := Z (Kd.R_after (ok := (fun k_ => (w.heap.size ≤ k_))) (by (with_reducible repeat apply pR); exact Kd.R_mono v.out (fun _ hk => ⟨hk.1.1, hk.2⟩)) hg hat); replace A := Z (Kd.V_afterv (ok := (fun k_ => (w.heap.size ≤ k_) ∧ some k_ ≠ (O : Value).ownBlock ∧ k_ ≠ m)) (by (with_reducible repeat apply pV); exact Kd.V_mono A.out (fun _ hk => ⟨⟨hk.1, ⟨hk.2.1, hk.2.2.2⟩⟩, hk.2.2.1⟩)) hg hat); replace HB := Z (hb); have L := Z (ho); clear p; clear ho hb hg hat; obtain ⟨aH, aK, a6⟩ := Kd.R_slice v.out; subst a6) | ((with_reducible refine gate_builtin (b := .append) (xs := #[.tmp 49, .tmp 50]) rfl ?_); (try (refine gate_guard (by rfl) ?_; dsimp only)); at_builtin; refine Kd.R_append_rows (Kd.int .u8) (w0 := w) w.heap.size rfl (.tmp 49) (.tmp 50) 26 5 (.int .u8 0) 1 rfl Tryd.underlying26 info5 rfl (by decide) (by omega) aw y G _ _ _ (fun k_ => (w.heap.size ≤ k_) ∧ some k_ ≠ (.slice aH G.length aK : Value).ownBlock) (fun _ => False) rfl rfl ?aO ?aR (fun _ _ h => h) (fun _ h => h.elim) ?aF ?aB ?aS ?aL ?_; (case aR => repeat (first | exact (Kd.R_reads' v.out).2.2 | (with_reducible apply pC))); (case aB => exact bl_); (case aF => exact (fun k_ hk => ⟨(Nat.le_trans (below_size bl_) hk), Kd.fresh' (Kd.R_lt (by (with_reducible repeat apply pR); exact v.out)) k_ hk⟩)); (case aO => exact (by (with_reducible repeat apply pR); exact L.out)); (case aS => exact (below_size bl_)); (case aL => have := ax.out; omega); intro a8 dZ ho hb hg hat; rw [← az.out] at ho; replace a := Z (blk_grown (g := m) (o := .cells #[.int .i64 c, .bool q, .bool r, .bool s, .slice E n.length F] 60 (0, 0)) (vK a.out) hg (Kd.R_ne L.out a.out (by decide))); replace v := Z (Kd.R_after (ok := (fun k_ => (w.heap.size ≤ k_))) (by (with_reducible repeat apply pR); exact v.out) hg hat); replace A := Z (Kd.V_afterv (ok := (fun k_ => (w.heap.size ≤ k_) ∧ some k_ ≠ (.slice aH G.length aK : Value).ownBlock ∧ k_ ≠ m)) (vV A.out) hg hat); replace HB := Z (hb); have ad := Z (ho); clear L; clear ho hb hg hat; obtain ⟨dH, dJ, a7⟩ := Kd.R_slice ad.out; subst a7))
       go_ret2
       exact ⟨_, _, er_, by (with_reducible repeat apply pR); exact Kd.R_mono ad.out (fun _ hk => hk.1), Kd.R_V (by first | exact Kd.R_nil _ _ _ 0 _ | exact Kd.N_nil _ _ _ _ _ | exact Kd.V_nil _ _ _ _ _ | exact Kd.Q_nil _ _ _ _ _ | exact Kd.S_nil _ _ _ _ _), bl_⟩
     ·rw [if_neg c10] at H
      exact absurd H (by simp)
    ·rw [if_neg c9] at H
     exact absurd H (by simp)
   ·have H1 : (some (([] : List Int), some au, ak)) = some (U, W, X) := by rw [if_neg (show ¬ (some au).isNone = true by simp)] at H; exact H
    clear H
    have H := H1
    clear H1
    try simp only [errW_none, errW_some]
    simp only [Option.some.injEq, Prod.mk.injEq] at H
    obtain ⟨rfl, rfl, rfl⟩ := H
    go_enter Tryd.func48, Tryd.ntmps48
    go_wp2_with (first | ((with_reducible refine gate_dst (N := 2) rfl ?_); (try (refine gate_guard (by rfl) ?_; dsimp only)); refine bx_ 2 60 #[.int .i64 c, .bool q, .bool r, .bool s, .slice E n.length F] ?_; intro m hg d0 hbox hb; have a := Z (hbox); have T := Z (ln_ hg : w.heap.size ≤ m); have S := Z (ln_ hg : w.heap.size ≤ m); replace HB := Z (below_step bl_ hb); clear hb hbox hg; obtain ⟨bE, bF, bG, bH, bI, cS, cT, cU, cV, cW⟩ := cells5 a.out) | ((with_reducible refine gate_callee (f := 74) rfl ?_); refine goesL_ (some 11) rfl rfl Tryd.func74 (by kernel_rfl) rfl #[.int .i64 c] rfl ag_ ?_; (with_reducible refine (stream_known.calls k c true _ A3.out).mono ?_); rintro e w' ⟨rfl, ⟨nd, rfl⟩⟩; refine ⟨_, rfl, ?_⟩) | ((with_reducible refine gate_dst (N := 17) rfl ?_); (try (refine gate_guard (by rfl) ?_; dsimp only)); refine Kd.R_lit (Kd.int .u8) _ 5 ?hg (N := 17) ?hd (xs := ([(c) % 256] : List Int)) (inner := [.int .u8 ((c) % 256)]) (ok := fun _ => True) (okp := fun _ => True) ?hr ?hp (fun _ hk => hk) trivial (Below.refl _ _) (Nat.le_refl _) (by simp) ?_; (case hd => rfl); (case hg => rfl); (case hr => first | (go_simp; done) | (go_simp; rfl)); (case hp => exact (Reps.one (show Kd.M (Kd.int .u8) _ _ _ ((c) % 256) [.int .u8 ((c) % 256)] from rfl) (Reps.none _ _))); intro K d1 ag hb hg_ hnew_; clear hg_ hnew_; (first | rw [← I.out] at ag | (simp only [Int.reduceToNat] at ag; rw [← I.out] at ag)); have p := Z (Kd.R_lower (Kd.R_newM (M := fun k_ => (w.heap.size ≤ k_)) ag (below_size bl_) (fun k_ h_ => h_)) (below_size bl_)); replace a := Z (kb a.out hb); replace HB := Z (below_step bl_ hb); clear hb ag; obtain ⟨bJ, bK, bL, bM, bN, cX, cY, cZ, c0, c1⟩ := cells5 a.out) | ((with_reducible refine gate_callee (f := 75) rfl ?_); refine goesL_ (some 20) rfl rfl Tryd.func75 (by kernel_rfl) rfl #[.int .i64 c] rfl ag_ ?_; (with_reducible refine (stream_Writes.calls c true _ A5.out).mono ?_); rintro e w' ⟨rfl, ⟨nd, rfl⟩⟩; refine ⟨_, rfl, ?_⟩) | ((with_reducible refine gate_callee (f := 76) rfl ?_); refine goesL_ (some 38) rfl rfl Tryd.func76 (by kernel_rfl) rfl #[.slice E n.length F, .int .i64 a1] rfl ag_ ?_; (with_reducible refine (stream_orders.calls k _ _ n a1 G (some au) ak _ ?side1 ?side2 A7.out).mono ?_); (case side1 => repeat (first | exact (Kd.C_below ap.out bl_) | (with_reducible apply pC))); (case side2 => exact ao.out); rintro e d2 ⟨O, aN, rfl, Q, ac, hb⟩; refine ⟨_, rfl, ?_⟩; have v := Z (Kd.R_lower (Kd.R_new' (Kd.R_newM (M := fun k_ => (w.heap.size ≤ k_)) (Kd.R_mono (ok' := fun k_ => True) Q (fun _ hk_ => trivial)) (below_size bl_) (fun k_ h_ => h_)) (Kd.R_lt (by (with_reducible repeat apply pR); exact p.out))) (below_size bl_)); have A := Z (Kd.V_lower (Kd.V_mono (ok' := fun k_ => (w.heap.size ≤ k_) ∧ some k_ ≠ (O : Value).ownBlock ∧ some k_ ≠ (K : Value).ownBlock ∧ k_ ≠ m) ac (fun k_ hk_ => ⟨(Nat.le_trans (below_size bl_) hk_.1), hk_.2, (Kd.fresh' (Kd.R_lt (by (with_reducible repeat apply pR); exact p.out)) k_ hk_.1), (Kd.freshB (g := m) (o := .cells #[.int .i64 c, .bool q, .bool r, .bool s, .slice E n.length F] 60 (0, 0)) (vK a.out) k_ hk_.1)⟩)) (below_size bl_)); replace p := Z (Kd.R_elder' (by (with_reducible repeat apply pR); exact p.out) (Kd.R_base Q) hb); replace a := Z (kb a.out hb); replace HB := Z (below_step bl_ hb); (try clear hb); (try clear aA); (try clear hk); (try clear hi); (try clear Q); (try clear ac); (try simp only [errW_none, errW_some])))
    go_ret2
    exact ⟨_, _, er_, by first | exact Kd.R_nil _ _ _ _ _ | exact Kd.N_nil _ _ _ _ _ | exact Kd.V_nil _ _ _ _ _ | exact Kd.Q_nil _ _ _ _ _ | exact Kd.S_nil _ _ _ _ _, by (with_reducible repeat apply pV); exact Kd.V_mono A.out (fun _ hk => ⟨hk.1, (by simp [Value.ownBlock])⟩), bl_⟩
  ·replace c6 := Bool.eq_false_iff.mpr c6
   subst c6
   have H1 : (if (q || (r || (s))) = true then (some (([] : List Int), some (Er.num 1), ([] : List (S184)))) else (if (n.length : Int) > 0 then (some (([] : List Int), some (Er.num 1), ([] : List (S184)))) else (some (z, none, ([] : List (S184)))))) = some (U, W, X) := by rw [if_neg (show ¬ (false = true) by decide)] at H; exact H
   clear H
   have H := H1
   clear H1
   by_cases am : (q || (r || (s))) = true
   ·rw [if_pos am] at H
    have aU : (q || (r || (s))) = true := am
    clear am
    simp only [Option.some.injEq, Prod.mk.injEq] at H
    obtain ⟨rfl, rfl, rfl⟩ := H
    go_enter Tryd.func48, Tryd.ntmps48
    go_wp2_with (first | ((with_reducible refine gate_dst (N := 2) rfl ?_); (try (refine gate_guard (by rfl) ?_; dsimp only)); refine bx_ 2 60 #[.int .i64 c, .bool q, .bool r, .bool s, .slice E n.length F] ?_; intro m hg d3 hbox hb; have a := Z (hbox); have T := Z (ln_ hg : w.heap.size ≤ m); have S := Z (ln_ hg : w.heap.size ≤ m); replace HB := Z (below_step bl_ hb); clear hb hbox hg; obtain ⟨bO, bP, bQ, bR, bS, c2, c3, c5, c7, c8⟩ := cells5 a.out) | ((with_reducible refine gate_callee (f := 74) rfl ?_); refine goesL_ (some 11) rfl rfl Tryd.func74 (by kernel_rfl) rfl #[.int .i64 c] rfl ag_ ?_; (with_reducible refine (stream_known.calls k c true _ A3.out).mono ?_); rintro e w' ⟨rfl, ⟨nd, rfl⟩⟩; refine ⟨_, rfl, ?_⟩) | ((with_reducible refine gate_dst (N := 17) rfl ?_); (try (refine gate_guard (by rfl) ?_; dsimp only)); refine Kd.R_lit (Kd.int .u8) _ 5 ?hg (N := 17) ?hd (xs := ([(c) % 256] : List Int)) (inner := [.int .u8 ((c) % 256)]) (ok := fun _ => True) (okp := fun _ => True) ?hr ?hp (fun _ hk => hk) trivial (Below.refl _ _) (Nat.le_refl _) (by simp) ?_; (case hd => rfl); (case hg => rfl); (case hr => first | (go_simp; done) | (go_simp; rfl)); (case hp => exact (Reps.one (show Kd.M (Kd.int .u8) _ _ _ ((c) % 256) [.int .u8 ((c) % 256)] from rfl) (Reps.none _ _))); intro K d4 ah hb hg_ hnew_; clear hg_ hnew_; (first | rw [← I.out] at ah | (simp only [Int.reduceToNat] at ah; rw [← I.out] at ah)); have p := Z (Kd.R_lower (Kd.R_newM (M := fun k_ => (w.heap.size ≤ k_)) ah (below_size bl_) (fun k_ h_ => h_)) (below_size bl_)); replace a := Z (kb a.out hb); replace HB := Z (below_step bl_ hb); clear hb ah; obtain ⟨bT, bU, bV, bW, bX, da, db, dc, dd, de⟩ := cells5 a.out) | ((with_reducible refine gate_callee (f := 75) rfl ?_); refine goesL_ (some 20) rfl rfl Tryd.func75 (by kernel_rfl) rfl #[.int .i64 c] rfl ag_ ?_; (with_reducible refine (stream_Writes.calls c false _ A5.out).mono ?_); rintro e w' ⟨rfl, ⟨nd, rfl⟩⟩; refine ⟨_, rfl, ?_⟩))
    go_ret2
    exact ⟨_, _, er_, by first | exact Kd.R_nil _ _ _ _ _ | exact Kd.N_nil _ _ _ _ _ | exact Kd.V_nil _ _ _ _ _ | exact Kd.Q_nil _ _ _ _ _ | exact Kd.S_nil _ _ _ _ _, Kd.R_V (by first | exact Kd.R_nil _ _ _ 0 _ | exact Kd.N_nil _ _ _ _ _ | exact Kd.V_nil _ _ _ _ _ | exact Kd.Q_nil _ _ _ _ _ | exact Kd.S_nil _ _ _ _ _), bl_⟩
   ·rw [if_neg am] at H
    have aU : (q || (r || (s))) = false := by simpa using am
    clear am
    by_cases an : (n.length : Int) > 0
    ·rw [if_pos an] at H
     have aV : decide (0 < (n.length : Int)) = true := decide_eq_true an
     have aW : decide (0 < n.length) = true := decide_eq_true (by omega)
     clear an
     simp only [Option.some.injEq, Prod.mk.injEq] at H
     obtain ⟨rfl, rfl, rfl⟩ := H
     go_enter Tryd.func48, Tryd.ntmps48
     go_wp2_with (first | ((with_reducible refine gate_dst (N := 2) rfl ?_); (try (refine gate_guard (by rfl) ?_; dsimp only)); refine bx_ 2 60 #[.int .i64 c, .bool q, .bool r, .bool s, .slice E n.length F] ?_; intro m hg d5 hbox hb; have a := Z (hbox); have T := Z (ln_ hg : w.heap.size ≤ m); have S := Z (ln_ hg : w.heap.size ≤ m); replace HB := Z (below_step bl_ hb); clear hb hbox hg; obtain ⟨bY, bZ, b0, b1, b2, df, dg, dh, di, dj⟩ := cells5 a.out) | ((with_reducible refine gate_callee (f := 74) rfl ?_); refine goesL_ (some 11) rfl rfl Tryd.func74 (by kernel_rfl) rfl #[.int .i64 c] rfl ag_ ?_; (with_reducible refine (stream_known.calls k c true _ A3.out).mono ?_); rintro e w' ⟨rfl, ⟨nd, rfl⟩⟩; refine ⟨_, rfl, ?_⟩) | ((with_reducible refine gate_dst (N := 17) rfl ?_); (try (refine gate_guard (by rfl) ?_; dsimp only)); refine Kd.R_lit (Kd.int .u8) _ 5 ?hg (N := 17) ?hd (xs := ([(c) % 256] : List Int)) (inner := [.int .u8 ((c) % 256)]) (ok := fun _ => True) (okp := fun _ => True) ?hr ?hp (fun _ hk => hk) trivial (Below.refl _ _) (Nat.le_refl _) (by simp) ?_; (case hd => rfl); (case hg => rfl); (case hr => first | (go_simp; done) | (go_simp; rfl)); (case hp => exact (Reps.one (show Kd.M (Kd.int .u8) _ _ _ ((c) % 256) [.int .u8 ((c) % 256)] from rfl) (Reps.none _ _))); intro K d6 ai hb hg_ hnew_; clear hg_ hnew_; (first | rw [← I.out] at ai | (simp only [Int.reduceToNat] at ai; rw [← I.out] at ai)); have p := Z (Kd.R_lower (Kd.R_newM (M := fun k_ => (w.heap.size ≤ k_)) ai (below_size bl_) (fun k_ h_ => h_)) (below_size bl_)); replace a := Z (kb a.out hb); replace HB := Z (below_step bl_ hb); clear hb ai; obtain ⟨b3, b4, b5, b6, b7, dk, dl, dm, dn, dp⟩ := cells5 a.out) | ((with_reducible refine gate_callee (f := 75) rfl ?_); refine goesL_ (some 20) rfl rfl Tryd.func75 (by kernel_rfl) rfl #[.int .i64 c] rfl ag_ ?_; (with_reducible refine (stream_Writes.calls c false _ A5.out).mono ?_); rintro e w' ⟨rfl, ⟨nd, rfl⟩⟩; refine ⟨_, rfl, ?_⟩))
     go_ret2
     exact ⟨_, _, er_, by first | exact Kd.R_nil _ _ _ _ _ | exact Kd.N_nil _ _ _ _ _ | exact Kd.V_nil _ _ _ _ _ | exact Kd.Q_nil _ _ _ _ _ | exact Kd.S_nil _ _ _ _ _, Kd.R_V (by first | exact Kd.R_nil _ _ _ 0 _ | exact Kd.N_nil _ _ _ _ _ | exact Kd.V_nil _ _ _ _ _ | exact Kd.Q_nil _ _ _ _ _ | exact Kd.S_nil _ _ _ _ _), bl_⟩
    ·rw [if_neg an] at H
     have aV : decide (0 < (n.length : Int)) = false := decide_eq_false an
     have aW : decide (0 < n.length) = false := decide_eq_false (by omega)
     clear an
     simp only [Option.some.injEq, Prod.mk.injEq] at H
     obtain ⟨rfl, rfl, rfl⟩ := H
     go_enter Tryd.func48, Tryd.ntmps48
     go_wp2_with (first | ((with_reducible refine gate_dst (N := 2) rfl ?_); (try (refine gate_guard (by rfl) ?_; dsimp only)); refine bx_ 2 60 #[.int .i64 c, .bool q, .bool r, .bool s, .slice E n.length F] ?_; intro m hg d7 hbox hb; have a := Z (hbox); have T := Z (ln_ hg : w.heap.size ≤ m); have S := Z (ln_ hg : w.heap.size ≤ m); replace HB := Z (below_step bl_ hb); clear hb hbox hg; obtain ⟨b8, b9, ca, cb, cc, dq, dr, ds, dt, du⟩ := cells5 a.out) | ((with_reducible refine gate_callee (f := 74) rfl ?_); refine goesL_ (some 11) rfl rfl Tryd.func74 (by kernel_rfl) rfl #[.int .i64 c] rfl ag_ ?_; (with_reducible refine (stream_known.calls k c true _ A3.out).mono ?_); rintro e w' ⟨rfl, ⟨nd, rfl⟩⟩; refine ⟨_, rfl, ?_⟩) | ((with_reducible refine gate_dst (N := 17) rfl ?_); (try (refine gate_guard (by rfl) ?_; dsimp only)); refine Kd.R_lit (Kd.int .u8) _ 5 ?hg (N := 17) ?hd (xs := ([(c) % 256] : List Int)) (inner := [.int .u8 ((c) % 256)]) (ok := fun _ => True) (okp := fun _ => True) ?hr ?hp (fun _ hk => hk) trivial (Below.refl _ _) (Nat.le_refl _) (by simp) ?_; (case hd => rfl); (case hg => rfl); (case hr => first | (go_simp; done) | (go_simp; rfl)); (case hp => exact (Reps.one (show Kd.M (Kd.int .u8) _ _ _ ((c) % 256) [.int .u8 ((c) % 256)] from rfl) (Reps.none _ _))); intro K d8 aj hb hg_ hnew_; clear hg_ hnew_; (first | rw [← I.out] at aj | (simp only [Int.reduceToNat] at aj; rw [← I.out] at aj)); have p := Z (Kd.R_lower (Kd.R_newM (M := fun k_ => (w.heap.size ≤ k_)) aj (below_size bl_) (fun k_ h_ => h_)) (below_size bl_)); replace a := Z (kb a.out hb); replace HB := Z (below_step bl_ hb); clear hb aj; obtain ⟨cd, ce, cf, cg, ch, dv, dw, dx, dy, dz⟩ := cells5 a.out) | ((with_reducible refine gate_callee (f := 75) rfl ?_); refine goesL_ (some 20) rfl rfl Tryd.func75 (by kernel_rfl) rfl #[.int .i64 c] rfl ag_ ?_; (with_reducible refine (stream_Writes.calls c false _ A5.out).mono ?_); rintro e w' ⟨rfl, ⟨nd, rfl⟩⟩; refine ⟨_, rfl, ?_⟩))
     go_ret2
     exact ⟨_, _, er_, by (with_reducible repeat apply pR); exact Kd.R_mono p.out (fun _ hk => hk.1), Kd.R_V (by first | exact Kd.R_nil _ _ _ 0 _ | exact Kd.N_nil _ _ _ _ _ | exact Kd.V_nil _ _ _ _ _ | exact Kd.Q_nil _ _ _ _ _ | exact Kd.S_nil _ _ _ _ _), bl_⟩
 ·replace c4 := Bool.eq_false_iff.mpr c4
  subst c4
  have H1 : (some (([] : List Int), some (Er.num 5), ([] : List (S184)))) = some (U, W, X) := by rw [if_neg (show ¬ (false = true) by decide)] at H; exact H
  clear H
  have H := H1
  clear H1
  simp only [Option.some.injEq, Prod.mk.injEq] at H
  obtain ⟨rfl, rfl, rfl⟩ := H
  go_enter Tryd.func48, Tryd.ntmps48
  go_wp2_with (first | ((with_reducible refine gate_dst (N := 2) rfl ?_); (try (refine gate_guard (by rfl) ?_; dsimp only)); refine bx_ 2 60 #[.int .i64 c, .bool q, .bool r, .bool s, .slice E n.length F] ?_; intro m hg d9 hbox hb; have a := Z (hbox); have T := Z (ln_ hg : w.heap.size ≤ m); have S := Z (ln_ hg : w.heap.size ≤ m); replace HB := Z (below_step bl_ hb); clear hb hbox hg; obtain ⟨ci, cj, ck, cl, cm, dA, dB, dC, dD, dE⟩ := cells5 a.out) | ((with_reducible refine gate_callee (f := 74) rfl ?_); refine goesL_ (some 11) rfl rfl Tryd.func74 (by kernel_rfl) rfl #[.int .i64 c] rfl ag_ ?_; (with_reducible refine (stream_known.calls k c false _ A3.out).mono ?_); rintro e w' ⟨rfl, ⟨nd, rfl⟩⟩; refine ⟨_, rfl, ?_⟩))
  go_ret2
  exact ⟨_, _, er_, by first | exact Kd.R_nil _ _ _ _ _ | exact Kd.N_nil _ _ _ _ _ | exact Kd.V_nil _ _ _ _ _ | exact Kd.Q_nil _ _ _ _ _ | exact Kd.S_nil _ _ _ _ _, Kd.R_V (by first | exact Kd.R_nil _ _ _ 0 _ | exact Kd.N_nil _ _ _ _ _ | exact Kd.V_nil _ _ _ _ _ | exact Kd.Q_nil _ _ _ _ _ | exact Kd.S_nil _ _ _ _ _), bl_⟩

/-! ### host_unlocked: function 49 -/
def host_unlocked.f (a : Int) (b : Int) (d : List (S44)) (c : Int) (e : Bool) (g : Bool) : Option (Int × Int × (List (S44)) × Int × Bool × Bool) := some (a, b, d, c, false, false)
set_option maxHeartbeats 8000000 in
set_option maxRecDepth 100000 in
theorem host_unlocked.calls (c : Int) (d : Int) (o : Nat → Prop) (g : Option Addr) (j : Nat) (a : List (S44)) (l : Int) (y : Bool) (z : Bool) (G : Int) (I : Int) (J : List (S44)) (K : Int) (L : Bool) (M : Bool) (w : World) (B : Kd.V k44 44 w w.heap.size (fun k_ => o k_) (.slice g a.length j) a) (h : host_unlocked.f c d a l y z = some (G, I, J, K, L, M)) :
  Calls Tryd.prog 49 #[.agg #[.int .i64 c, .int .i64 d, .slice g a.length j, .int .i64 l, .bool y, .bool z]] w fun e w' => ∃ F : Value, e = .returned (.agg #[.int .i64 G, .int .i64 I, F, .int .i64 K, .bool L, .bool M]) ∧ Kd.V k44 44 w' w.heap.size (fun k_ => (o k_ ∨ w.heap.size ≤ k_)) F J ∧ Below w.heap.size w w' := by
 have aw := Tryd.underlying24
 have i := Z (show Kd.V k44 44 w w.heap.size (fun k_ => (o k_ ∨ w.heap.size ≤ k_)) (.slice g a.length j) a from Kd.V_mono B (fun k_ hk => .inl hk))
 have HB := Z (Below.refl w.heap.size w)
 have H : (some (c, d, a, l, false, false)) = some (G, I, J, K, L, M) := h
 clear h
 simp only [Option.some.injEq, Prod.mk.injEq] at H
 obtain ⟨rfl, rfl, rfl, rfl, rfl, rfl⟩ := H
 go_enter Tryd.func49, Tryd.ntmps49
 go_wp2_with (first | ((with_reducible refine gate_dst (N := 1) rfl ?_); refine bx_ 1 24 #[.int .i64 c, .int .i64 d, .slice g a.length j, .int .i64 l, .bool y, .bool z] ?_; intro n hg w2 hbox hb; replace i := Z (ve i.out hg hb); have m := Z (hbox); have aq := Z (ln_ hg : w.heap.size ≤ n); have ao := Z (ln_ hg : w.heap.size ≤ n); replace HB := Z (below_step bl_ hb); clear hb hbox hg) | ((with_reducible refine gate_dst (N := 2) rfl ?_); refine bx_ 2 24 #[.int .i64 0, .int .i64 0, .slice none 0 0, .int .i64 0, .bool false, .bool false] ?_; intro b hg w3 hbox hb; replace i := Z (ve i.out hg hb); have A := Z (hbox); have ar := Z (ln_ hg : w.heap.size ≤ b); have ap := Z (ln_ hg : w.heap.size ≤ b); replace HB := Z (below_step bl_ hb); have q := Z (nl m.out hg); have k := Z (ng m.out hg); replace m := Z (kb m.out hb); clear hb hbox hg; have au := q.out; have av := k.out; obtain ⟨O, P, Q, R, S, T, ac, ad, ae, af, ag, ah⟩ := cells6 m.out; obtain ⟨U, W, X, Y, aa, ab, ai, aj, ak, al, am, an⟩ := cells6 A.out))
 refine bodyPost_ret (results_cell_row rfl _ _ b 24 #[.int .i64 c, .int .i64 d, .slice g a.length j, .int .i64 l, .bool false, .bool false] (0, 0) _ rfl (by (with_reducible repeat apply pK); refine blk_put (cs := #[.int .i64 c, .int .i64 d, .slice g a.length j, .int .i64 l, .bool false, .bool false]) ?_ 5 _ rfl; (with_reducible repeat apply pK); refine blk_put (cs := #[.int .i64 c, .int .i64 d, .slice g a.length j, .int .i64 l, .bool false, .bool false]) ?_ 4 _ rfl; (with_reducible repeat apply pK); refine blk_put (cs := #[.int .i64 c, .int .i64 d, .slice g a.length j, .int .i64 0, .bool false, .bool false]) ?_ 3 _ rfl; (with_reducible repeat apply pK); refine blk_put (cs := #[.int .i64 c, .int .i64 d, .slice none 0 0, .int .i64 0, .bool false, .bool false]) ?_ 2 _ rfl; (with_reducible repeat apply pK); refine blk_put (cs := #[.int .i64 c, .int .i64 0, .slice none 0 0, .int .i64 0, .bool false, .bool false]) ?_ 1 _ rfl; (with_reducible repeat apply pK); refine blk_put (cs := #[.int .i64 0, .int .i64 0, .slice none 0 0, .int .i64 0, .bool false, .bool false]) ?_ 0 _ rfl; (with_reducible repeat apply pK); refine blk_far ?_ k.out _; (with_reducible repeat apply pK); refine blk_far ?_ k.out _; (with_reducible repeat apply pK); exact A.out) Tryd.underlying24 rfl (by kernel_rfl)) rfl ?_
 exact ⟨_, er_, by (with_reducible repeat apply pV); exact Kd.V_mono (f6V b (Kd.V_far (p := ⟨n, 5, none⟩) (Kd.V_far (p := ⟨n, 4, none⟩) (Kd.V_mono (Kd.V_mono i.out (fun k_ hk => (⟨hk, hk.1.2⟩ : _ ∧ k_ ≠ n))) (fun k_ hk => (⟨hk, hk.1.2⟩ : _ ∧ k_ ≠ b))) (fun _ hk => hk.1.2) (.bool false)) (fun _ hk => hk.1.2) (.bool false)) (fun _ hk => hk.2)) (fun _ hk => hk.1.1.1.1), bl_⟩

/-! ### field_Begin: function 82 -/
section
open Go.Shelf
attribute [local go_sem] Oper.semAt_some

def isF (l : List S44) (i : Int) : Bool := (rd_T44 l i).f0
def findW (p : Int → Bool) (g : Nat → Int) : Nat → Nat → Int
 | 0, _ => -1
 | c + 1, s => if p (g s) = true then g s else findW p g c (s + 1)
theorem findW_eq (p : Int → Bool) (g : Nat → Int) : ∀ c s j, s ≤ j → j < s + c → p (g j) = true → (∀ i, s ≤ i → i < j → p (g i) = false) → findW p g c s = g j
 | 0, s, j, d, f, _, _ => by omega
 | c + 1, s, j, d, f, hp, hn => by
  unfold findW
  by_cases e : s = j
  ·subst e; rw [if_pos hp]
  ·rw [if_neg (by rw [hn s (Nat.le_refl _) (by omega)]; decide)]
   exact findW_eq p g c (s + 1) j (by omega) (by omega) hp (fun i a b => hn i (by omega) b)
theorem findW_none (p : Int → Bool) (g : Nat → Int) : ∀ c s, (∀ i, s ≤ i → i < s + c → p (g i) = false) → findW p g c s = -1
 | 0, s, _ => rfl
 | c + 1, s, hn => by
  unfold findW
  rw [if_neg (by rw [hn s (Nat.le_refl _) (by omega)]; decide)]
  exact findW_none p g c (s + 1) (fun i a b => hn i (by omega) (by omega))
theorem findW_cases (p : Int → Bool) (g : Nat → Int) : ∀ c s, (findW p g c s = -1 ∧ ∀ i, s ≤ i → i < s + c → p (g i) = false) ∨ ∃ j, s ≤ j ∧ j < s + c ∧ p (g j) = true ∧ (∀ i, s ≤ i → i < j → p (g i) = false) ∧ findW p g c s = g j
 | 0, s => .inl ⟨rfl, fun i a b => by omega⟩
 | c + 1, s => by
  unfold findW
  by_cases e : p (g s) = true
  ·exact .inr ⟨s, Nat.le_refl _, by omega, e, fun i a b => by omega, by rw [if_pos e]⟩
  ·rw [if_neg e]
   rcases findW_cases p g c (s + 1) with ⟨d, f⟩ | ⟨j, d, f, h, k, l⟩
   ·exact .inl ⟨d, fun i a b => by
     by_cases ei : i = s
     ·subst ei; simpa using e
     ·exact f i (by omega) (by omega)⟩
   ·exact .inr ⟨j, by omega, by omega, h, fun i a b => by
     by_cases ei : i = s
     ·subst ei; simpa using e
     ·exact k i (by omega) b, l⟩

/-- where the field begins that a cell lies in -/
def beginI (l : List S44) (a : Int) : Int := findW (isF l) (fun j => (a - j) % (l.length : Int)) l.length 0

theorem begin_range (l : List S44) (a : Int) (hp : 0 < l.length) : beginI l a = -1 ∨ (0 ≤ beginI l a ∧ beginI l a < l.length ∧ isF l (beginI l a) = true) := by
 rcases findW_cases (isF l) (fun j => (a - j) % (l.length : Int)) l.length 0 with ⟨h, _⟩ | ⟨j, _, _, b, _, h⟩
 ·exact .inl h
 ·right
  unfold beginI
  rw [h]
  exact ⟨Int.emod_nonneg _ (by omega), Int.emod_lt_of_pos _ (by omega), b⟩

theorem begin_here (l : List S44) (a : Int) (c : 0 ≤ a) (d : a < l.length) (h : isF l a = true) : beginI l a = a := by
 have e : (a - ((0 : Nat) : Int)) % (l.length : Int) = a := by simp; exact Int.emod_eq_of_lt c d
 have := findW_eq (isF l) (fun j => (a - j) % (l.length : Int)) l.length 0 0 (by omega) (by omega) (by show isF l ((a - ((0 : Nat) : Int)) % (l.length : Int)) = true; rw [e]; exact h) (fun i a b => by omega)
 rw [beginI, this]; exact e
theorem way_back (n : Nat) (a : Int) (j : Nat) : wayI n a (-1) j = (a - ((j + 1 : Nat) : Int)) % (n : Int) := by
 unfold wayI sgnI; simp; congr 1; omega
theorem begin_way (l : List S44) (a : Int) (c : 0 ≤ a) (d : a < l.length) (h : isF l a = false) (k : Nat) (hk : k < l.length) (hp : isF l (wayI l.length a (-1) k) = true) (hn : ∀ i, i < k → isF l (wayI l.length a (-1) i) = false) : beginI l a = wayI l.length a (-1) k := by
 have hkn : k + 1 < l.length := by
  rcases Nat.lt_or_ge (k + 1) l.length with h' | h'
  ·exact h'
  ·have ek : k + 1 = l.length := by omega
   have : wayI l.length a (-1) k = a := by
    rw [way_back, ek, Int.sub_emod_right]; exact Int.emod_eq_of_lt c d
   rw [this, h] at hp; exact absurd hp (by decide)
 have := findW_eq (isF l) (fun j => (a - j) % (l.length : Int)) l.length 0 (k + 1) (by omega) (by omega) (by show isF l ((a - ((k + 1 : Nat) : Int)) % (l.length : Int)) = true; rw [← way_back]; exact hp) (fun i _ b => by
  show isF l ((a - (i : Int)) % (l.length : Int)) = false
  rcases i with _ | i
  ·simp; rw [Int.emod_eq_of_lt c d]; exact h
  ·rw [← way_back]; exact hn i (by omega))
 rw [beginI, this]; exact (way_back _ _ _).symm
theorem begin_none (l : List S44) (a : Int) (c : 0 ≤ a) (d : a < l.length) (h : isF l a = false) (hn : ∀ i, i < l.length → isF l (wayI l.length a (-1) i) = false) : beginI l a = -1 := by
 refine findW_none _ _ _ _ (fun i _ b => ?_)
 show isF l ((a - (i : Int)) % (l.length : Int)) = false
 rcases i with _ | i
 ·simp; rw [Int.emod_eq_of_lt c d]; exact h
 ·rw [← way_back]; exact hn i (by omega)

theorem cell_f0 {w : World} {A : Option Addr} {l : List S44} (hr : Kd.C k44 w A l.length l) (i : Int) (a : 0 ≤ i) (b : i < l.length) : ∃ ad, A = some ad ∧ w.cell? (ad.add (i.toNat * 6)) = some (.bool (isF l i)) ∧ (ad.add (i.toNat * 6)).block < w.heap.size := by
 obtain ⟨ad, e, h, _⟩ := at_T44 hr i a b
 exact ⟨ad, e, h, bk_ w _ h⟩

set_option maxRecDepth 100000 in
set_option maxHeartbeats 2000000 in
theorem Begin_here (r c : Int) (A : Option Addr) (cp : Nat) (l : List S44) (cu : Int) (lo ins : Bool) (a : Int) (w : World) (hr : Kd.C k44 w A l.length l) (hc : l.length ≤ cp) (b : 0 ≤ a) (d : a < l.length) (hf : isF l a = true) :
  Calls Tryd.prog 82 #[.agg #[.int .i64 r, .int .i64 c, .slice A l.length cp, .int .i64 cu, .bool lo, .bool ins], .int .i64 a] w fun e w' => e = .returned (.int .i64 (beginI l a)) ∧ Below w.heap.size w w' := by
 have hb := begin_here l a b d hf
 rw [hb]
 obtain ⟨ad, rfl, hcell, hlt⟩ := cell_f0 hr a b d
 rw [hf] at hcell
 clear hf hb
 have f := Tryd.underlying24
 have g := Tryd.underlying44
 go_enter Tryd.func82, Tryd.ntmps82
 go_wp2
 refine bodyPost_ret (v := .int .i64 a) (by simp [results, Tryd.results82, go_sem]) rfl ⟨rfl, ?_⟩
 exact ((Below.refl _ w).alloc (Nat.le_refl _) _).alloc (by simp) _

theorem uptoI_last {α : Type} (f : Nat → α) (k : Nat) (ini : List α) (x : α) (h : uptoI f k = ini ++ [x]) : ∃ j, k = j + 1 ∧ ini = uptoI f j ∧ x = f j := by
 rcases k with _ | j
 ·simp [uptoI] at h
 ·rw [uptoI_succ] at h
  obtain ⟨a, b⟩ := List.append_inj' h rfl
  exact ⟨j, rfl, a.symm, by simpa using b.symm⟩
theorem mem_uptoI {α : Type} (f : Nat → α) (k j : Nat) (h : j < k) : f j ∈ uptoI f k := by
 simp only [uptoI, List.mem_map, List.mem_range]; exact ⟨j, h, rfl⟩

set_option maxRecDepth 100000 in
set_option maxHeartbeats 4000000 in
theorem Begin_loop (r c : Int) (A : Option Addr) (cp : Nat) (l : List S44) (cu : Int) (lo ins : Bool) (a : Int) (w : World) (hr : Kd.C k44 w A l.length l) (hc : l.length ≤ cp) (hn : l.length ≤ 16383) (d : 0 ≤ a) (f : a < l.length) (hf : isF l a = false) :
  CallsIn Fence.wide 5 Tryd.prog 82 #[.agg #[.int .i64 r, .int .i64 c, .slice A l.length cp, .int .i64 cu, .bool lo, .bool ins], .int .i64 a] w fun e w' => e = .returned (.int .i64 (beginI l a)) ∧ Below w.heap.size w w' := by
 have hpos : 0 < l.length := by omega
 obtain ⟨ad, rfl, hcell, hlt⟩ := cell_f0 hr a d f
 have Hfa := Z hf
 rw [hf] at hcell
 clear hf
 have q := Tryd.underlying24
 have t := Tryd.underlying44
 refine callsIn_of_wp_marks Tryd.func82 rfl trivial ?_ rfl
 simp only [Tryd.ntmps82, List.size_toArray, List.length_cons, List.length_nil, Nat.reduceAdd, Nat.reduceSub, Array.replicate_succ, Array.replicate_zero, List.push_toArray, List.append_toArray, List.nil_append, List.cons_append]
 gi_wp2_with (refine ⟨trivial, ?_⟩; gi_at_call 94; refine (callsIn_wide.2 (Round_exact r c _ _ cp cu lo ins a (-1) _)).mono ?_; rintro e w' ⟨rfl, rfl⟩)
 have o : Below w.heap.size w (((((w.alloc (.cells #[.int .i64 r, .int .i64 c, .slice (some ad) l.length cp, .int .i64 cu, .bool lo, .bool ins] 24)).alloc (.cells #[.int .i64 0] 3)).alloc (.cells #[.int .i64 r, .int .i64 c, .slice (some ad) l.length cp, .int .i64 cu, .bool lo, .bool ins] 24)).alloc (.cells #[.int .i64 a] 3)).alloc (.cells #[.int .i64 (-1)] 3)) :=
  (((((Below.refl _ w).alloc (Nat.le_refl _) _).alloc (by simp) _).alloc (by simp; omega) _).alloc (by simp; omega) _).alloc (by simp; omega) _
 have k1 := blk_new w (.cells #[.int .i64 r, .int .i64 c, .slice (some ad) l.length cp, .int .i64 cu, .bool lo, .bool ins] 24)
 have k2 := blk_new (w.alloc (.cells #[.int .i64 r, .int .i64 c, .slice (some ad) l.length cp, .int .i64 cu, .bool lo, .bool ins] 24)) (.cells #[.int .i64 0] 3)
 have k3 := blk_new ((w.alloc (.cells #[.int .i64 r, .int .i64 c, .slice (some ad) l.length cp, .int .i64 cu, .bool lo, .bool ins] 24)).alloc (.cells #[.int .i64 0] 3)) (.cells #[.int .i64 r, .int .i64 c, .slice (some ad) l.length cp, .int .i64 cu, .bool lo, .bool ins] 24)
 have k4 := blk_new (((w.alloc (.cells #[.int .i64 r, .int .i64 c, .slice (some ad) l.length cp, .int .i64 cu, .bool lo, .bool ins] 24)).alloc (.cells #[.int .i64 0] 3)).alloc (.cells #[.int .i64 r, .int .i64 c, .slice (some ad) l.length cp, .int .i64 cu, .bool lo, .bool ins] 24)) (.cells #[.int .i64 a] 3)
 have k5 := blk_new ((((w.alloc (.cells #[.int .i64 r, .int .i64 c, .slice (some ad) l.length cp, .int .i64 cu, .bool lo, .bool ins] 24)).alloc (.cells #[.int .i64 0] 3)).alloc (.cells #[.int .i64 r, .int .i64 c, .slice (some ad) l.length cp, .int .i64 cu, .bool lo, .bool ins] 24)).alloc (.cells #[.int .i64 a] 3)) (.cells #[.int .i64 (-1)] 3)
 simp only [World.size_alloc] at k2 k3 k4 k5
 refine wpIn_rangeFunc_ownG rfl (by omega) (gf := 100) (lb := #[.pointer (some ⟨w.heap.size + 1 + 1, 0, none⟩), .pointer (some ⟨w.heap.size + 1 + 1 + 1, 0, none⟩), .pointer (some ⟨w.heap.size + 1 + 1 + 1 + 1, 0, none⟩)]) rfl trivial (enters_of Tryd.func100 (by kernel_rfl) rfl)
  (round_stops 4 (by omega) (w.heap.size + 1 + 1) (w.heap.size + 1 + 1 + 1) (w.heap.size + 1 + 1 + 1 + 1) r c (some ad) l.length cp cu lo ins a (-1) hpos hn d f _ (blk_alloc (blk_alloc k3 _) _) (blk_alloc k4 _) k5) Keep3.trans (Keep3.put (by simp) (by simp) (by simp)) (Below.refl _ _) (fun _ => rfl)
  (fun pre W => ((∀ x ∈ pre, isF l x.1 = false) ∧ W.heap[w.heap.size]? = some (.cells #[.int .i64 r, .int .i64 c, .slice (some ad) l.length cp, .int .i64 cu, .bool lo, .bool ins] 24 (0, 0)) ∧ Boxed W (w.heap.size + 1) 3 (.int .i64 0)) ∧ Below w.heap.size w W)
  (fun c pre W => (c = .ret ∧ ∃ ini last, pre = ini ++ [last] ∧ (∀ x ∈ ini, isF l x.1 = false) ∧ isF l last.1 = true ∧ Boxed W (w.heap.size + 1) 3 (.int .i64 last.1)) ∧ Below w.heap.size w W)
  (OwnFrom.and (Own.from (fun s A B row hs hg hr => ⟨hs.1, (grownBy_keeps_cells hg hr hs.2.1 rfl).trans hs.2.1, (grownBy_keeps_cells hg hr hs.2.2 rfl).trans hs.2.2⟩) _) (ownFrom_below (Nat.le_refl _) (by simp; omega)))
  (fun c => OwnFrom.and (Own.from (fun s A B row hs hg hr => by obtain ⟨hc, ini, last, g, h, m, n⟩ := hs; exact ⟨hc, ini, last, g, h, m, (grownBy_keeps_cells hg hr n rfl).trans n⟩) _) (ownFrom_below (Nat.le_refl _) (by simp; omega)))
  ⟨⟨by simp, blk_alloc (blk_alloc (blk_alloc (blk_alloc k1 _) _) _) _, blk_alloc (blk_alloc (blk_alloc k2 _) _) _⟩, o⟩
  (fun x => { tmps := #[.agg #[.int .i64 r, .int .i64 c, .slice (some ad) l.length cp, .int .i64 cu, .bool lo, .bool ins], .int .i64 a, .pointer (some ⟨w.heap.size, 0, none⟩), undef, .pointer (some ⟨w.heap.size + 1, 0, none⟩), .int .i64 x.1, .pointer (some ⟨w.heap.size, 2, none⟩), .slice (some ad) l.length cp, .int .i64 a, .pointer (some (ad.add (a.toNat * 6))), .pointer (some (ad.add (a.toNat * 6))), .bool false, undef, .agg #[.int .i64 r, .int .i64 c, .slice (some ad) l.length cp, .int .i64 cu, .bool lo, .bool ins], .int .i64 a, .func (.func 100) #[] #[.pointer (some ⟨w.heap.size + 1 + 1, 0, none⟩), .pointer (some ⟨w.heap.size + 1 + 1 + 1, 0, none⟩), .pointer (some ⟨w.heap.size + 1 + 1 + 1 + 1, 0, none⟩)], .int .i64 x.1, undef, undef, undef, undef, undef, undef, undef], defers := [] }) ?assign ?body ?done ?stop
 case assign =>
  intro l x W K hK
  gi_wp2
  exact hK
 case body =>
  rintro lp pre x W ⟨⟨hp, hS, hR⟩, hB⟩ _
  obtain ⟨ad', e', hcx, hltx⟩ := cell_f0 hr x.1 x.2.1 x.2.2
  cases e'
  have hcW := (hB.cell hltx).trans hcx
  have u := (blk_cell hS 2).trans rfl
  have v := x.2.1
  have z := x.2.2
  have rC := hR.cell
  have rF := hR.frozen
  cases hfx : isF l x.1 with
  | true =>
   rw [hfx] at hcW
   gi_wp2
   exact ⟨(KeepsOthers.setCell _ _ _).from _, ⟨rfl, pre, x, rfl, hp, hfx, hR.set _⟩, hB.setCell (p := ⟨w.heap.size + 1, 0, none⟩) (Nat.le_succ _) _⟩
  | false =>
   rw [hfx] at hcW
   gi_wp2
   exact ⟨KeepsFrom.refl _ _, Keep3.refl _ _ _ _, ⟨fun y hy => (List.mem_append.1 hy).elim (hp y) (fun e => by simp at e; subst e; exact hfx), hS, hR⟩, hB⟩
 case done =>
  rintro D ys W hD rfl ⟨⟨hne, hS, hR⟩, hB⟩ hK
  have rC := hR.cell
  have rF := hR.frozen
  gi_wp2
  have hK' := (KeepsOthers.setCell W ⟨w.heap.size + 1, 0, none⟩ (.int .i64 (-1))).same D _ hK rfl
  refine ⟨by simp, .inl ⟨_, _, rfl, run_takeDeferred hK', ?_⟩⟩
  have b := cell_kept (hR.set (.int .i64 (-1))).cell (grownBy_putObj' _ D (.deferred none)) (fun r e => by cases e; exact ⟨_, hK', rfl⟩)
  have hE := begin_none l a d f Hfa.out (fun i hi => hne _ (mem_uptoI (wayS hpos a (-1)) l.length i hi))
  refine ⟨.int .i64 (-1), ?_, by rw [hE], (hB.setCell (p := ⟨w.heap.size + 1, 0, none⟩) (Nat.le_succ _) _).trans (belowK_b (w := w) (Nat.le_refl _) _ D _ _ (by simp at hD; omega) hK' rfl rfl)⟩
  simp [results, Tryd.results82, go_sem, b]
 case stop =>
  rintro D c pre W hD ⟨k, hk, rfl⟩ ⟨⟨rfl, ini, last, g, h, m, hR⟩, hB⟩ hK
  gi_wp2
  refine ⟨by simp, .inl ⟨_, _, rfl, run_takeDeferred hK, ?_⟩⟩
  have b := cell_kept hR.cell (grownBy_putObj' _ D (.deferred none)) (fun r e => by cases e; exact ⟨_, hK, rfl⟩)
  obtain ⟨j, rfl, rfl, rfl⟩ := uptoI_last _ _ _ _ g
  have hE := begin_way l a d f Hfa.out j (by omega) m (fun i hi => h _ (mem_uptoI (wayS hpos a (-1)) j i hi))
  refine ⟨.int .i64 (wayI l.length a (-1) j), ?_, by rw [hE], hB.trans (belowK_b (w := w) (Nat.le_refl _) _ D _ _ (by simp at hD; omega) hK rfl rfl)⟩
  simp [results, Tryd.results82, go_sem, b]
  rfl

theorem guard3 {α : Type} {p q s : Prop} [Decidable p] [Decidable q] [Decidable s] {x r : α} (h : (if p then (if q then (if s then some x else none) else none) else none) = some r) : p ∧ q ∧ s ∧ x = r := by
 by_cases hp : p
 ·rw [if_pos hp] at h
  by_cases hq : q
  ·rw [if_pos hq] at h
   by_cases hs : s
   ·rw [if_pos hs] at h; exact ⟨hp, hq, hs, Option.some.inj h⟩
   ·rw [if_neg hs] at h; cases h
  ·rw [if_neg hq] at h; cases h
 ·rw [if_neg hp] at h; cases h

def field_Begin.f (b : Int) (c : Int) (a : List (S44)) (d : Int) (e : Bool) (g : Bool) (a1 : Int) : Option Int := if a.length ≤ 16383 then (if 0 ≤ a1 then (if a1 < (a.length : Int) then (some (beginI a a1)) else (none)) else (none)) else (none)
theorem field_Begin.calls (c : Int) (d : Int) (b : Option Addr) (k : Nat) (a : List (S44)) (g : Int) (i : Bool) (j : Bool) (a1 : Int) (r : Int) (w : World) (m : Kd.C k44 w b a.length a) (l : a.length ≤ k) (h : field_Begin.f c d a g i j a1 = some r) :
  Calls Tryd.prog 82 #[.agg #[.int .i64 c, .int .i64 d, .slice b a.length k, .int .i64 g, .bool i, .bool j], .int .i64 a1] w fun e w' => e = .returned (.int .i64 r) ∧ Below w.heap.size w w' := by
 obtain ⟨hn, n, o, rfl⟩ := guard3 h
 cases hf : isF a a1 with
 | true => exact Begin_here c d b k a g i j a1 w m l n o hf
 | false => exact callsIn_wide.1 (Begin_loop c d b k a g i j a1 w m l hn n o hf)
end

/-! ### field_Of: function 79 -/
def field_Of.f (c : Int) (d : Int) (b : List (S44)) (e : Int) (g : Bool) (h : Bool) (a1 : Int) : Option (Bool × Bool × Int × Bool) := (field_Begin.f c d b e g h a1).bind fun a => (if a < 0 then (some (false, false, 0, false)) else (if 0 ≤ a then (if a < (b.length : Int) then (some ((rd_T44 b a).f1.f0, (rd_T44 b a).f1.f1, (rd_T44 b a).f1.f2, (rd_T44 b a).f1.f3)) else (none)) else (none)))
set_option maxHeartbeats 8000000 in
set_option maxRecDepth 100000 in
theorem field_Of.calls (k : Int) (l : Int) (v : Option Addr) (x : Nat) (b : List (S44)) (m : Int) (n : Bool) (o : Bool) (a1 : Int) (W : Bool) (X : Bool) (Y : Int) (r4 : Bool) (w : World) (R : Kd.C k44 w v b.length b) (Q : b.length ≤ x) (h : field_Of.f k l b m n o a1 = some (W, X, Y, r4)) :
  Calls Tryd.prog 79 #[.agg #[.int .i64 k, .int .i64 l, .slice v b.length x, .int .i64 m, .bool n, .bool o], .int .i64 a1] w fun e w' => e = .returned (.agg #[.bool W, .bool X, .int .i64 Y, .bool r4]) ∧ Below w.heap.size w w' := by
 have bg := Tryd.underlying24
 have bh := Tryd.underlying28
 have F := Z R
 have M := Z Q
 clear R Q
 have HB := Z (Below.refl w.heap.size w)
 have H : ((field_Begin.f k l b m n o a1).bind fun a => (if a < 0 then (some (false, false, 0, false)) else (if 0 ≤ a then (if a < (b.length : Int) then (some ((rd_T44 b a).f1.f0, (rd_T44 b a).f1.f1, (rd_T44 b a).f1.f2, (rd_T44 b a).f1.f3)) else (none)) else (none)))) = some (W, X, Y, r4) := h
 clear h
 replace H := Option.bind_eq_some_iff.mp H
 obtain ⟨a, ab, H⟩ := H
 replace H : (if a < 0 then (some (false, false, 0, false)) else (if 0 ≤ a then (if a < (b.length : Int) then (some ((rd_T44 b a).f1.f0, (rd_T44 b a).f1.f1, (rd_T44 b a).f1.f2, (rd_T44 b a).f1.f3)) else (none)) else (none))) = some (W, X, Y, r4) := H
 have A3 := Z ab
 clear ab
 by_cases c4 : a < 0
 ·rw [if_pos c4] at H
  have ac : decide (a < 0) = true := decide_eq_true c4
  clear c4
  simp only [Option.some.injEq, Prod.mk.injEq] at H
  obtain ⟨rfl, rfl, rfl, rfl⟩ := H
  go_enter Tryd.func79, Tryd.ntmps79
  go_wp2_with (first | ((with_reducible refine gate_dst (N := 2) rfl ?_); refine bx_ 2 24 #[.int .i64 k, .int .i64 l, .slice v b.length x, .int .i64 m, .bool n, .bool o] ?_; intro u hg w5 hbox hb; have c := Z (hbox); have U := Z (ln_ hg : w.heap.size ≤ u); have S := Z (ln_ hg : w.heap.size ≤ u); replace HB := Z (below_step bl_ hb); clear hb hbox hg) | ((with_reducible refine gate_dst (N := 4) rfl ?_); refine bx_ 4 28 #[.bool false, .bool false, .int .i64 0, .bool false] ?_; intro p hg w6 hbox hb; have d := Z (hbox); have V := Z (ln_ hg : w.heap.size ≤ p); have T := Z (ln_ hg : w.heap.size ≤ p); replace HB := Z (below_step bl_ hb); have q := Z (nl c.out hg); have r := Z (ng c.out hg); replace c := Z (kb c.out hb); clear hb hbox hg; have be := q.out; have bf := r.out; obtain ⟨aW, aX, aY, aZ, a0, a2, a3, a4, a5, a6, a7, a8⟩ := cells6 c.out) | ((with_reducible refine gate_callee (f := 82) rfl ?_); refine goesL_ (some 8) rfl rfl Tryd.func82 (by kernel_rfl) rfl #[.agg #[.int .i64 k, .int .i64 l, .slice v b.length x, .int .i64 m, .bool n, .bool o], .int .i64 a1] rfl ag_ ?_; (with_reducible refine (field_Begin.calls k l _ _ b m n o a1 a _ ?side1 ?side2 A3.out).mono ?_); (case side1 => repeat (first | exact (Kd.C_below F.out HB.out) | (with_reducible apply pC))); (case side2 => exact M.out); rintro e w9 ⟨rfl, hb⟩; refine ⟨_, rfl, ?_⟩; replace c := Z (kb c.out hb); replace d := Z (kb d.out hb); replace HB := Z (below_step bl_ hb); (try clear hb); (try clear aV); (try clear hk); (try clear hi); obtain ⟨ae, af, ag, ah, aA, aB, aC, aD⟩ := cells4 d.out))
  refine bodyPost_ret (results_cell_row rfl _ _ p 28 #[.bool false, .bool false, .int .i64 0, .bool false] (0, 0) _ rfl (by (with_reducible repeat apply pK); refine blk_put (cs := #[.bool false, .bool false, .int .i64 0, .bool false]) ?_ 3 _ rfl; (with_reducible repeat apply pK); refine blk_put (cs := #[.bool false, .bool false, .int .i64 0, .bool false]) ?_ 2 _ rfl; (with_reducible repeat apply pK); refine blk_put (cs := #[.bool false, .bool false, .int .i64 0, .bool false]) ?_ 1 _ rfl; (with_reducible repeat apply pK); refine blk_put (cs := #[.bool false, .bool false, .int .i64 0, .bool false]) ?_ 0 _ rfl; (with_reducible repeat apply pK); exact d.out) Tryd.underlying28 rfl (by kernel_rfl)) rfl ?_
  exact ⟨er_, bl_⟩
 ·rw [if_neg c4] at H
  have ac : decide (a < 0) = false := decide_eq_false c4
  clear c4
  by_cases O : 0 ≤ a
  ·rw [if_pos O] at H
   have ba : decide (0 ≤ a) = true := decide_eq_true O
   clear O
   by_cases P : a < (b.length : Int)
   ·rw [if_pos P] at H
    have bb : decide (a < (b.length : Int)) = true := decide_eq_true P
    clear P
    simp only [Option.some.injEq, Prod.mk.injEq] at H
    obtain ⟨rfl, rfl, rfl, rfl⟩ := H
    go_enter Tryd.func79, Tryd.ntmps79
    go_wp2_with (first | ((with_reducible refine gate_dst (N := 2) rfl ?_); refine bx_ 2 24 #[.int .i64 k, .int .i64 l, .slice v b.length x, .int .i64 m, .bool n, .bool o] ?_; intro u hg bi hbox hb; have c := Z (hbox); have U := Z (ln_ hg : w.heap.size ≤ u); have S := Z (ln_ hg : w.heap.size ≤ u); replace HB := Z (below_step bl_ hb); clear hb hbox hg) | ((with_reducible refine gate_dst (N := 4) rfl ?_); refine bx_ 4 28 #[.bool false, .bool false, .int .i64 0, .bool false] ?_; intro p hg bj hbox hb; have d := Z (hbox); have V := Z (ln_ hg : w.heap.size ≤ p); have T := Z (ln_ hg : w.heap.size ≤ p); replace HB := Z (below_step bl_ hb); have q := Z (nl c.out hg); have r := Z (ng c.out hg); replace c := Z (kb c.out hb); clear hb hbox hg; have bc := q.out; have bd := r.out; obtain ⟨ai, aj, ak, al, am, an, aE, aF, aG, aH, aI, aJ⟩ := cells6 c.out) | ((with_reducible refine gate_callee (f := 82) rfl ?_); refine goesL_ (some 8) rfl rfl Tryd.func82 (by kernel_rfl) rfl #[.agg #[.int .i64 k, .int .i64 l, .slice v b.length x, .int .i64 m, .bool n, .bool o], .int .i64 a1] rfl ag_ ?_; (with_reducible refine (field_Begin.calls k l _ _ b m n o a1 a _ ?side1 ?side2 A3.out).mono ?_); (case side1 => repeat (first | exact (Kd.C_below F.out HB.out) | (with_reducible apply pC))); (case side2 => exact M.out); rintro e bk ⟨rfl, hb⟩; refine ⟨_, rfl, ?_⟩; replace c := Z (kb c.out hb); replace d := Z (kb d.out hb); replace HB := Z (below_step bl_ hb); (try clear hb); (try clear aV); (try clear hk); (try clear hi); obtain ⟨ao, ap, aq, ar, au, av, aK, aL, aM, aN, aO, aP⟩ := cells6 c.out; have K : 0 ≤ (a : Int) := od_; have L : a < (b.length : Int) := od_; obtain ⟨a9, ad, y, z, A, B, D, E⟩ := at_T44 F.out a K L; cases ad; replace y := (HB.out.cell (bk_ w _ y)).trans y; replace z := (HB.out.cell (bk_ w _ z)).trans z; replace A := (HB.out.cell (bk_ w _ A)).trans A; replace B := (HB.out.cell (bk_ w _ B)).trans B; replace D := (HB.out.cell (bk_ w _ D)).trans D; replace E := (HB.out.cell (bk_ w _ E)).trans E; replace K := eq_true K; replace L := eq_true L; obtain ⟨aw, ax, ay, az, aQ, aR, aS, aT⟩ := cells4 d.out))
    refine bodyPost_ret (results_cell_row rfl _ _ p 28 #[.bool ((rd_T44 b a).f1.f0), .bool ((rd_T44 b a).f1.f1), .int .i64 ((rd_T44 b a).f1.f2), .bool ((rd_T44 b a).f1.f3)] (0, 0) _ rfl (by (with_reducible repeat apply pK); refine blk_put (cs := #[.bool ((rd_T44 b a).f1.f0), .bool ((rd_T44 b a).f1.f1), .int .i64 ((rd_T44 b a).f1.f2), .bool false]) ?_ 3 _ rfl; (with_reducible repeat apply pK); refine blk_put (cs := #[.bool ((rd_T44 b a).f1.f0), .bool ((rd_T44 b a).f1.f1), .int .i64 0, .bool false]) ?_ 2 _ rfl; (with_reducible repeat apply pK); refine blk_put (cs := #[.bool ((rd_T44 b a).f1.f0), .bool false, .int .i64 0, .bool false]) ?_ 1 _ rfl; (with_reducible repeat apply pK); refine blk_put (cs := #[.bool false, .bool false, .int .i64 0, .bool false]) ?_ 0 _ rfl; (with_reducible repeat apply pK); exact d.out) Tryd.underlying28 rfl (by kernel_rfl)) rfl ?_
    exact ⟨er_, bl_⟩
   ·rw [if_neg P] at H
    exact absurd H (by simp)
  ·rw [if_neg O] at H
   exact absurd H (by simp)

/-! ### field_Open: function 55 -/
def field_Open.f (c : Int) (d : Int) (a : List (S44)) (e : Int) (g : Bool) (h : Bool) (a1 : Int) : Option (Bool) := if 0 ≤ a1 then (if a1 < (a.length : Int) then (if ((rd_T44 a a1).f0 = true) then (some false) else ((field_Of.f c d a e g h a1).bind fun b => (some (!b.1)))) else (none)) else (none)
set_option maxHeartbeats 8000000 in
set_option maxRecDepth 100000 in
theorem field_Open.calls (l : Int) (m : Int) (A : Option Addr) (D : Nat) (a : List (S44)) (n : Int) (o : Bool) (p : Bool) (a1 : Int) (r : Bool) (w : World) (K : Kd.C k44 w A a.length a) (J : a.length ≤ D) (h : field_Open.f l m a n o p a1 = some r) :
  Calls Tryd.prog 55 #[.agg #[.int .i64 l, .int .i64 m, .slice A a.length D, .int .i64 n, .bool o, .bool p], .int .i64 a1] w fun e w' => e = .returned (.bool r) ∧ Below w.heap.size w w' := by
 have aA := Tryd.underlying24
 have aB := Tryd.underlying28
 have B := Z K
 have P := Z J
 clear K J
 have HB := Z (Below.refl w.heap.size w)
 have H : (if 0 ≤ a1 then (if a1 < (a.length : Int) then (if ((rd_T44 a a1).f0 = true) then (some false) else ((field_Of.f l m a n o p a1).bind fun v => (some (!v.1)))) else (none)) else (none)) = some r := h
 clear h
 by_cases c3 : 0 ≤ a1
 ·rw [if_pos c3] at H
  have ay : decide (0 ≤ a1) = true := decide_eq_true c3
  clear c3
  by_cases c4 : a1 < (a.length : Int)
  ·rw [if_pos c4] at H
   have az : decide (a1 < (a.length : Int)) = true := decide_eq_true c4
   clear c4
   obtain ⟨S, I⟩ : ∃ b_ : Bool, b_ = ((rd_T44 a a1).f0) := ⟨_, rfl⟩
   replace H : (if (S = true) then (some false) else ((field_Of.f l m a n o p a1).bind fun v => (some (!v.1)))) = some r := by rw [← I] at H; exact H
   have k := Z I
   clear I
   by_cases c6 : (S = true)
   ·subst c6
    have H1 : (some false) = some r := by rw [if_pos rfl] at H; exact H
    clear H
    have H := H1
    clear H1
    obtain rfl := Option.some.inj H
    go_enter Tryd.func55, Tryd.ntmps55
    go_wp2_with (first | ((with_reducible refine gate_dst (N := 2) rfl ?_); refine bx_ 2 24 #[.int .i64 l, .int .i64 m, .slice A a.length D, .int .i64 n, .bool o, .bool p] ?_; intro x hg w7 hbox hb; have q := Z (hbox); have O := Z (ln_ hg : w.heap.size ≤ x); have M := Z (ln_ hg : w.heap.size ≤ x); replace HB := Z (below_step bl_ hb); clear hb hbox hg; obtain ⟨aj, ak, al, am, an, ao, ap, aq, ar, au, av, aw⟩ := cells6 q.out; have s : 0 ≤ (a1 : Int) := od_; have u : a1 < (a.length : Int) := od_; obtain ⟨Q, G, b, c, d, i, g, j⟩ := at_T44 B.out a1 s u; (try rw [← k.out] at b); (try rw [← k.out] at c); (try rw [← k.out] at d); (try rw [← k.out] at g); cases G; replace b := (HB.out.cell (bk_ w _ b)).trans b; replace c := (HB.out.cell (bk_ w _ c)).trans c; replace d := (HB.out.cell (bk_ w _ d)).trans d; replace i := (HB.out.cell (bk_ w _ i)).trans i; replace g := (HB.out.cell (bk_ w _ g)).trans g; replace j := (HB.out.cell (bk_ w _ j)).trans j; replace s := eq_true s; replace u := eq_true u))
    go_ret
    exact ⟨er_, bl_⟩
   ·replace c6 := Bool.eq_false_iff.mpr c6
    subst c6
    have H1 : ((field_Of.f l m a n o p a1).bind fun v => (some (!v.1))) = some r := by rw [if_neg (show ¬ (false = true) by decide)] at H; exact H
    clear H
    have H := H1
    clear H1
    replace H := Option.bind_eq_some_iff.mp H
    obtain ⟨⟨L, T, U, V⟩, R, H⟩ := H
    replace H : (some (!L)) = some r := H
    have A9 := Z R
    clear R
    obtain rfl := Option.some.inj H
    go_enter Tryd.func55, Tryd.ntmps55
    go_wp2_with (first | ((with_reducible refine gate_dst (N := 2) rfl ?_); refine bx_ 2 24 #[.int .i64 l, .int .i64 m, .slice A a.length D, .int .i64 n, .bool o, .bool p] ?_; intro x hg aD hbox hb; have q := Z (hbox); have O := Z (ln_ hg : w.heap.size ≤ x); have M := Z (ln_ hg : w.heap.size ≤ x); replace HB := Z (below_step bl_ hb); clear hb hbox hg; obtain ⟨W, X, Y, aa, ab, ac, ad, ae, af, ag, ah, ai⟩ := cells6 q.out; have s : 0 ≤ (a1 : Int) := od_; have u : a1 < (a.length : Int) := od_; obtain ⟨Q, G, b, c, d, i, g, j⟩ := at_T44 B.out a1 s u; (try rw [← k.out] at b); (try rw [← k.out] at c); (try rw [← k.out] at d); (try rw [← k.out] at g); cases G; replace b := (HB.out.cell (bk_ w _ b)).trans b; replace c := (HB.out.cell (bk_ w _ c)).trans c; replace d := (HB.out.cell (bk_ w _ d)).trans d; replace i := (HB.out.cell (bk_ w _ i)).trans i; replace g := (HB.out.cell (bk_ w _ g)).trans g; replace j := (HB.out.cell (bk_ w _ j)).trans j; replace s := eq_true s; replace u := eq_true u) | (go_at_call 79; (with_reducible refine (field_Of.calls l m _ _ a n o p a1 L T U V _ ?side1 ?side2 A9.out).mono ?_); (case side1 => repeat (first | exact (Kd.C_below B.out HB.out) | (with_reducible apply pC))); (case side2 => exact P.out); rintro e aE ⟨rfl, hb⟩; replace q := Z (kb q.out hb); replace HB := Z (below_step bl_ hb); (try clear hb); (try clear aC); (try clear hk); (try clear hi)))
    go_ret
    exact ⟨er_, bl_⟩
  ·rw [if_neg c4] at H
   exact absurd H (by simp)
 ·rw [if_neg c3] at H
  exact absurd H (by simp)

/-! ### grid_On: function 87 -/
def grid_On.f (b : Int) (c : Int) (a : List (S44)) (d : Int) (e : Bool) (g : Bool) (a1 : Int) (h : Int) : Option (Int) := if (a.length : Int) = 0 then (none) else (some (Int.tmod (wrap64 ((wrap64 (a1 + (Int.tmod h (a.length : Int)))) + (a.length : Int))) (a.length : Int)))
set_option maxHeartbeats 8000000 in
set_option maxRecDepth 100000 in
theorem grid_On.calls (c : Int) (d : Int) (b : Option Addr) (k : Nat) (a : List (S44)) (g : Int) (i : Bool) (j : Bool) (a1 : Int) (v : Int) (r : Int) (w : World) (n : Kd.C k44 w b a.length a) (m : a.length ≤ k) (h : grid_On.f c d a g i j a1 v = some r) :
  Calls Tryd.prog 87 #[.agg #[.int .i64 c, .int .i64 d, .slice b a.length k, .int .i64 g, .bool i, .bool j], .int .i64 a1, .int .i64 v] w fun e w' => e = .returned (.int .i64 r) ∧ Below w.heap.size w w' := by
 have T := Tryd.underlying24
 have P := Z n
 have O := Z m
 clear n m
 have HB := Z (Below.refl w.heap.size w)
 have H : (if (a.length : Int) = 0 then (none) else (some (Int.tmod (wrap64 ((wrap64 (a1 + (Int.tmod v (a.length : Int)))) + (a.length : Int))) (a.length : Int)))) = some r := h
 clear h
 by_cases c4 : (a.length : Int) = 0
 ·rw [if_pos c4] at H
  exact absurd H (by simp)
 ·rw [if_neg c4] at H
  have Q : ((a.length : Int) == 0) = false := beq_eq_false_iff_ne.mpr c4
  have R : ((a.length : Int) != 0) = true := bne_iff_ne.mpr c4
  have S : ¬ (a = []) := fun h_ => c4 (by rw [h_]; rfl)
  obtain rfl := Option.some.inj H
  go_enter Tryd.func87, Tryd.ntmps87
  go_wp2_with (first | ((with_reducible refine gate_dst (N := 3) rfl ?_); refine bx_ 3 24 #[.int .i64 c, .int .i64 d, .slice b a.length k, .int .i64 g, .bool i, .bool j] ?_; intro l hg w5 hbox hb; have o := Z (hbox); have M := Z (ln_ hg : w.heap.size ≤ l); have L := Z (ln_ hg : w.heap.size ≤ l); replace HB := Z (below_step bl_ hb); clear hb hbox hg; obtain ⟨x, y, z, A, B, D, E, F, G, I, J, K⟩ := cells6 o.out))
  go_ret
  exact ⟨er_, bl_⟩

end Go.Proofs.YtgboplhcjhlabaaDoor.P
