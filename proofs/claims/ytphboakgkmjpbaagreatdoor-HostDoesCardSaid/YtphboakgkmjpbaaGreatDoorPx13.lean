/- pp.py and press2.py (wip/tools) wrote this text. -/
import Derived.Test.YtphboakgkmjpbaaGreatDoorJHostDoes1
import Derived.Test.YtphboakgkmjpbaaGreatDoorPx4
import Derived.Test.YtphboakgkmjpbaaGreatDoorPx5
import Derived.Test.YtphboakgkmjpbaaGreatDoorPx8
import Derived.Test.YtphboakgkmjpbaaGreatDoorPx12
namespace Go.Proofs.YtphboakgkmjpbaaGreatDoor.P
open Go.RowKit Go.Proofs.YtphboakgkmjpbaaGreatDoorW.PrintWords Go.Proofs.YtphboakgkmjpbaaGreatDoorW.PrintLast Go.Proofs.YtphboakgkmjpbaaGreatDoorW.PrintMore
attribute [local go_sem] max2_int min2_int max_two min_two max_three min_three max_four min_four
attribute [local go_sem] Instr.field asAgg
set_option linter.unusedVariables false
set_option linter.unusedSimpArgs false
set_option maxHeartbeats 8000000
set_option maxRecDepth 100000

attribute [local go_sem high] eqA26
/-! ### attr_PutWcc: function 37 -/
def attr_PutWcc.f (k : Nat) (e g h : Bool) : Option (Int) := (attr_bit.f e 4).bind fun a => ((attr_bit.f g 2).bind fun b => ((attr_bit.f h 1).bind fun c => ((attr_sum.f k (([(⟨a.1, a.2⟩ : S106), (⟨b.1, b.2⟩ : S106), (⟨c.1, c.2⟩ : S106)] : List (S106)))).bind fun i => ((six_Put.f i).bind fun d => (some d.1)))))
theorem attr_PutWcc.mono : ∀ a0 a1 a k, LeO (attr_PutWcc.f k a0 a1 a) (attr_PutWcc.f (k + 1) a0 a1 a) := by
 intro a0 a1 a k
 unfold attr_PutWcc.f
 repeat' first
   | (with_reducible exact attr_sum.mono _ _)
   | (with_reducible exact LeO.refl _)
   | (with_reducible exact LeO.none _)
   | (with_reducible refine LeO.ite ?_ ?_)
   | (with_reducible refine LeO.bind ?_ (fun _ => ?_))
   | exact attr_sum.mono _ _
   | exact LeO.none _
   | refine LeO.ite ?_ ?_
   | refine LeO.bind ?_ (fun _ => ?_)
def attr_PutWcc.T1 : Bool × List (List Nat × List Nat) := (true, [([], []), ([0], [0]), ([1], [1]), ([], []), ([3], [3]), ([4, 2], [4]), ([], []), ([6], [6]), ([7, 5], [7]), ([2, 5, 8], [2, 5, 8]), ([9, 8], [9]), ([10, 10], [10]), ([11], [11]), ([12], [12]), ([12], [12]), ([13, 11, 0, 1, 2, 3, 4, 5, 6, 7, 8, 9, 10, 11, 12, 13], [13]), ([14, 15, 0, 1, 2, 3, 4, 5, 6, 7, 8, 9, 10, 11, 12, 13, 14, 15], [14])])
def attr_PutWcc.B1 : List Nat := [0, 1, 3, 0, 8, 31, 0, 64, 255, 511, 1023, 2047, 4095, 8191, 8191, 16383, 65535]
theorem attr_PutWcc.tab1 : rtab .any (opsOf Tryz.f37 1) = attr_PutWcc.T1 := by kernel_rfl
theorem attr_PutWcc.bits1 : waitsOk attr_PutWcc.T1.2 attr_PutWcc.B1 = true := by kernel_rfl
theorem attr_PutWcc.calls (k : Nat) (A u p : Bool) (r : Int) (w : World) (h : attr_PutWcc.f k A u p = some r) :
  Calls Tryz.prog 37 #[.agg #[.bool A, .bool u, .bool p]] w fun e w' => e = .returned (.int .u8 r) ∧ Below w.heap.size w w' := by
 have ax := Tryz.underlying26
 have HB := Z (Below.refl w.heap.size w)
 unfold attr_PutWcc.f at h
 have H := h
 clear h
 replace H := bn_ H
 obtain ⟨⟨q, s⟩, A2, H⟩ := H
 try dsimp only at H
 replace H := bn_ H
 obtain ⟨⟨y, z⟩, A3, H⟩ := H
 try dsimp only at H
 replace H := bn_ H
 obtain ⟨⟨C, D⟩, A4, H⟩ := H
 try dsimp only at H
 obtain ⟨I, F⟩ : ∃ y_ : List (S106), y_ = (([(⟨q, s⟩ : S106), (⟨y, z⟩ : S106), (⟨C, D⟩ : S106)] : List (S106))) := ⟨_, rfl⟩
 rw [← F] at H
 try replace H := sb_ H
 have L := Z F
 clear F
 replace H := bn_ H
 obtain ⟨j, A5, H⟩ := H
 replace H := bn_ H
 obtain ⟨⟨V, af, ag⟩, A6, H⟩ := H
 try dsimp only at H
 obtain rfl := Option.some.inj H
 go_enter Tryz.func37, Tryz.ntmps37
 try go_wp2_with (first | ((with_reducible refine gD_ 1 rfl ?_); refine bx_ 1 26 #[.bool A, .bool u, .bool p] ?_; intro x hg w7 hbox hb; have a := Z hbox; have ao := ln' w hg; replace HB := bs_ hb; clear hb hbox hg))
 replace a := Z (blk_drew a.out)
 replace HB := Z (below_drew1 HB.out)
 refine start_ (n := 17) (S := fun w' => w'.cell? ⟨x, 0, none⟩ = some (.bool A) ∧ w'.cell? ⟨x, 1, none⟩ = some (.bool u) ∧ w'.cell? ⟨x, 2, none⟩ = some (.bool p)) (ds := []) (bv 17 0) (by kernel_rfl) rfl rfl hd_ (fun hHeld => ?_); refine with_tabW attr_PutWcc.tab1 attr_PutWcc.bits1 (fun HT_ HW_ => ?_)
 generalize w7.drew = w8 at a HB hHeld ⊢
 refine pT_ HT_ 0 17 1 (some 6) ?_
 refine pT_ HT_ 3 17 9 (some 9) ?_
 refine pT_ HT_ 6 17 73 (some 12) ?_
 refine tT_ HT_ HW_ hHeld 1 17 75 (some 7) ?_
 refine tT_ HT_ HW_ hHeld 4 17 91 (some 10) ?_
 refine tT_ HT_ HW_ hHeld 7 17 219 (some 13) ?_
 refine oT_ HT_ 2 17 223 (some 8) (fun K hK => ?_)
 refine goes_ Tryz.func60 (by kernel_rfl) rfl #[.bool A, .int .i64 4] (by rfl) rfl rfl ag_ ?_
 with_reducible refine (attr_bit.calls A 4 q s _ A2.out).mono ?_
 rintro e w9 ⟨rfl, hb⟩
 refine ⟨_, rfl, ?_⟩
 replace a := kb' a hb
 replace HB := bs_ hb
 (try clear hb)
 (try clear P)
 (try clear hk)
 (try clear hi)
 refine hK.out _ _ hd_ (fun hHeld => ?_)
 clear hK K
 refine nA_ (some 8) ?_
 refine oT_ HT_ 5 17 255 (some 11) (fun K hK => ?_)
 refine goes_ Tryz.func60 (by kernel_rfl) rfl #[.bool u, .int .i64 2] (by rfl) rfl rfl ag_ ?_
 with_reducible refine (attr_bit.calls u 2 y z _ A3.out).mono ?_
 rintro e aA ⟨rfl, hb⟩
 refine ⟨_, rfl, ?_⟩
 replace a := kb' a hb
 replace HB := bs_ hb
 (try clear hb)
 (try clear P)
 (try clear hk)
 (try clear hi)
 refine hK.out _ _ hd_ (fun hHeld => ?_)
 clear hK K
 refine nA_ (some 11) ?_
 refine oT_ HT_ 8 17 511 (some 14) (fun K hK => ?_)
 refine goes_ Tryz.func60 (by kernel_rfl) rfl #[.bool p, .int .i64 1] (by rfl) rfl rfl ag_ ?_
 with_reducible refine (attr_bit.calls p 1 C D _ A4.out).mono ?_
 rintro e aB ⟨rfl, hb⟩
 refine ⟨_, rfl, ?_⟩
 replace a := kb' a hb
 replace HB := bs_ hb
 (try clear hb)
 (try clear P)
 (try clear hk)
 (try clear hi)
 refine hK.out _ _ hd_ (fun hHeld => ?_)
 clear hK K
 refine nA_ (some 14) ?_
 refine oT_ HT_ 9 17 1023 (some 15) (fun K hK => ?_)
 refine Kd.R_lit_step k106 _ 106 ?hg (N := 15) ?hd (xs := ([(⟨q, s⟩ : S106), (⟨y, z⟩ : S106), (⟨C, D⟩ : S106)] : List (S106))) (inner := [.bool q, .int .i64 s, .bool y, .int .i64 z, .bool C, .int .i64 D]) (ok := fun _ => True) (okp := fun _ => True) ?hr ?hp (fun _ hk => hk) trivial (Below.refl _ _) (Nat.le_refl _) (by simp) ?_; (case hd => rfl); (case hg => rfl); (case hr => first | (go_simp; done) | (go_simp; rfl)); (case hp => exact (Reps.c2 (show Kd.M k106 _ _ _ (⟨q, s⟩ : S106) [.bool q, .int .i64 s] from (k106_mkM _ _ _ (⟨q, s⟩ : S106) )) (Reps.c2 (show Kd.M k106 _ _ _ (⟨y, z⟩ : S106) [.bool y, .int .i64 z] from (k106_mkM _ _ _ (⟨y, z⟩ : S106) )) (Reps.c2 (show Kd.M k106 _ _ _ (⟨C, D⟩ : S106) [.bool C, .int .i64 D] from (k106_mkM _ _ _ (⟨C, D⟩ : S106) )) (Reps.none _ _)))))
 intro ay aC G hb hg_ hnew_
 clear hg_ hnew_
 (first | rw [← L.out] at G | (simp only [Int.reduceToNat] at G; rw [← L.out] at G))
 have b := Z (Kd.R_lower G (below_size bl_))
 have c := kb' a hb
 have B := bs_ hb
 clear a
 clear HB
 have l := b
 have a := c
 have HB := B
 clear b c B
 clear hb G
 obtain ⟨Q, T, U⟩ := Kd.R_slice l.out
 (first | subst U | (injection U with ac ah ad; have ai := ac.symm; have aj := ad.symm; clear ac ah ad; subst ai; subst aj))
 refine hK.out _ _ hd_ (fun hHeld => ?_)
 clear hK K
 refine nA_ (some 15) ?_
 refine oT_ HT_ 10 17 2047 (some 16) (fun K hK => ?_)
 refine goes_ Tryz.func59 (by kernel_rfl) rfl #[.slice Q I.length T] (by rfl) rfl rfl ag_ ?_
 with_reducible refine (attr_sum.calls k _ _ I j _ ?side1 ?side2 A5.out).mono ?_
 (case side1 => repeat (first | exact (Kd.R_reads' l.out).2.2 | (with_reducible apply pC)))
 (case side2 => exact (Kd.R_reads' l.out).2.1)
 rintro e aD ⟨rfl, hb⟩
 refine ⟨_, rfl, ?_⟩
 replace l := rb' l hb
 replace a := kb' a hb
 replace HB := bs_ hb
 (try clear hb)
 (try clear P)
 (try clear hk)
 (try clear hi)
 refine hK.out _ _ hd_ (fun hHeld => ?_)
 clear hK K
 refine nA_ (some 16) ?_
 refine oT_ HT_ 11 17 4095 (some 17) (fun K hK => ?_)
 refine goes_ Tryz.func58 (by kernel_rfl) rfl #[.int .i64 j] (by rfl) rfl rfl ag_ ?_
 with_reducible refine (six_Put.calls j V af ag _ A6.out).mono ?_
 rintro e aE ⟨az, rfl, ae, hb⟩
 refine ⟨_, rfl, ?_⟩
 have b := rb' l hb
 have c := Z (Kd.V_lower (Kd.V_mono (ok' := fun k_ => some k_ ≠ (.slice Q I.length T : Value).ownBlock ∧ k_ ≠ x) ae (fun k_ hk_ => ⟨(Kd.fresh' (Kd.R_lt (by (with_reducible repeat apply pR); exact l.out)) k_ hk_), (Kd.freshB (g := x) (o := .cells #[.bool A, .bool u, .bool p] 26 (0, 0)) (vK a.out) k_ hk_)⟩)) (below_size bl_))
 have B := kb' a hb
 have J := bs_ hb
 clear l
 clear a
 clear HB
 have l := b
 have ap := c
 have a := B
 have HB := J
 clear b c B J
 (try clear hb)
 (try clear P)
 (try clear hk)
 (try clear hi)
 (try clear ae)
 (try simp only [errW_none, errW_some])
 refine hK.out _ _ hd_ (fun hHeld => ?_)
 clear hK K
 refine nA_ (some 17) ?_
 refine pT_ HT_ 12 17 8191 (some 5) ?_
 refine pT_ HT_ 13 17 16383 (some 18) ?_
 refine pT_ HT_ 14 17 32767 (some 19) ?_
 refine pT_ HT_ 15 17 65535 (some 3) ?_
 refine pT_ HT_ 16 17 131071 (some 4) ?_
 refine done_ (done_of HT_.out (by kernel_rfl)) ?_
 try go_wp2
 go_ret
 exact ⟨er_, bl_⟩

/-! ### stream_Write: function 14 -/
def stream_Write.f (k : Nat) (b : Int) (d e g : Bool) (h : List (S49)) (a1 : Int) : Option (List Int × Option Er × (List (S177))) := (stream_known.f k b).bind fun l => (if l = true then ((some (([(b) % 256] : List Int) : List Int)).bind fun c => ((stream_Writes.f b).bind fun m => (if m = true then ((stream_orders.f k h a1).bind fun a => (if a.2.1.isNone = true then ((attr_PutWcc.f k d e g).bind fun n => (if c.length < 140737488355328 then ((some (c ++ [n] : List Int)).bind fun i => (if i.length + a.1.length < 140737488355328 then ((some (i ++ a.1 : List Int)).bind fun j => (if (j.length : Int) > 8192 then (some (([] : List Int), some (Er.num 6), ([] : List (S177)))) else (some (j, none, ([] : List (S177)))))) else (none))) else (none))) else (some (([] : List Int), some (a.2.1.getD ez), a.2.2)))) else (if (d || (e || (g))) = true then (some (([] : List Int), some (Er.num 1), ([] : List (S177)))) else (if (h.length : Int) > 0 then (some (([] : List Int), some (Er.num 1), ([] : List (S177)))) else (some (c, none, ([] : List (S177))))))))) else (some (([] : List Int), some (Er.num 5), ([] : List (S177)))))
theorem stream_Write.mono : ∀ a0 a1 a b a4 c k, LeO (stream_Write.f k a0 a1 a b a4 c) (stream_Write.f (k + 1) a0 a1 a b a4 c) := by
 intro a0 a1 a b a4 c k
 unfold stream_Write.f
 repeat' first
   | (with_reducible exact attr_PutWcc.mono _ _ _ _)
   | (with_reducible exact stream_known.mono _ _)
   | (with_reducible exact stream_orders.mono _ _ _)
   | (with_reducible exact LeO.refl _)
   | (with_reducible exact LeO.none _)
   | (with_reducible refine LeO.ite ?_ ?_)
   | (with_reducible refine LeO.bind ?_ (fun _ => ?_))
   | exact attr_PutWcc.mono _ _ _ _
   | exact stream_known.mono _ _
   | exact stream_orders.mono _ _ _
   | exact LeO.none _
   | refine LeO.ite ?_ ?_
   | refine LeO.bind ?_ (fun _ => ?_)
theorem stream_Write.calls (k : Nat) (c : Int) (q r s : Bool) (E : Option Addr) (F : Nat) (n : List (S49)) (a1 : Int) (U : List Int) (W : Option Er) (X : List (S177)) (w : World) (aD : Kd.C k49 w E n.length n) (aC : n.length ≤ F) (h : stream_Write.f k c q r s n a1 = some (U, W, X)) :
  Calls Tryz.prog 14 #[.agg #[.int .i64 c, .bool q, .bool r, .bool s, .slice E n.length F], .int .i64 a1] w fun e w' => ∃ aM a2 : Value, e = .returned (.tuple #[aM, errW a2 W]) ∧ Kd.R (Kd.int .u8) 5 w' w.heap.size (fun k_ => (w.heap.size ≤ k_)) aM U ∧ Kd.V k177 177 w' w.heap.size (fun k_ => (w.heap.size ≤ k_) ∧ some k_ ≠ (aM : Value).ownBlock) a2 X ∧ Below w.heap.size w w' := by
 have dL := Tryz.underlying29
 have dK := Tryz.underlying26
 have dM := Tryz.underlying34
 have dN := Tryz.underlying61
 have ap := Z aD
 have ao := Z aC
 clear aD aC
 have HB := Z (Below.refl w.heap.size w)
 unfold stream_Write.f at h
 have H := h
 clear h
 replace H := bn_ H
 obtain ⟨aq, A3, H⟩ := H
 cases aq
 ·rw [iF_] at H
  obtain ⟨rfl, rfl, rfl⟩ := ij3_ H
  go_enter Tryz.func14, Tryz.ntmps14
  go_wp2_with (first | ((with_reducible refine gD_ 2 rfl ?_); (try (refine gate_guard (by rfl) ?_; dsimp only)); refine bx_ 2 29 #[.int .i64 c, .bool q, .bool r, .bool s, .slice E n.length F] ?_; intro m hg d9 hbox hb; have a := Z hbox; have T := ln' w hg; replace HB := bs_ hb; clear hb hbox hg; have ci := cells5 a.out) | ((with_reducible refine gF_ 34 rfl ?_); refine gd_ (some 11) Tryz.func34 (stream_known.calls k c false _ A3.out) ?_; rintro e w' ⟨rfl, ⟨nd, rfl⟩⟩; refine ⟨_, rfl, ?_⟩))
  go_ret2
  exact ⟨_, _, er_, by first | exact Kd.R_nil _ _ _ _ _ | exact Kd.N_nil _ _ _ _ _ | exact Kd.V_nil _ _ _ _ _ | exact Kd.Q_nil _ _ _ _ _ | exact Kd.S_nil _ _ _ _ _, Kd.R_V (by first | exact Kd.R_nil _ _ _ 0 _ | exact Kd.N_nil _ _ _ _ _ | exact Kd.V_nil _ _ _ _ _ | exact Kd.Q_nil _ _ _ _ _ | exact Kd.S_nil _ _ _ _ _), bl_⟩
 rw [if_pos rfl] at H
 obtain ⟨z, Y⟩ : ∃ y_ : List Int, y_ = (([(c) % 256] : List Int)) := ⟨_, rfl⟩
 rw [← Y] at H
 try replace H := sb_ H
 have I := Z Y
 clear Y
 replace H := bn_ H
 obtain ⟨J, A5, H⟩ := H
 cases J
 ·rw [iF_] at H
  by_cases am : (q || (r || (s))) = true
  ·rw [if_pos am] at H
   have aU : (q || (r || (s))) = true := am
   clear am
   obtain ⟨rfl, rfl, rfl⟩ := ij3_ H
   go_enter Tryz.func14, Tryz.ntmps14
   go_wp2_with (first | ((with_reducible refine gD_ 2 rfl ?_); (try (refine gate_guard (by rfl) ?_; dsimp only)); refine bx_ 2 29 #[.int .i64 c, .bool q, .bool r, .bool s, .slice E n.length F] ?_; intro m hg d3 hbox hb; have a := Z hbox; have T := ln' w hg; replace HB := bs_ hb; clear hb hbox hg; have bO := cells5 a.out) | ((with_reducible refine gF_ 34 rfl ?_); refine gd_ (some 11) Tryz.func34 (stream_known.calls k c true _ A3.out) ?_; rintro e w' ⟨rfl, ⟨nd, rfl⟩⟩; refine ⟨_, rfl, ?_⟩) | ((with_reducible refine gD_ 17 rfl ?_); (try (refine gate_guard (by rfl) ?_; dsimp only)); refine Kd.R_lit (Kd.int .u8) _ 5 ?hg (N := 17) ?hd (xs := ([(c) % 256] : List Int)) (inner := [.int .u8 ((c) % 256)]) (ok := fun _ => True) (okp := fun _ => True) ?hr ?hp (fun _ hk => hk) trivial (Below.refl _ _) (Nat.le_refl _) (by simp) ?_; (case hd => rfl); (case hg => rfl); (case hr => first | (go_simp; done) | (go_simp; rfl)); (case hp => exact (Reps.one (show Kd.M (Kd.int .u8) _ _ _ ((c) % 256) [.int .u8 ((c) % 256)] from rfl) (Reps.none _ _))); intro K d4 ah hb hg_ hnew_; clear hg_ hnew_; (first | rw [← I.out] at ah | (simp only [Int.reduceToNat] at ah; rw [← I.out] at ah)); have p := rn_ w ah; replace a := kb' a hb; replace HB := bs_ hb; clear hb ah; have bT := cells5 a.out) | ((with_reducible refine gF_ 35 rfl ?_); refine gd_ (some 20) Tryz.func35 (stream_Writes.calls c false _ A5.out) ?_; rintro e w' ⟨rfl, ⟨nd, rfl⟩⟩; refine ⟨_, rfl, ?_⟩))
   go_ret2
   exact ⟨_, _, er_, by first | exact Kd.R_nil _ _ _ _ _ | exact Kd.N_nil _ _ _ _ _ | exact Kd.V_nil _ _ _ _ _ | exact Kd.Q_nil _ _ _ _ _ | exact Kd.S_nil _ _ _ _ _, Kd.R_V (by first | exact Kd.R_nil _ _ _ 0 _ | exact Kd.N_nil _ _ _ _ _ | exact Kd.V_nil _ _ _ _ _ | exact Kd.Q_nil _ _ _ _ _ | exact Kd.S_nil _ _ _ _ _), bl_⟩
  rw [if_neg am] at H
  have aU : (q || (r || (s))) = false := by simpa using am
  clear am
  by_cases an : (n.length : Int) > 0
  ·rw [if_pos an] at H
   have aV : decide (0 < (n.length : Int)) = true := decide_eq_true an
   have aW : decide (0 < n.length) = true := decide_eq_true (by omega)
   clear an
   obtain ⟨rfl, rfl, rfl⟩ := ij3_ H
   go_enter Tryz.func14, Tryz.ntmps14
   go_wp2_with (first | ((with_reducible refine gD_ 2 rfl ?_); (try (refine gate_guard (by rfl) ?_; dsimp only)); refine bx_ 2 29 #[.int .i64 c, .bool q, .bool r, .bool s, .slice E n.length F] ?_; intro m hg d5 hbox hb; have a := Z hbox; have T := ln' w hg; replace HB := bs_ hb; clear hb hbox hg; have bY := cells5 a.out) | ((with_reducible refine gF_ 34 rfl ?_); refine gd_ (some 11) Tryz.func34 (stream_known.calls k c true _ A3.out) ?_; rintro e w' ⟨rfl, ⟨nd, rfl⟩⟩; refine ⟨_, rfl, ?_⟩) | ((with_reducible refine gD_ 17 rfl ?_); (try (refine gate_guard (by rfl) ?_; dsimp only)); refine Kd.R_lit (Kd.int .u8) _ 5 ?hg (N := 17) ?hd (xs := ([(c) % 256] : List Int)) (inner := [.int .u8 ((c) % 256)]) (ok := fun _ => True) (okp := fun _ => True) ?hr ?hp (fun _ hk => hk) trivial (Below.refl _ _) (Nat.le_refl _) (by simp) ?_; (case hd => rfl); (case hg => rfl); (case hr => first | (go_simp; done) | (go_simp; rfl)); (case hp => exact (Reps.one (show Kd.M (Kd.int .u8) _ _ _ ((c) % 256) [.int .u8 ((c) % 256)] from rfl) (Reps.none _ _))); intro K d6 ai hb hg_ hnew_; clear hg_ hnew_; (first | rw [← I.out] at ai | (simp only [Int.reduceToNat] at ai; rw [← I.out] at ai)); have p := rn_ w ai; replace a := kb' a hb; replace HB := bs_ hb; clear hb ai; have b3 := cells5 a.out) | ((with_reducible refine gF_ 35 rfl ?_); refine gd_ (some 20) Tryz.func35 (stream_Writes.calls c false _ A5.out) ?_; rintro e w' ⟨rfl, ⟨nd, rfl⟩⟩; refine ⟨_, rfl, ?_⟩))
   go_ret2
   exact ⟨_, _, er_, by first | exact Kd.R_nil _ _ _ _ _ | exact Kd.N_nil _ _ _ _ _ | exact Kd.V_nil _ _ _ _ _ | exact Kd.Q_nil _ _ _ _ _ | exact Kd.S_nil _ _ _ _ _, Kd.R_V (by first | exact Kd.R_nil _ _ _ 0 _ | exact Kd.N_nil _ _ _ _ _ | exact Kd.V_nil _ _ _ _ _ | exact Kd.Q_nil _ _ _ _ _ | exact Kd.S_nil _ _ _ _ _), bl_⟩
  rw [if_neg an] at H
  have aV : decide (0 < (n.length : Int)) = false := decide_eq_false an
  have aW : decide (0 < n.length) = false := decide_eq_false (by omega)
  clear an
  obtain ⟨rfl, rfl, rfl⟩ := ij3_ H
  go_enter Tryz.func14, Tryz.ntmps14
  go_wp2_with (first | ((with_reducible refine gD_ 2 rfl ?_); (try (refine gate_guard (by rfl) ?_; dsimp only)); refine bx_ 2 29 #[.int .i64 c, .bool q, .bool r, .bool s, .slice E n.length F] ?_; intro m hg d7 hbox hb; have a := Z hbox; have T := ln' w hg; replace HB := bs_ hb; clear hb hbox hg; have b8 := cells5 a.out) | ((with_reducible refine gF_ 34 rfl ?_); refine gd_ (some 11) Tryz.func34 (stream_known.calls k c true _ A3.out) ?_; rintro e w' ⟨rfl, ⟨nd, rfl⟩⟩; refine ⟨_, rfl, ?_⟩) | ((with_reducible refine gD_ 17 rfl ?_); (try (refine gate_guard (by rfl) ?_; dsimp only)); refine Kd.R_lit (Kd.int .u8) _ 5 ?hg (N := 17) ?hd (xs := ([(c) % 256] : List Int)) (inner := [.int .u8 ((c) % 256)]) (ok := fun _ => True) (okp := fun _ => True) ?hr ?hp (fun _ hk => hk) trivial (Below.refl _ _) (Nat.le_refl _) (by simp) ?_; (case hd => rfl); (case hg => rfl); (case hr => first | (go_simp; done) | (go_simp; rfl)); (case hp => exact (Reps.one (show Kd.M (Kd.int .u8) _ _ _ ((c) % 256) [.int .u8 ((c) % 256)] from rfl) (Reps.none _ _))); intro K d8 aj hb hg_ hnew_; clear hg_ hnew_; (first | rw [← I.out] at aj | (simp only [Int.reduceToNat] at aj; rw [← I.out] at aj)); have p := rn_ w aj; replace a := kb' a hb; replace HB := bs_ hb; clear hb aj; have cd := cells5 a.out) | ((with_reducible refine gF_ 35 rfl ?_); refine gd_ (some 20) Tryz.func35 (stream_Writes.calls c false _ A5.out) ?_; rintro e w' ⟨rfl, ⟨nd, rfl⟩⟩; refine ⟨_, rfl, ?_⟩))
  go_ret2
  exact ⟨_, _, er_, by (with_reducible repeat apply pR); exact Kd.R_mono p.out im_, Kd.R_V (by first | exact Kd.R_nil _ _ _ 0 _ | exact Kd.N_nil _ _ _ _ _ | exact Kd.V_nil _ _ _ _ _ | exact Kd.Q_nil _ _ _ _ _ | exact Kd.S_nil _ _ _ _ _), bl_⟩
 rw [if_pos rfl] at H
 replace H := bn_ H
 obtain ⟨⟨G, av, ak⟩, A7, H⟩ := H
 try dsimp only at H
 rcases av with _ | au
 rotate_left
 ·rw [if_neg (show ¬ (some au).isNone = true by simp)] at H
  try dsimp only [Option.getD_some] at H
  try simp only [errW_none, errW_some]
  obtain ⟨rfl, rfl, rfl⟩ := ij3_ H
  go_enter Tryz.func14, Tryz.ntmps14
  go_wp2_with (first | ((with_reducible refine gD_ 2 rfl ?_); (try (refine gate_guard (by rfl) ?_; dsimp only)); refine bx_ 2 29 #[.int .i64 c, .bool q, .bool r, .bool s, .slice E n.length F] ?_; intro m hg d0 hbox hb; have a := Z hbox; have T := ln' w hg; replace HB := bs_ hb; clear hb hbox hg; have bE := cells5 a.out) | ((with_reducible refine gF_ 34 rfl ?_); refine gd_ (some 11) Tryz.func34 (stream_known.calls k c true _ A3.out) ?_; rintro e w' ⟨rfl, ⟨nd, rfl⟩⟩; refine ⟨_, rfl, ?_⟩) | ((with_reducible refine gD_ 17 rfl ?_); (try (refine gate_guard (by rfl) ?_; dsimp only)); refine Kd.R_lit (Kd.int .u8) _ 5 ?hg (N := 17) ?hd (xs := ([(c) % 256] : List Int)) (inner := [.int .u8 ((c) % 256)]) (ok := fun _ => True) (okp := fun _ => True) ?hr ?hp (fun _ hk => hk) trivial (Below.refl _ _) (Nat.le_refl _) (by simp) ?_; (case hd => rfl); (case hg => rfl); (case hr => first | (go_simp; done) | (go_simp; rfl)); (case hp => exact (Reps.one (show Kd.M (Kd.int .u8) _ _ _ ((c) % 256) [.int .u8 ((c) % 256)] from rfl) (Reps.none _ _))); intro K d1 ag hb hg_ hnew_; clear hg_ hnew_; (first | rw [← I.out] at ag | (simp only [Int.reduceToNat] at ag; rw [← I.out] at ag)); have p := rn_ w ag; replace a := kb' a hb; replace HB := bs_ hb; clear hb ag; have bJ := cells5 a.out) | ((with_reducible refine gF_ 35 rfl ?_); refine gd_ (some 20) Tryz.func35 (stream_Writes.calls c true _ A5.out) ?_; rintro e w' ⟨rfl, ⟨nd, rfl⟩⟩; refine ⟨_, rfl, ?_⟩) | ((with_reducible refine gF_ 36 rfl ?_); refine gd_ (some 38) Tryz.func36 (stream_orders.calls k _ _ n a1 G (some au) ak _ ?side1 ao.out A7.out) ?_; (case side1 => repeat (first | exact (Kd.C_below ap.out bl_) | (with_reducible apply pC))); rintro e d2 ⟨O, aN, rfl, Q, ac, hb⟩; refine ⟨_, rfl, ?_⟩; have v := Z (Kd.R_lower (Kd.R_new' (Kd.R_newM (M := fun k_ => (w.heap.size ≤ k_)) (Kd.R_mono (ok' := fun k_ => True) Q (fun _ hk_ => trivial)) (below_size bl_) (fun k_ h_ => h_)) (Kd.R_lt (by (with_reducible repeat apply pR); exact p.out))) (below_size bl_)); have A := Z (Kd.V_lower (Kd.V_mono (ok' := fun k_ => (w.heap.size ≤ k_) ∧ some k_ ≠ (O : Value).ownBlock ∧ some k_ ≠ (K : Value).ownBlock ∧ k_ ≠ m) ac (fun k_ hk_ => ⟨(Nat.le_trans (below_size bl_) hk_.1), hk_.2, (Kd.fresh' (Kd.R_lt (by (with_reducible repeat apply pR); exact p.out)) k_ hk_.1), (Kd.freshB (g := m) (o := .cells #[.int .i64 c, .bool q, .bool r, .bool s, .slice E n.length F] 29 (0, 0)) (vK a.out) k_ hk_.1)⟩)) (below_size bl_)); replace p := Z (Kd.R_elder' (by (with_reducible repeat apply pR); exact p.out) (Kd.R_base Q) hb); replace a := kb' a hb; replace HB := bs_ hb; (try clear hb); (try clear hk); (try clear Q); (try clear ac); (try simp only [errW_none, errW_some])))
  go_ret2
  exact ⟨_, _, er_, by first | exact Kd.R_nil _ _ _ _ _ | exact Kd.N_nil _ _ _ _ _ | exact Kd.V_nil _ _ _ _ _ | exact Kd.Q_nil _ _ _ _ _ | exact Kd.S_nil _ _ _ _ _, by (with_reducible repeat apply pV); exact Kd.V_mono A.out (fun _ hk => ⟨hk.1, (by simp [Value.ownBlock])⟩), bl_⟩
 rw [if_pos (show (none : Option Er).isNone = true by rfl)] at H
 try dsimp only [Option.getD_some] at H
 try simp only [errW_none, errW_some]
 replace H := bn_ H
 obtain ⟨B, A8, H⟩ := H
 obtain ⟨c9, H⟩ := gt_ H
 have aI := Z c9
 clear c9
 obtain ⟨y, aa⟩ : ∃ y_ : List Int, y_ = (z ++ [B]) := ⟨_, rfl⟩
 rw [← aa] at H
 try replace H := sb_ H
 have ay := Z aa
 clear aa
 obtain ⟨c10, H⟩ := gt_ H
 have ax := Z c10
 clear c10
 obtain ⟨u, ab⟩ : ∃ y_ : List Int, y_ = (y ++ G) := ⟨_, rfl⟩
 rw [← ab] at H
 try replace H := sb_ H
 have az := Z ab
 clear ab
 by_cases al : (u.length : Int) > 8192
 ·rw [if_pos al] at H
  have aQ : decide (8192 < (u.length : Int)) = true := decide_eq_true al
  have aT : decide (8192 < u.length) = true := decide_eq_true (by omega)
  clear al
  obtain ⟨rfl, rfl, rfl⟩ := ij3_ H
  go_enter Tryz.func14, Tryz.ntmps14
  go_wp2_with (first | ((with_reducible refine gD_ 2 rfl ?_); (try (refine gate_guard (by rfl) ?_; dsimp only)); refine bx_ 2 29 #[.int .i64 c, .bool q, .bool r, .bool s, .slice E n.length F] ?_; intro m hg dO hbox hb; have a := Z hbox; have T := ln' w hg; replace HB := bs_ hb; clear hb hbox hg; have a9 := cells5 a.out) | ((with_reducible refine gF_ 34 rfl ?_); refine gd_ (some 11) Tryz.func34 (stream_known.calls k c true _ A3.out) ?_; rintro e w' ⟨rfl, ⟨nd, rfl⟩⟩; refine ⟨_, rfl, ?_⟩) | ((with_reducible refine gD_ 17 rfl ?_); (try (refine gate_guard (by rfl) ?_; dsimp only)); refine Kd.R_lit (Kd.int .u8) _ 5 ?hg (N := 17) ?hd (xs := ([(c) % 256] : List Int)) (inner := [.int .u8 ((c) % 256)]) (ok := fun _ => True) (okp := fun _ => True) ?hr ?hp (fun _ hk => hk) trivial (Below.refl _ _) (Nat.le_refl _) (by simp) ?_; (case hd => rfl); (case hg => rfl); (case hr => first | (go_simp; done) | (go_simp; rfl)); (case hp => exact (Reps.one (show Kd.M (Kd.int .u8) _ _ _ ((c) % 256) [.int .u8 ((c) % 256)] from rfl) (Reps.none _ _))); intro K dP ae hb hg_ hnew_; clear hg_ hnew_; (first | rw [← I.out] at ae | (simp only [Int.reduceToNat] at ae; rw [← I.out] at ae)); have p := rn_ w ae; replace a := kb' a hb; replace HB := bs_ hb; clear hb ae; have be := cells5 a.out) | ((with_reducible refine gF_ 35 rfl ?_); refine gd_ (some 20) Tryz.func35 (stream_Writes.calls c true _ A5.out) ?_; rintro e w' ⟨rfl, ⟨nd, rfl⟩⟩; refine ⟨_, rfl, ?_⟩) | ((with_reducible refine gF_ 36 rfl ?_); refine gd_ (some 38) Tryz.func36 (stream_orders.calls k _ _ n a1 G none ak _ ?side1 ao.out A7.out) ?_; (case side1 => repeat (first | exact (Kd.C_below ap.out bl_) | (with_reducible apply pC))); rintro e dQ ⟨O, aN, rfl, Q, ac, hb⟩; refine ⟨_, rfl, ?_⟩; have v := Z (Kd.R_lower (Kd.R_new' (Kd.R_newM (M := fun k_ => (w.heap.size ≤ k_)) (Kd.R_mono (ok' := fun k_ => True) Q (fun _ hk_ => trivial)) (below_size bl_) (fun k_ h_ => h_)) (Kd.R_lt (by (with_reducible repeat apply pR); exact p.out))) (below_size bl_)); have A := Z (Kd.V_lower (Kd.V_mono (ok' := fun k_ => (w.heap.size ≤ k_) ∧ some k_ ≠ (O : Value).ownBlock ∧ some k_ ≠ (K : Value).ownBlock ∧ k_ ≠ m) ac (fun k_ hk_ => ⟨(Nat.le_trans (below_size bl_) hk_.1), hk_.2, (Kd.fresh' (Kd.R_lt (by (with_reducible repeat apply pR); exact p.out)) k_ hk_.1), (Kd.freshB (g := m) (o := .cells #[.int .i64 c, .bool q, .bool r, .bool s, .slice E n.length F] 29 (0, 0)) (vK a.out) k_ hk_.1)⟩)) (below_size bl_)); replace p := Z (Kd.R_elder' (by (with_reducible repeat apply pR); exact p.out) (Kd.R_base Q) hb); replace a := kb' a hb; replace HB := bs_ hb; (try clear hb); (try clear hk); (try clear Q); (try clear ac); (try simp only [errW_none, errW_some]); have bj := cells5 a.out) | ((with_reducible refine gF_ 37 rfl ?_); refine gd_ (some 47) Tryz.func37 (attr_PutWcc.calls k q r s B _ A8.out) ?_; rintro e dR ⟨rfl, hb⟩; refine ⟨_, rfl, ?_⟩; replace p := rb' p hb; replace v := rb' v hb; replace A := vb' A hb; replace a := kb' a hb; replace HB := bs_ hb; (try clear hb); (try clear hk)) | ((with_reducible refine gate_builtin (b := .append) (xs := #[.tmp 44, .tmp 48]) rfl ?_); (try (refine gate_guard (by rfl) ?_; dsimp only)); at_builtin; refine Kd.R_append (Kd.int .u8) (w0 := w) w.heap.size rfl (.tmp 44) (.tmp 48) 37 5 (.int .u8 0) 1 rfl Tryz.underlying37 info5 rfl (by decide) (by omega) K z B [.int .u8 B] (fun k_ => (w.heap.size ≤ k_) ∧ some k_ ≠ (O : Value).ownBlock) (fun _ => False) rfl rfl ?aP (fun _ hk => hk.elim) ?aF ?aO ?aB ?aS ?aL ?_; (case aP => exact rfl); (case aB => exact bl_); (case aF => exact (fun k_ hk => ⟨(Nat.le_trans (below_size bl_) hk), Kd.fresh' (Kd.R_lt (by (with_reducible repeat apply pR); exact v.out)) k_ hk⟩)); (case aO => exact (by (with_reducible repeat apply pR); exact Kd.R_mono p.out (fun _ hk => ⟨hk.1.1, hk.2⟩))); (case aS => exact (below_size bl_)); (case aL => have := aI.out; omega); intro aw dS ho hb hg hat; rw [← ay.out] at ho; replace a := gw_ ⟨vK a.out⟩ hg (Kd.R_ne p.out a.out (by decide)); replace v := Z (Kd.R_after (ok := (fun k_ => (w.heap.size ≤ k_))) (by (with_reducible repeat apply pR); exact Kd.R_mono v.out (fun _ hk => ⟨hk.1.1, hk.2⟩)) hg hat); replace A := Z (Kd.V_afterv (ok := (fun k_ => (w.heap.size ≤ k_) ∧ some k_ ≠ (O : Value).ownBlock ∧ k_ ≠ m)) (by (with_reducible repeat apply pV); exact Kd.V_mono A.out (fun _ hk => ⟨⟨hk.1, ⟨hk.2.1, hk.2.2.2⟩⟩, hk.2.2.1⟩)) hg hat); replace HB := Z (hb); have L := Z (ho); clear p; clear ho hb hg hat; obtain ⟨aG, aJ, a4⟩ := Kd.R_slice v.out; subst a4) | ((with_reducible refine gate_builtin (b := .append) (xs := #[.tmp 49, .tmp 50]) rfl ?_); (try (refine gate_guard (by rfl) ?_; dsimp only)); at_builtin; refine Kd.R_append_rows (Kd.int .u8) (w0 := w) w.heap.size rfl (.tmp 49) (.tmp 50) 37 5 (.int .u8 0) 1 rfl Tryz.underlying37 info5 rfl (by decide) (by omega) aw y G _ _ _ (fun k_ => (w.heap.size ≤ k_) ∧ some k_ ≠ (.slice aG G.length aJ : Value).ownBlock) (fun _ => False) rfl rfl ?aO ?aR (fun _ _ h => h) (fun _ h => h.elim) ?aF ?aB ?aS ?aL ?_; (case aR => repeat (first | exact (Kd.R_reads' v.out).2.2 | (with_reducible apply pC))); (case aB => exact bl_); (case aF => exact (fun k_ hk => ⟨(Nat.le_trans (below_size bl_) hk), Kd.fresh' (Kd.R_lt (by (with_reducible repeat apply pR); exact v.out)) k_ hk⟩)); (case aO => exact (by (with_reducible repeat apply pR); exact L.out)); (case aS => exact (below_size bl_)); (case aL => have := ax.out; omega); intro a8 dT ho hb hg hat; rw [← az.out] at ho; replace a := gw_ ⟨vK a.out⟩ hg (Kd.R_ne L.out a.out (by decide)); replace v := Z (Kd.R_after (ok := (fun k_ => (w.heap.size ≤ k_))) (by (with_reducible repeat apply pR); exact v.out) hg hat); replace A := Z (Kd.V_afterv (ok := (fun k_ => (w.heap.size ≤ k_) ∧ some k_ ≠ (.slice aG G.length aJ : Value).ownBlock ∧ k_ ≠ m)) (vV A.out) hg hat); replace HB := Z (hb); have ad := Z (ho); clear L; clear ho hb hg hat; obtain ⟨dG, dI, a5⟩ := Kd.R_slice ad.out; subst a5))
  go_ret2
  exact ⟨_, _, er_, by first | exact Kd.R_nil _ _ _ _ _ | exact Kd.N_nil _ _ _ _ _ | exact Kd.V_nil _ _ _ _ _ | exact Kd.Q_nil _ _ _ _ _ | exact Kd.S_nil _ _ _ _ _, Kd.R_V (by first | exact Kd.R_nil _ _ _ 0 _ | exact Kd.N_nil _ _ _ _ _ | exact Kd.V_nil _ _ _ _ _ | exact Kd.Q_nil _ _ _ _ _ | exact Kd.S_nil _ _ _ _ _), bl_⟩
 rw [if_neg al] at H
 have aQ : decide (8192 < (u.length : Int)) = false := decide_eq_false al
 have aT : decide (8192 < u.length) = false := decide_eq_false (by omega)
 clear al
 obtain ⟨rfl, rfl, rfl⟩ := ij3_ H
 go_enter Tryz.func14, Tryz.ntmps14
 go_wp2_with (first | ((with_reducible refine gD_ 2 rfl ?_); (try (refine gate_guard (by rfl) ?_; dsimp only)); refine bx_ 2 29 #[.int .i64 c, .bool q, .bool r, .bool s, .slice E n.length F] ?_; intro m hg dU hbox hb; have a := Z hbox; have T := ln' w hg; replace HB := bs_ hb; clear hb hbox hg; have bo := cells5 a.out) | ((with_reducible refine gF_ 34 rfl ?_); refine gd_ (some 11) Tryz.func34 (stream_known.calls k c true _ A3.out) ?_; rintro e w' ⟨rfl, ⟨nd, rfl⟩⟩; refine ⟨_, rfl, ?_⟩) | ((with_reducible refine gD_ 17 rfl ?_); (try (refine gate_guard (by rfl) ?_; dsimp only)); refine Kd.R_lit (Kd.int .u8) _ 5 ?hg (N := 17) ?hd (xs := ([(c) % 256] : List Int)) (inner := [.int .u8 ((c) % 256)]) (ok := fun _ => True) (okp := fun _ => True) ?hr ?hp (fun _ hk => hk) trivial (Below.refl _ _) (Nat.le_refl _) (by simp) ?_; (case hd => rfl); (case hg => rfl); (case hr => first | (go_simp; done) | (go_simp; rfl)); (case hp => exact (Reps.one (show Kd.M (Kd.int .u8) _ _ _ ((c) % 256) [.int .u8 ((c) % 256)] from rfl) (Reps.none _ _))); intro K dV af hb hg_ hnew_; clear hg_ hnew_; (first | rw [← I.out] at af | (simp only [Int.reduceToNat] at af; rw [← I.out] at af)); have p := rn_ w af; replace a := kb' a hb; replace HB := bs_ hb; clear hb af; have bt := cells5 a.out) | ((with_reducible refine gF_ 35 rfl ?_); refine gd_ (some 20) Tryz.func35 (stream_Writes.calls c true _ A5.out) ?_; rintro e w' ⟨rfl, ⟨nd, rfl⟩⟩; refine ⟨_, rfl, ?_⟩) | ((with_reducible refine gF_ 36 rfl ?_); refine gd_ (some 38) Tryz.func36 (stream_orders.calls k _ _ n a1 G none ak _ ?side1 ao.out A7.out) ?_; (case side1 => repeat (first | exact (Kd.C_below ap.out bl_) | (with_reducible apply pC))); rintro e dW ⟨O, aN, rfl, Q, ac, hb⟩; refine ⟨_, rfl, ?_⟩; have v := Z (Kd.R_lower (Kd.R_new' (Kd.R_newM (M := fun k_ => (w.heap.size ≤ k_)) (Kd.R_mono (ok' := fun k_ => True) Q (fun _ hk_ => trivial)) (below_size bl_) (fun k_ h_ => h_)) (Kd.R_lt (by (with_reducible repeat apply pR); exact p.out))) (below_size bl_)); have A := Z (Kd.V_lower (Kd.V_mono (ok' := fun k_ => (w.heap.size ≤ k_) ∧ some k_ ≠ (O : Value).ownBlock ∧ some k_ ≠ (K : Value).ownBlock ∧ k_ ≠ m) ac (fun k_ hk_ => ⟨(Nat.le_trans (below_size bl_) hk_.1), hk_.2, (Kd.fresh' (Kd.R_lt (by (with_reducible repeat apply pR); exact p.out)) k_ hk_.1), (Kd.freshB (g := m) (o := .cells #[.int .i64 c, .bool q, .bool r, .bool s, .slice E n.length F] 29 (0, 0)) (vK a.out) k_ hk_.1)⟩)) (below_size bl_)); replace p := Z (Kd.R_elder' (by (with_reducible repeat apply pR); exact p.out) (Kd.R_base Q) hb); replace a := kb' a hb; replace HB := bs_ hb; (try clear hb); (try clear hk); (try clear Q); (try clear ac); (try simp only [errW_none, errW_some]); have bz := cells5 a.out) | ((with_reducible refine gF_ 37 rfl ?_); refine gd_ (some 47) Tryz.func37 (attr_PutWcc.calls k q r s B _ A8.out) ?_; rintro e dX ⟨rfl, hb⟩; refine ⟨_, rfl, ?_⟩; replace p := rb' p hb; replace v := rb' v hb; replace A := vb' A hb; replace a := kb' a hb; replace HB := bs_ hb; (try clear hb); (try clear hk)) | ((with_reducible refine gate_builtin (b := .append) (xs := #[.tmp 44, .tmp 48]) rfl ?_); (try (refine gate_guard (by rfl) ?_; dsimp only)); at_builtin; refine Kd.R_append (Kd.int .u8) (w0 := w) w.heap.size rfl (.tmp 44) (.tmp 48) 37 5 (.int .u8 0) 1 rfl Tryz.underlying37 info5 rfl (by decide) (by omega) K z B [.int .u8 B] (fun k_ => (w.heap.size ≤ k_) ∧ some k_ ≠ (O : Value).ownBlock) (fun _ => False) rfl rfl ?aP (fun _ hk => hk.elim) ?aF ?aO ?aB ?aS ?aL ?_; (case aP => exact rfl); (case aB => exact bl_); (case aF => exact (fun k_ hk => ⟨(Nat.le_trans (below_size bl_) hk), Kd.fresh' (Kd.R_lt (by (with_reducible repeat apply pR); exact v.out)) k_ hk⟩)); (case aO => exact (by (with_reducible repeat apply pR); exact Kd.R_mono p.out (fun _ hk => ⟨hk.1.1, hk.2⟩))); (case aS => exact (below_size bl_)); (case aL => have := aI.out; omega); intro aw dY ho hb hg hat; rw [← ay.out] at ho; replace a := gw_ ⟨vK a.out⟩ hg (Kd.R_ne p.out a.out (by decide)); replace v := Z (Kd.R_after (ok := (fun k_ => (w.heap.size ≤ k_))) (by (with_reducible repeat apply pR); exact Kd.R_mono v.out (fun _ hk => ⟨hk.1.1, hk.2⟩)) hg hat); replace A := Z (Kd.V_afterv (ok := (fun k_ => (w.heap.size ≤ k_) ∧ some k_ ≠ (O : Value).ownBlock ∧ k_ ≠ m)) (by (with_reducible repeat apply pV); exact Kd.V_mono A.out (fun _ hk => ⟨⟨hk.1, ⟨hk.2.1, hk.2.2.2⟩⟩, hk.2.2.1⟩)) hg hat); replace HB := Z (hb); have L := Z (ho); clear p; clear ho hb hg hat; obtain ⟨aH, aK, a6⟩ := Kd.R_slice v.out; subst a6) | ((with_reducible refine gate_builtin (b := .append) (xs := #[.tmp 49, .tmp 50]) rfl ?_); (try (refine gate_guard (by rfl) ?_; dsimp only)); at_builtin; refine Kd.R_append_rows (Kd.int .u8) (w0 := w) w.heap.size rfl (.tmp 49) (.tmp 50) 37 5 (.int .u8 0) 1 rfl Tryz.underlying37 info5 rfl (by decide) (by omega) aw y G _ _ _ (fun k_ => (w.heap.size ≤ k_) ∧ some k_ ≠ (.slice aH G.length aK : Value).ownBlock) (fun _ => False) rfl rfl ?aO ?aR (fun _ _ h => h) (fun _ h => h.elim) ?aF ?aB ?aS ?aL ?_; (case aR => repeat (first | exact (Kd.R_reads' v.out).2.2 | (with_reducible apply pC))); (case aB => exact bl_); (case aF => exact (fun k_ hk => ⟨(Nat.le_trans (below_size bl_) hk), Kd.fresh' (Kd.R_lt (by (with_reducible repeat apply pR); exact v.out)) k_ hk⟩)); (case aO => exact (by (with_reducible repeat apply pR); exact L.out)); (case aS => exact (below_size bl_)); (case aL => have := ax.out; omega); intro a8 dZ ho hb hg hat; rw [← az.out] at ho; replace a := gw_ ⟨vK a.out⟩ hg (Kd.R_ne L.out a.out (by decide)); replace v := Z (Kd.R_after (ok := (fun k_ => (w.heap.size ≤ k_))) (by (with_reducible repeat apply pR); exact v.out) hg hat); replace A := Z (Kd.V_afterv (ok := (fun k_ => (w.heap.size ≤ k_) ∧ some k_ ≠ (.slice aH G.length aK : Value).ownBlock ∧ k_ ≠ m)) (vV A.out) hg hat); replace HB := Z (hb); have ad := Z (ho); clear L; clear ho hb hg hat; obtain ⟨dH, dJ, a7⟩ := Kd.R_slice ad.out; subst a7))
 go_ret2
 exact ⟨_, _, er_, by (with_reducible repeat apply pR); exact Kd.R_mono ad.out im_, Kd.R_V (by first | exact Kd.R_nil _ _ _ 0 _ | exact Kd.N_nil _ _ _ _ _ | exact Kd.V_nil _ _ _ _ _ | exact Kd.Q_nil _ _ _ _ _ | exact Kd.S_nil _ _ _ _ _), bl_⟩

/-! ### grid_Size: function 15 -/
def grid_Size.f (b c : Int) (a : List (S47)) (d : Int) (e g : Bool) : Option (Int) := some (a.length : Int)
theorem grid_Size.calls (c d : Int) (b : Option Addr) (k : Nat) (a : List (S47)) (g : Int) (i j : Bool) (r : Int) (w : World) (n : Kd.C k47 w b a.length a) (m : a.length ≤ k) (h : grid_Size.f c d a g i j = some r) :
  Calls Tryz.prog 15 #[.agg #[.int .i64 c, .int .i64 d, .slice b a.length k, .int .i64 g, .bool i, .bool j]] w fun e w' => e = .returned (.int .i64 r) ∧ Below w.heap.size w w' := by
 have P := Tryz.underlying24
 have O := Z n
 have M := Z m
 clear n m
 have HB := Z (Below.refl w.heap.size w)
 unfold grid_Size.f at h
 have H := h
 clear h
 obtain rfl := Option.some.inj H
 go_enter Tryz.func15, Tryz.ntmps15
 go_wp2_with (first | ((with_reducible refine gD_ 1 rfl ?_); refine bx_ 1 24 #[.int .i64 c, .int .i64 d, .slice b a.length k, .int .i64 g, .bool i, .bool j] ?_; intro l hg w2 hbox hb; have o := Z hbox; have L := ln' w hg; replace HB := bs_ hb; clear hb hbox hg; have v := cells6 o.out))
 go_ret
 exact ⟨er_, bl_⟩

/-! ### host_Reset: function 17 -/
section
/-- A cell, modified no more: whatever cell, or one that is not protected. -/
def resetC (all : Bool) (c : S47) : S47 := if (all || !c.f1.f0) = true then ⟨c.f0, ⟨c.f1.f0, c.f1.f1, c.f1.f2, false⟩, c.f2⟩ else c
def resetN (all : Bool) (l : List S47) (i : Nat) : List S47 := (l.take i).map (resetC all) ++ l.drop i
theorem resetN_len (all : Bool) (l : List S47) (i : Nat) : (resetN all l i).length = l.length := by simp only [resetN, List.length_append, List.length_map, List.length_take, List.length_drop]; omega
theorem resetN_rd (all : Bool) (l : List S47) (x : Int) (a : x < l.length) : rd_T47 (resetN all l x.toNat) x = rd_T47 l x := by
 simp only [rd_T47, resetN, List.getD_eq_getElem?_getD]
 rw [List.getElem?_append_right (by simp only [List.length_map, List.length_take]; omega), List.length_map, List.length_take, List.getElem?_drop]
 congr 2; omega
theorem resetN_step (all : Bool) (l : List S47) (i : Nat) (hi : i < l.length) : resetN all l (i + 1) = (resetN all l i).set i (resetC all l[i]) := by
 unfold resetN
 rw [List.take_succ_eq_append_getElem hi, List.map_append, List.set_append_right _ _ (by simp only [List.length_map, List.length_take]; omega), List.drop_eq_getElem_cons hi, List.length_map, List.length_take, show i - min i l.length = 0 by omega]
 simp only [List.map_cons, List.map_nil, List.append_assoc, sB, List.cons_append, List.nil_append]
theorem resetN_next (all : Bool) (l : List S47) (x : Int) (a : 0 ≤ x) (b : x < l.length) : resetN all l (x + 1).toNat = (resetN all l x.toNat).set x.toNat (resetC all (rd_T47 l x)) := by
 obtain ⟨i, rfl⟩ := Int.eq_ofNat_of_zero_le a
 have hi : i < l.length := by omega
 have e : rd_T47 l (i : Int) = l[i] := by simp [rd_T47, hi]
 rw [e, show ((i : Int) + 1).toNat = i + 1 by omega, show (i : Int).toNat = i by omega, resetN_step all l i hi]
theorem resetN_keep (all : Bool) (l : List S47) (x : Int) (a : 0 ≤ x) (b : x < l.length) (hk : resetC all (rd_T47 l x) = rd_T47 l x) : resetN all l (x + 1).toNat = resetN all l x.toNat := by
 rw [resetN_next all l x a b, hk, ← resetN_rd all l x b]
 obtain ⟨i, rfl⟩ := Int.eq_ofNat_of_zero_le a
 have hi : i < (resetN all l i).length := by rw [resetN_len]; omega
 simp [rd_T47, hi]
theorem resetN_end (all : Bool) (l : List S47) (i : Nat) (h : l.length ≤ i) : resetN all l i = l.map (resetC all) := by
 unfold resetN; rw [List.take_of_length_le h, List.drop_eq_nil_of_le h, List.append_nil]
theorem R_offo {α : Type} {d : Kd α} {e base : Nat} {ok : Nat → Prop} {v : Value} {xs : List α} {w w1 : World} {g : Nat} (h : Kd.R d e w base ok v xs) (hE : d.E = []) (hne : some g ≠ v.ownBlock) (hm : ∀ k, k ≠ g → w1.heap[k]? = w.heap[k]?) : Kd.R d e w1 base ok v xs :=
 Kd.R_mono (Kd.R_step (Kd.R_tight hE h) (fun k hk _ => hm k (fun e_ => hne (by rw [← e_]; exact hk)))) (fun k hk => h.1 k hk.symm)
theorem own_new {α : Type} {d : Kd α} {e base g : Nat} {ok : Nat → Prop} {v : Value} {xs : List α} {w : World} (h : Kd.R d e w base ok v xs) (hg : g = w.heap.size) : some g ≠ v.ownBlock := fun hk => by
 have := own_lt h.2.choose_spec.1 g hk.symm
 omega
/-- host.Reset: a copy, modified no more: all of it, or what is not protected. -/
def host_Reset.f (b c : Int) (a : List (S47)) (d : Int) (e g a1 : Bool) : Option (Int × Int × (List (S47)) × Int × Bool × Bool) := if a.length ≤ 16383 then some (b, c, a.map (resetC a1), d, e, g) else none
theorem host_Reset.calls (s u : Int) (W : Option Addr) (X : Nat) (d : List (S47)) (y : Int) (z A a1 : Bool) (r1 r2 : Int) (r3 : List (S47)) (r4 : Int) (r5 r6 : Bool) (w : World) (ac : Kd.C k47 w W d.length d) (ab : d.length ≤ X) (h : host_Reset.f s u d y z A a1 = some (r1, r2, r3, r4, r5, r6)) :
  Calls Tryz.prog 17 #[.agg #[.int .i64 s, .int .i64 u, .slice W d.length X, .int .i64 y, .bool z, .bool A], .bool a1] w fun e w' => ∃ am : Value, e = .returned (.agg #[.int .i64 r1, .int .i64 r2, am, .int .i64 r4, .bool r5, .bool r6]) ∧ Kd.R k47 47 w' w.heap.size (fun _ => True) am r3 ∧ Below w.heap.size w w' := by
 unfold host_Reset.f at h
 by_cases hn : d.length ≤ 16383
 rotate_left
 ·rw [if_neg hn] at h; cases h
 rw [if_pos hn] at h
 simp only [Option.some.injEq, Prod.mk.injEq] at h
 obtain ⟨rfl, rfl, rfl, rfl, rfl, rfl⟩ := h
 have HR := Z ac
 have HL := Z ab
 have HN := Z hn
 have HC := Z (show grid_Copy.f s u d y z A = some (s, u, d, y, z, A) by unfold grid_Copy.f slices_Clone_shutter_api_Cell_shutter_api_Cell.f; rw [if_pos hn]; rfl)
 have HB := Z (Below.refl w.heap.size w)
 have hu := Tryz.underlying24
 have aK := Tryz.underlying47
 clear ac ab hn
 go_enter Tryz.func17, Tryz.ntmps17
 go_wp2_with (first
  | ((with_reducible refine gD_ 2 rfl ?_); refine bx_ 2 24 #[.int .i64 s, .int .i64 u, .slice W d.length X, .int .i64 y, .bool z, .bool A] ?_; intro g1 hg w1 hbox hb; have i := bs_ hb; have k := Z hbox; have l := Z (le_new hg (below_size bl_) : w.heap.size ≤ g1); clear HB; have HB := i; have a := k; have aI := l; clear i k l hb hbox hg)
  | ((with_reducible refine gD_ 4 rfl ?_); refine bx_ 4 24 zS_ ?_; intro g2 hg w2 hbox hb; have i := kb' a hb; have k := bs_ hb; have l := Z hbox; have n := Z (le_new hg (below_size bl_) : w.heap.size ≤ g2); have B := nl' a hg; clear a HB; have a := i; have HB := k; have g := l; have aJ := n; have NB := B; clear i k l n B hb hbox hg; have hnb := NB.out; have hnc := NB.out.symm; have z0 := cells6 a.out)
  | ((with_reducible refine gF_ 16 rfl ?_); refine gd_ (some 8) Tryz.func16 (grid_Copy.calls s u _ _ d y z A s u d y z A _ (Kd.C_below HR.out HB.out) HL.out HC.out) ?_; rintro e w3 ⟨v1, rfl, al, hb⟩; refine ⟨_, rfl, ?_⟩; have HO := Z (Kd.R_lower al (below_size bl_)); replace a := kb' a hb; replace g := kb' g hb; replace HB := bs_ hb; clear al hb; have x0 := cells6 a.out; obtain ⟨Ao, co, eo⟩ := Kd.R_slice HO.out; subst eo))
 go_loopg [12] d.length (fun m av w' => ∃ x : Int, av = .int .i64 x ∧ Aside0 (0 ≤ x) ∧ Aside0 (x + (m : Int) = d.length) ∧ Aside0 (Kd.R k47 47 w' w.heap.size (fun _ => True) (.slice Ao d.length co) (resetN a1 d x.toNat)) ∧ Aside0 (w'.heap[g1]? = some (.cells #[.int .i64 s, .int .i64 u, .slice Ao d.length co, .int .i64 y, .bool z, .bool A] 24 (0, 0))) ∧ Aside0 (w'.heap[g2]? = some (.cells zS_ 24 (0, 0))) ∧ Aside0 (Below w.heap.size w w'))
 case atStart => exact ⟨0, by first | rfl | (simp; done), ⟨by omega⟩, ⟨by omega⟩, ⟨R_off HO.out a.out (by decide) off2_⟩, ⟨put6 a.out⟩, ⟨blk_off g.out hnc off2_⟩, ⟨bl_⟩⟩
 case round =>
  clear HO a g HB
  obtain ⟨x, rfl, H, XM, HO, a, g, HB⟩ := hrel
  have Y := H.out
  have hxm := XM.out
  have u0 := cells6 a.out
  by_cases c : x < (d.length : Int)
  rotate_left
  ·have c0 := decide_eq_false c
   have EX := Z (show d.length ≤ x.toNat by omega)
   clear c hxm Y
   have s0 := cells6 g.out
   go_wp2
   refine rc1_ (put6 g.out) Tryz.underlying24 ?_
   exact ⟨_, rfl, by rw [← resetN_end a1 d _ EX.out]; exact R_off HO.out g.out (by decide) off2_, bl_⟩
  have c0 := decide_eq_true c
  have c1 : decide (0 ≤ x) = true := decide_eq_true Y
  cases gk with
  | zero => exact absurd c (by omega)
  | succ k1 =>
   have EN := Z (show x + 1 + ((k1 : Nat) : Int) = d.length by omega)
   have EW := Z (show wrap64 (x + 1) = x + 1 by have := HN.out; unfold wrap64; omega)
   have EX := Z c
   obtain ⟨ys, hys⟩ : ∃ ys, ys = resetN a1 d x.toNat := ⟨_, rfl⟩
   rw [← hys] at HO
   have YL := Z (show ys.length = d.length by rw [hys, resetN_len])
   have EY := Z hys
   have EC := Z (show rd_T47 ys x = rd_T47 d x by rw [hys]; exact resetN_rd a1 d x c)
   have hq : x < (d.length : Int) := c
   clear c hxm hys
   obtain ⟨go, co', eo', gb, gl, cl, HG⟩ := Kd.R_form HO.out (by have := YL.out; omega)
   (first | cases eo' | (injection eo' with ea_ en_ ec_; (first | subst ea_ | (injection ea_ with ea_; subst ea_)); subst ec_; clear en_))
   have GB := Z gb
   clear gb gl HG
   obtain ⟨ce, hcl, hM, hcc, hfr⟩ := Kd.R_elem HO.out z47 x Y hq
   obtain rfl := k47_openM hM
   obtain ⟨v, hv⟩ : ∃ v, v = ys.getD x.toNat z47 := ⟨_, rfl⟩
   rw [← hv] at hcc hM
   have EV := Z (show v = rd_T47 d x from hv.trans EC.out)
   obtain ⟨I, ⟨b, J, b3, b4⟩, b5⟩ := v
   have hx_0 : wr.cell? ⟨go, (x : Int).toNat * 6, none⟩ = some (.bool I) := hcc 0 _ rfl
   have hx_1 : wr.cell? ⟨go, (x : Int).toNat * 6 + 1, none⟩ = some (.bool b) := hcc 1 _ rfl
   have hx_2 : wr.cell? ⟨go, (x : Int).toNat * 6 + 2, none⟩ = some (.bool J) := hcc 2 _ rfl
   have hx_3 : wr.cell? ⟨go, (x : Int).toNat * 6 + 3, none⟩ = some (.int .i64 b3) := hcc 3 _ rfl
   have hx_4 : wr.cell? ⟨go, (x : Int).toNat * 6 + 4, none⟩ = some (.bool b4) := hcc 4 _ rfl
   have hx_5 : wr.cell? ⟨go, (x : Int).toNat * 6 + 5, none⟩ = some (.int .u8 b5) := hcc 5 _ rfl
   clear hcl hcc hfr hM hv
   replace Y := eq_true Y
   replace hq := eq_true hq
   cases a1 <;> cases b
   ·go_wp2_with (first | ((with_reducible refine gD_ 6 rfl ?_); refine bx_ 6 47 #[.bool false, .bool false, .bool false, .int .i64 0, .bool false, .int .u8 0] ?_; intro q hg w6 hbox hb; have i := rb' HO hb; have k := kb' a hb; have l := kb' g hb; have n := bs_ hb; have r := Z hbox; have B := Z (le_new hg (below_size bl_) : w.heap.size ≤ q); have E := nl' a hg; have F := nl' g hg; have G := Z (own_new HO.out hg); clear HO a g HB hb hbox hg; have HO := i; have a := k; have g := l; have HB := n; have o := r; have ak := B; have K := E; have L := F; have M := G; clear i k l n r B E F G; have k0 := cells6 o.out) | ((with_reducible refine gate_store (t := 47) (p := 6) rfl ?_); refine sx_ 47 6 ((((((w6.setCell ⟨q, 0, none⟩ (.bool I)).setCell ⟨q, 1, none⟩ (.bool false)).setCell ⟨q, 2, none⟩ (.bool J)).setCell ⟨q, 3, none⟩ (.int .i64 b3)).setCell ⟨q, 4, none⟩ (.bool b4)).setCell ⟨q, 5, none⟩ (.int .u8 b5)) ?_; intro w7 hw; replace HO : Aside0 (Kd.R k47 47 w7 w.heap.size (fun _ => True) (.slice (some ⟨go, 0, none⟩) d.length co) ys) := ⟨by rw [hw]; exact R_offo HO.out rfl M.out off2_⟩; replace a : Aside0 (w7.heap[g1]? = some (.cells #[.int .i64 s, .int .i64 u, .slice (some ⟨go, 0, none⟩) d.length co, .int .i64 y, .bool z, .bool A] 24 (0, 0))) := ⟨by rw [hw]; exact blk_off a.out K.out off2_⟩; replace g : Aside0 (w7.heap[g2]? = some (.cells zS_ 24 (0, 0))) := ⟨by rw [hw]; exact blk_off g.out L.out off2_⟩; replace o : Aside0 (w7.heap[q]? = some (.cells #[.bool I, .bool false, .bool J, .int .i64 b3, .bool b4, .int .u8 b5] 47 (0, 0))) := ⟨by rw [hw]; exact put6 o.out⟩; replace HB : Aside0 (Below w.heap.size w w7) := ⟨by rw [hw]; exact bl_⟩; clear hw k0; have k0 := cells6 o.out; have u0 := cells6 a.out; obtain ⟨ce, hcl, hM, hcc, hfr⟩ := Kd.R_elem HO.out z47 x H.out EX.out; rw [show ys.getD x.toNat z47 = _ from EC.out.trans EV.out.symm] at hM; obtain rfl := k47_openM hM; have hy_4 := hcc 4 _ rfl; (try simp only [show (k47).sz = 6 from rfl] at hy_4); have hz_4 := hfr 4; (try simp only [show (k47).sz = 6 from rfl] at hz_4); have HP := Kd.R_seg HO.out x H.out EX.out (seg := [.bool false]) (j := 4) hcl hcc (show 5 ≤ 6 from by decide) (x' := (⟨I, ⟨false, J, b3, false⟩, b5⟩ : S47)) (k47_mkM _ _ _ _) (fun _ hk => hk); clear hcl hcc hfr hM) | ((with_reducible refine gate_store (t := 4) (p := 29) rfl ?_); refine sx_ 4 29 (w7.setCell ⟨go, (x : Int).toNat * 6 + 4, none⟩ (.bool false)) ?_; intro V hw; have hg : w7.grownBy V (some go) := (by rw [hw]; exact HP.2); have hp_ : Kd.R k47 47 V w.heap.size (fun _ => True) (.slice (some ⟨go, 0, none⟩) d.length co) (ys.set x.toNat (⟨I, ⟨false, J, b3, false⟩, b5⟩ : S47)) := (by rw [hw]; exact HP.1); clear HP; have i := Z hp_; have k := Z (blk_grown a.out hg (Kd.R_ne HO.out a.out (by decide))); have l := Z (blk_grown g.out hg (Kd.R_ne HO.out g.out (by decide))); have n : Aside0 (Below w.heap.size w V) := ⟨by rw [hw]; exact below_set HB.out GB.out⟩; clear HO a g o HB hg hw hp_; have HO := i; have a := k; have g := l; have HB := n; clear i k l n))
    go_roundg k1
    case measure => omega
    case rel => exact ⟨x + 1, by first | (rw [EW.out]; done) | rw [EW.out], ⟨by have := H.out; omega⟩, EN, ⟨by rw [resetN_next false d x H.out EX.out, ← EY.out, ← EV.out]; exact HO.out⟩, a, g, HB⟩
   ·go_wp2_with (first | ((with_reducible refine gD_ 6 rfl ?_); refine bx_ 6 47 #[.bool false, .bool false, .bool false, .int .i64 0, .bool false, .int .u8 0] ?_; intro q hg w6 hbox hb; have i := rb' HO hb; have k := kb' a hb; have l := kb' g hb; have n := bs_ hb; have r := Z hbox; have B := Z (le_new hg (below_size bl_) : w.heap.size ≤ q); have E := nl' a hg; have F := nl' g hg; have G := Z (own_new HO.out hg); clear HO a g HB hb hbox hg; have HO := i; have a := k; have g := l; have HB := n; have o := r; have ak := B; have K := E; have L := F; have M := G; clear i k l n r B E F G; have k0 := cells6 o.out) | ((with_reducible refine gate_store (t := 47) (p := 6) rfl ?_); refine sx_ 47 6 ((((((w6.setCell ⟨q, 0, none⟩ (.bool I)).setCell ⟨q, 1, none⟩ (.bool true)).setCell ⟨q, 2, none⟩ (.bool J)).setCell ⟨q, 3, none⟩ (.int .i64 b3)).setCell ⟨q, 4, none⟩ (.bool b4)).setCell ⟨q, 5, none⟩ (.int .u8 b5)) ?_; intro w7 hw; replace HO : Aside0 (Kd.R k47 47 w7 w.heap.size (fun _ => True) (.slice (some ⟨go, 0, none⟩) d.length co) ys) := ⟨by rw [hw]; exact R_offo HO.out rfl M.out off2_⟩; replace a : Aside0 (w7.heap[g1]? = some (.cells #[.int .i64 s, .int .i64 u, .slice (some ⟨go, 0, none⟩) d.length co, .int .i64 y, .bool z, .bool A] 24 (0, 0))) := ⟨by rw [hw]; exact blk_off a.out K.out off2_⟩; replace g : Aside0 (w7.heap[g2]? = some (.cells zS_ 24 (0, 0))) := ⟨by rw [hw]; exact blk_off g.out L.out off2_⟩; replace o : Aside0 (w7.heap[q]? = some (.cells #[.bool I, .bool true, .bool J, .int .i64 b3, .bool b4, .int .u8 b5] 47 (0, 0))) := ⟨by rw [hw]; exact put6 o.out⟩; replace HB : Aside0 (Below w.heap.size w w7) := ⟨by rw [hw]; exact bl_⟩; clear hw k0; have k0 := cells6 o.out; have u0 := cells6 a.out))
    go_roundg k1
    case measure => omega
    case rel => exact ⟨x + 1, by first | (rw [EW.out]; done) | rw [EW.out], ⟨by have := H.out; omega⟩, EN, ⟨by rw [resetN_keep false d x H.out EX.out (by rw [← EV.out]; rfl), ← EY.out]; exact HO.out⟩, a, g, HB⟩
   ·go_wp2_with (first | ((with_reducible refine gD_ 6 rfl ?_); refine bx_ 6 47 #[.bool false, .bool false, .bool false, .int .i64 0, .bool false, .int .u8 0] ?_; intro q hg w6 hbox hb; have i := rb' HO hb; have k := kb' a hb; have l := kb' g hb; have n := bs_ hb; have r := Z hbox; have B := Z (le_new hg (below_size bl_) : w.heap.size ≤ q); have E := nl' a hg; have F := nl' g hg; have G := Z (own_new HO.out hg); clear HO a g HB hb hbox hg; have HO := i; have a := k; have g := l; have HB := n; have o := r; have ak := B; have K := E; have L := F; have M := G; clear i k l n r B E F G; have k0 := cells6 o.out) | ((with_reducible refine gate_store (t := 47) (p := 6) rfl ?_); refine sx_ 47 6 ((((((w6.setCell ⟨q, 0, none⟩ (.bool I)).setCell ⟨q, 1, none⟩ (.bool false)).setCell ⟨q, 2, none⟩ (.bool J)).setCell ⟨q, 3, none⟩ (.int .i64 b3)).setCell ⟨q, 4, none⟩ (.bool b4)).setCell ⟨q, 5, none⟩ (.int .u8 b5)) ?_; intro w7 hw; replace HO : Aside0 (Kd.R k47 47 w7 w.heap.size (fun _ => True) (.slice (some ⟨go, 0, none⟩) d.length co) ys) := ⟨by rw [hw]; exact R_offo HO.out rfl M.out off2_⟩; replace a : Aside0 (w7.heap[g1]? = some (.cells #[.int .i64 s, .int .i64 u, .slice (some ⟨go, 0, none⟩) d.length co, .int .i64 y, .bool z, .bool A] 24 (0, 0))) := ⟨by rw [hw]; exact blk_off a.out K.out off2_⟩; replace g : Aside0 (w7.heap[g2]? = some (.cells zS_ 24 (0, 0))) := ⟨by rw [hw]; exact blk_off g.out L.out off2_⟩; replace o : Aside0 (w7.heap[q]? = some (.cells #[.bool I, .bool false, .bool J, .int .i64 b3, .bool b4, .int .u8 b5] 47 (0, 0))) := ⟨by rw [hw]; exact put6 o.out⟩; replace HB : Aside0 (Below w.heap.size w w7) := ⟨by rw [hw]; exact bl_⟩; clear hw k0; have k0 := cells6 o.out; have u0 := cells6 a.out; obtain ⟨ce, hcl, hM, hcc, hfr⟩ := Kd.R_elem HO.out z47 x H.out EX.out; rw [show ys.getD x.toNat z47 = _ from EC.out.trans EV.out.symm] at hM; obtain rfl := k47_openM hM; have hy_4 := hcc 4 _ rfl; (try simp only [show (k47).sz = 6 from rfl] at hy_4); have hz_4 := hfr 4; (try simp only [show (k47).sz = 6 from rfl] at hz_4); have HP := Kd.R_seg HO.out x H.out EX.out (seg := [.bool false]) (j := 4) hcl hcc (show 5 ≤ 6 from by decide) (x' := (⟨I, ⟨false, J, b3, false⟩, b5⟩ : S47)) (k47_mkM _ _ _ _) (fun _ hk => hk); clear hcl hcc hfr hM) | ((with_reducible refine gate_store (t := 4) (p := 29) rfl ?_); refine sx_ 4 29 (w7.setCell ⟨go, (x : Int).toNat * 6 + 4, none⟩ (.bool false)) ?_; intro V hw; have hg : w7.grownBy V (some go) := (by rw [hw]; exact HP.2); have hp_ : Kd.R k47 47 V w.heap.size (fun _ => True) (.slice (some ⟨go, 0, none⟩) d.length co) (ys.set x.toNat (⟨I, ⟨false, J, b3, false⟩, b5⟩ : S47)) := (by rw [hw]; exact HP.1); clear HP; have i := Z hp_; have k := Z (blk_grown a.out hg (Kd.R_ne HO.out a.out (by decide))); have l := Z (blk_grown g.out hg (Kd.R_ne HO.out g.out (by decide))); have n : Aside0 (Below w.heap.size w V) := ⟨by rw [hw]; exact below_set HB.out GB.out⟩; clear HO a g o HB hg hw hp_; have HO := i; have a := k; have g := l; have HB := n; clear i k l n))
    go_roundg k1
    case measure => omega
    case rel => exact ⟨x + 1, by first | (rw [EW.out]; done) | rw [EW.out], ⟨by have := H.out; omega⟩, EN, ⟨by rw [resetN_next true d x H.out EX.out, ← EY.out, ← EV.out]; exact HO.out⟩, a, g, HB⟩
   go_wp2_with (first | ((with_reducible refine gD_ 6 rfl ?_); refine bx_ 6 47 #[.bool false, .bool false, .bool false, .int .i64 0, .bool false, .int .u8 0] ?_; intro q hg w6 hbox hb; have i := rb' HO hb; have k := kb' a hb; have l := kb' g hb; have n := bs_ hb; have r := Z hbox; have B := Z (le_new hg (below_size bl_) : w.heap.size ≤ q); have E := nl' a hg; have F := nl' g hg; have G := Z (own_new HO.out hg); clear HO a g HB hb hbox hg; have HO := i; have a := k; have g := l; have HB := n; have o := r; have ak := B; have K := E; have L := F; have M := G; clear i k l n r B E F G; have k0 := cells6 o.out) | ((with_reducible refine gate_store (t := 47) (p := 6) rfl ?_); refine sx_ 47 6 ((((((w6.setCell ⟨q, 0, none⟩ (.bool I)).setCell ⟨q, 1, none⟩ (.bool true)).setCell ⟨q, 2, none⟩ (.bool J)).setCell ⟨q, 3, none⟩ (.int .i64 b3)).setCell ⟨q, 4, none⟩ (.bool b4)).setCell ⟨q, 5, none⟩ (.int .u8 b5)) ?_; intro w7 hw; replace HO : Aside0 (Kd.R k47 47 w7 w.heap.size (fun _ => True) (.slice (some ⟨go, 0, none⟩) d.length co) ys) := ⟨by rw [hw]; exact R_offo HO.out rfl M.out off2_⟩; replace a : Aside0 (w7.heap[g1]? = some (.cells #[.int .i64 s, .int .i64 u, .slice (some ⟨go, 0, none⟩) d.length co, .int .i64 y, .bool z, .bool A] 24 (0, 0))) := ⟨by rw [hw]; exact blk_off a.out K.out off2_⟩; replace g : Aside0 (w7.heap[g2]? = some (.cells zS_ 24 (0, 0))) := ⟨by rw [hw]; exact blk_off g.out L.out off2_⟩; replace o : Aside0 (w7.heap[q]? = some (.cells #[.bool I, .bool true, .bool J, .int .i64 b3, .bool b4, .int .u8 b5] 47 (0, 0))) := ⟨by rw [hw]; exact put6 o.out⟩; replace HB : Aside0 (Below w.heap.size w w7) := ⟨by rw [hw]; exact bl_⟩; clear hw k0; have k0 := cells6 o.out; have u0 := cells6 a.out; obtain ⟨ce, hcl, hM, hcc, hfr⟩ := Kd.R_elem HO.out z47 x H.out EX.out; rw [show ys.getD x.toNat z47 = _ from EC.out.trans EV.out.symm] at hM; obtain rfl := k47_openM hM; have hy_4 := hcc 4 _ rfl; (try simp only [show (k47).sz = 6 from rfl] at hy_4); have hz_4 := hfr 4; (try simp only [show (k47).sz = 6 from rfl] at hz_4); have HP := Kd.R_seg HO.out x H.out EX.out (seg := [.bool false]) (j := 4) hcl hcc (show 5 ≤ 6 from by decide) (x' := (⟨I, ⟨true, J, b3, false⟩, b5⟩ : S47)) (k47_mkM _ _ _ _) (fun _ hk => hk); clear hcl hcc hfr hM) | ((with_reducible refine gate_store (t := 4) (p := 29) rfl ?_); refine sx_ 4 29 (w7.setCell ⟨go, (x : Int).toNat * 6 + 4, none⟩ (.bool false)) ?_; intro V hw; have hg : w7.grownBy V (some go) := (by rw [hw]; exact HP.2); have hp_ : Kd.R k47 47 V w.heap.size (fun _ => True) (.slice (some ⟨go, 0, none⟩) d.length co) (ys.set x.toNat (⟨I, ⟨true, J, b3, false⟩, b5⟩ : S47)) := (by rw [hw]; exact HP.1); clear HP; have i := Z hp_; have k := Z (blk_grown a.out hg (Kd.R_ne HO.out a.out (by decide))); have l := Z (blk_grown g.out hg (Kd.R_ne HO.out g.out (by decide))); have n : Aside0 (Below w.heap.size w V) := ⟨by rw [hw]; exact below_set HB.out GB.out⟩; clear HO a g o HB hg hw hp_; have HO := i; have a := k; have g := l; have HB := n; clear i k l n))
   go_roundg k1
   case measure => omega
   case rel => exact ⟨x + 1, by first | (rw [EW.out]; done) | rw [EW.out], ⟨by have := H.out; omega⟩, EN, ⟨by rw [resetN_next true d x H.out EX.out, ← EY.out, ← EV.out]; exact HO.out⟩, a, g, HB⟩
end

end Go.Proofs.YtphboakgkmjpbaaGreatDoor.P
